-- written by this session's own program (wip/tools/myprint.py), over the kit's print
import Derived.Test.YtdjicabmofbidaaDoorQx0
import Derived.Test.YtdjicabmofbidaaDoorGl
import Derived.Test.YtdjicabmofbidaaDoorShelf
namespace Go.Proofs.YtdjicabmofbidaaDoor.Q
open Go.RowKit Go.Proofs.YtdjicabmofbidaaDoorW.PrintWords Go.Proofs.YtdjicabmofbidaaDoorW.PrintLast Go.Proofs.YtdjicabmofbidaaDoorW.PrintMore
open Go.Proofs.YtdjicabmofbidaaDoorV Go.Proofs.YtdjicabmofbidaaDoorG
attribute [local go_sem] max2_int min2_int max_two min_two max_three min_three max_four min_four   -- for this text's walks alone
set_option linter.unusedVariables false
set_option linter.unusedSimpArgs false

/-! fsm.Name: a state's name: a text, parted at its blanks. -/
open Go.Proofs.YtdjicabmofbidaaDoorG
def fsm_names : List UInt8 := [73, 110, 105, 116, 105, 97, 108, 32, 83, 116, 97, 114, 116, 105, 110, 103, 32, 67, 108, 111, 115, 101, 100, 32, 83, 116, 111, 112, 112, 101, 100, 32, 67, 108, 111, 115, 105, 110, 103, 32, 83, 116, 111, 112, 112, 105, 110, 103, 32, 82, 101, 113, 45, 83, 101, 110, 116, 32, 65, 99, 107, 45, 82, 99, 118, 100, 32, 65, 99, 107, 45, 83, 101, 110, 116, 32, 79, 112, 101, 110, 101, 100]
def fsm_nm (s : Nat) : List UInt8 := (Lib.fields fsm_names).getD s []
def fsm_Name.f (a0 : Int) : Option (ByteArray) := if 0 ≤ a0 ∧ a0 < 10 then some ⟨(fsm_nm a0.toNat).toArray⟩ else some ⟨#[]⟩
theorem fsm_names_ok : fsm_names.length ≤ 90 ∧ (∀ b ∈ fsm_names, b.toNat < 128) ∧ (Lib.fields fsm_names).length = 10 := by decide +kernel
def fsm_isNames (w : World) (E : Ending) (w' : World) : Prop := ∃ b, E = .returned (.slice (some ⟨b, 0, none⟩) 10 10) ∧ (∀ s, s < 10 → w'.cell? ⟨b, s, none⟩ = some (.string ⟨(fsm_nm s).toArray⟩)) ∧ Below w.heap.size w w'
theorem fsm_names_at (w : World) (hgl : Gl w) : Calls Tryd.prog 21 #[.string ⟨fsm_names.toArray⟩] w (fsm_isNames w) := by
  obtain ⟨h1, h2, h3⟩ := fsm_names_ok
  refine (Tryd.strings_Fields ⟨fsm_names.toArray⟩ w (by show fsm_names.toArray.size < _; rw [List.size_toArray]; omega) (fun j b hb => h2 b (by have := List.mem_of_getElem? hb; simpa using this)) hgl.out).mono ?_
  rintro E w' ⟨rfl, rfl⟩
  have e1 : (⟨fsm_names.toArray⟩ : ByteArray).data.toList = fsm_names := rfl
  rw [e1, h3]
  refine ⟨_, rfl, fun s hs => ?_, (Below.refl _ _).alloc (Nat.le_refl _) _⟩
  have hb := (MapKept.heap_alloc w (.cells ((Lib.fields fsm_names).map fun l => Value.string ⟨l.toArray⟩).toArray 9)).1
  rw [blk_cell hb s]
  have hs2 : s < (Lib.fields fsm_names).length := by omega
  unfold fsm_nm
  simp [List.getD_eq_getElem?_getD, List.getElem?_eq_getElem hs2]
set_option maxHeartbeats 2000000 in
set_option maxRecDepth 100000 in
theorem fsm_Name.calls (a0 : Int) (r : ByteArray) (w : World) (hgl : Gl w) (h : fsm_Name.f a0 = some r) :
    Calls Tryd.prog 17 #[.int .i64 a0] w fun e w' => e = .returned (.string r) ∧ Below w.heap.size w w' := by
  have GL := Aside0.mk hgl
  unfold fsm_Name.f at h
  by_cases h1 : a0 < 0
  · rw [if_neg (by omega)] at h
    obtain rfl := Option.some.inj h
    clear h hgl
    go_enter Tryd.func17, Tryd.ntmps17
    go_wp2_with (first | (go_at_call 21; refine (fsm_names_at _ GL.out).mono ?_; rintro E w3 ⟨g, rfl, hcl, hB⟩; have HB := Aside0.mk hB; clear hcl hB))
    go_ret
    exact ⟨rfl, HB.out⟩
  by_cases h2 : 10 ≤ a0
  · rw [if_neg (by omega)] at h
    obtain rfl := Option.some.inj h
    clear h hgl
    go_enter Tryd.func17, Tryd.ntmps17
    go_wp2_with (first | (go_at_call 21; refine (fsm_names_at _ GL.out).mono ?_; rintro E w3 ⟨g, rfl, hcl, hB⟩; have HB := Aside0.mk hB; clear hcl hB))
    go_ret
    exact ⟨rfl, HB.out⟩
  rw [if_pos ⟨by omega, by omega⟩] at h
  obtain rfl := Option.some.inj h
  obtain ⟨s, rfl⟩ : ∃ s : Nat, a0 = (s : Int) := ⟨a0.toNat, by omega⟩
  obtain ⟨f, hf⟩ : ∃ f : ByteArray, Aside0 (f = ⟨(fsm_nm s).toArray⟩) := ⟨_, Aside0.mk rfl⟩
  have d1 : (0 : Int) ≤ (s : Int) := by omega
  have d2 : (s : Int) < 10 := by omega
  clear h hgl h1 h2
  rw [Int.toNat_natCast, ← hf.out]
  go_enter Tryd.func17, Tryd.ntmps17
  go_wp2_with (first | (go_at_call 21; refine (fsm_names_at _ GL.out).mono ?_; rintro E w3 ⟨g, rfl, hcl, hB⟩; have hc0 := hcl s (by omega); rw [← hf.out] at hc0; have HB := Aside0.mk hB; clear hcl hB))
  go_ret
  exact ⟨rfl, HB.out⟩

end Go.Proofs.YtdjicabmofbidaaDoor.Q
