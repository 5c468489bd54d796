-- written by this session's own program (wip/tools/myprint.py), over the kit's print
import Derived.Test.YtnhfhepakimncaaQx0
namespace Go.Proofs.Ytnhfhepakimncaa.Q
open Go.RowKit Go.Proofs.YtnhfhepakimncaaW.PrintWords Go.Proofs.YtnhfhepakimncaaW.PrintLast Go.Proofs.YtnhfhepakimncaaW.PrintMore
open Go.Proofs.YtnhfhepakimncaaV
attribute [local go_sem] max2_int min2_int max_two min_two max_three min_three max_four min_four   -- for this text's walks alone
set_option linter.unusedVariables false
set_option linter.unusedSimpArgs false

/-! disk.own: the same bytes, in memory of their own. -/
def disk_own.f (l0 : List Int) : Option (List Int) := if l0.length < 140737488355328 then some l0 else none
theorem disk_own.list (l : List Int) : l.take (min l.length (List.replicate ((l.length : Int)).toNat (0 : Int)).length) ++ (List.replicate ((l.length : Int)).toNat (0 : Int)).drop (min l.length (List.replicate ((l.length : Int)).toNat (0 : Int)).length) = l := by
  rw [List.length_replicate, Int.toNat_natCast, Nat.min_self, List.take_length, List.drop_eq_nil_of_le (by rw [List.length_replicate]; omega), List.append_nil]
set_option maxHeartbeats 1000000 in
set_option maxRecDepth 100000 in
theorem disk_own.calls (A0 : Option Addr) (c0 : Nat) (l0 : List Int) (r : List Int) (w : World) (hr0 : Kd.C (Kd.int .u8) w A0 l0.length l0) (hc0 : l0.length ≤ c0) (h : disk_own.f l0 = some r) :
    Calls Try.prog 27 #[.slice A0 l0.length c0] w fun e w' => ∃ v0_ : Value, e = .returned (v0_) ∧ Kd.R (Kd.int .u8) 5 w' w.heap.size (fun _ => True) v0_ r ∧ Below w.heap.size w w' := by
  obtain ⟨hlen, rfl⟩ : l0.length < 140737488355328 ∧ l0 = r := by
    unfold disk_own.f at h
    split at h
    · exact ⟨by assumption, Option.some.inj h⟩
    · cases h
  clear h
  have hmax : l0.length ≤ 9223372036854775807 := hr0.2.1
  have HR := Aside0.mk hr0
  have HC := Aside0.mk hc0
  clear hr0 hc0
  go_enter Try.func27, Try.ntmps27
  go_wp2_with (first
    | ((with_reducible refine gate_dst (N := 6) rfl ?_); refine Kd.R_make (Kd.int .u8) (w0 := w) w.heap.size 5 rfl (N := 6) rfl 26 _ _ rfl (l0.length : Int) rfl rfl Try.underlying26 (.int .u8 0) 1 info5 rfl (by decide) (by omega) 0 (ok := fun _ => True) (okp := fun _ => True) rfl (fun _ hk => hk) trivial (by omega) (by omega) ?mB ?mS ?_; (case mB => exact Below.refl _ _); (case mS => exact Nat.le_refl _); intro v1 w1 ho1 hb1 hg1 hn1; clear hg1 hn1; have HO := Aside0.mk ho1; have HB := Aside0.mk hb1; clear ho1 hb1)
    | ((with_reducible refine gate_builtin (b := .copy) (xs := #[.tmp 7, .tmp 8]) rfl ?_); refine Kd.R_copy (0 : Int) (w0 := w) w.heap.size rfl (.tmp 7) (.tmp 8) 26 26 5 rfl Try.underlying26 (by kernel_rfl) _ (List.replicate ((l0.length : Int)).toNat 0) l0 _ _ _ (fun _ => True) rfl rfl HO.out (Kd.C_below HR.out HB.out) HB.out (below_size HB.out) ?_; intro w2 ho hb hg; clear hg; rw [disk_own.list l0] at ho; clear HO HB; have HO := Aside0.mk ho; have HB := Aside0.mk hb; clear ho hb))
  go_ret
  exact ⟨_, rfl, HO.out, HB.out⟩

end Go.Proofs.Ytnhfhepakimncaa.Q
