/- What the state table's functions compute, over plain numbers: within the table by reckoning, outside it nothing. -/
import Derived.Test.YtdjicabmofbidaaDoorQx2
import Derived.Test.YtdjicabmofbidaaDoorQx3
import Derived.Test.YtdjicabmofbidaaDoorQx4
import Derived.Test.YtdjicabmofbidaaDoorQx5
import Derived.Test.YtdjicabmofbidaaDoorPureKit
namespace Go.Proofs.YtdjicabmofbidaaDoor.Pure
set_option linter.unusedVariables false
open Go Go.RowKit Go.Proofs.YtdjicabmofbidaaDoor.Q Go.Proofs.YtdjicabmofbidaaDoorK Go.Proofs.YtdjicabmofbidaaDoorW.PrintWords Go.Proofs.YtdjicabmofbidaaDoorW.PrintLast Go.Proofs.YtdjicabmofbidaaDoorW.PrintMore
set_option maxRecDepth 100000

theorem in_or_out (a b : Int) : (∃ s e : Nat, s < 10 ∧ e < 16 ∧ a = (s : Int) ∧ b = (e : Int)) ∨ ¬ (0 ≤ a ∧ a < 10 ∧ 0 ≤ b ∧ b < 16) := by
  by_cases h : 0 ≤ a ∧ a < 10 ∧ 0 ≤ b ∧ b < 16
  · exact Or.inl ⟨a.toNat, b.toNat, by omega, by omega, by omega, by omega⟩
  · exact Or.inr h
theorem all160 {P : Nat → Nat → Prop} [∀ s e, Decidable (P s e)] (h : ((List.range 10).all fun s => (List.range 16).all fun e => decide (P s e)) = true) : ∀ s e : Nat, s < 10 → e < 16 → P s e := by
  intro s e hs he
  have h1 := List.all_eq_true.1 h s (List.mem_range.2 hs)
  have h2 := List.all_eq_true.1 h1 e (List.mem_range.2 he)
  exact of_decide_eq_true h2
theorem all10 {P : Nat → Prop} [∀ s, Decidable (P s)] (h : ((List.range 10).all fun s => decide (P s)) = true) : ∀ s : Nat, s < 10 → P s := fun s hs => of_decide_eq_true (List.all_eq_true.1 h s (List.mem_range.2 hs))
theorem next_out {a b : Int} (h : ¬ (0 ≤ a ∧ a < 10 ∧ 0 ≤ b ∧ b < 16)) : fsm_Next.f a b = some ([], a, false) := by
  unfold fsm_Next.f
  rw [if_neg h]
theorem timed_eq (a : Int) : fsm_Timed.f a = some (decide (4 ≤ a ∧ a ≤ 8)) := by
  unfold fsm_Timed.f
  by_cases h : a ≥ 4
  · rw [if_pos h]
    simp [h]
  · rw [if_neg h, decide_eq_false (fun h2 => h h2.1)]
theorem names_in : ∀ s : Nat, s < 10 → (fsm_Name.f (s : Int)).map (fun x => x.data.toList) = some (fsm_nm s) := by decide +kernel
theorem name_in (s : Nat) (h : s < 10) : ∃ n, fsm_Name.f (s : Int) = some n ∧ n.toList = fsm_nm s := by
  obtain ⟨n, h1, h2⟩ := Option.map_eq_some_iff.1 (names_in s h)
  exact ⟨n, h1, by rw [ByteArray.toList_eq]; exact h2⟩
theorem name_out {a : Int} (h : ¬ (0 ≤ a ∧ a < 10)) : fsm_Name.f a = some ⟨#[]⟩ := by
  unfold fsm_Name.f
  rw [if_neg h]
theorem toList_nil : (⟨#[]⟩ : ByteArray).toList = [] := by rw [ByteArray.toList_eq]
theorem nm_ne : ∀ s : Nat, s < 10 → fsm_nm s ≠ [] := by decide +kernel
theorem nm_inj : ∀ s, s < 10 → ∀ t, t < 10 → (fsm_nm s == fsm_nm t) = (s == t) := by decide +kernel
theorem shown_true : portreevelaw11_shown.f = some true := by
  have h1 : fsm_Next.f 1 0 = some ([5, 7], 6, true) := by decide +kernel
  have h2 : fsm_Next.f 7 6 = some ([8, 1], 9, true) := by decide +kernel
  obtain ⟨n, h3, h4⟩ := name_in 9 (by decide)
  have h5 : fsm_nm 9 = [79, 112, 101, 110, 101, 100] := by decide +kernel
  have h6 : fsm_Timed.f 4 = some true := by decide +kernel
  unfold portreevelaw11_shown.f portreevelaw11_shown_g.f
  rw [h1, h2, h6, show ((9 : Int)) = ((9 : Nat) : Int) from rfl, h3]
  simp [h4, h5, rd]
end Go.Proofs.YtdjicabmofbidaaDoor.Pure
