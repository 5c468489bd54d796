/- Each state has a name of its own, and no other number has one. -/
import Derived.Test.YtdjicabmofbidaaDoorSayFsmNames
import Derived.Test.YtdjicabmofbidaaDoorBase
namespace Go.Proofs.YtdjicabmofbidaaDoor.Pure
set_option linter.unusedVariables false
open Go Go.RowKit Go.Proofs.YtdjicabmofbidaaDoor.Q Go.Proofs.YtdjicabmofbidaaDoorK Go.Proofs.YtdjicabmofbidaaDoorW.PrintWords Go.Proofs.YtdjicabmofbidaaDoorW.PrintLast Go.Proofs.YtdjicabmofbidaaDoorW.PrintMore

set_option maxRecDepth 100000 in
theorem FsmNames : portreevelaw11_FsmNames.Pure := by
  intro a b ha hb
  refine ⟨60, ?_⟩
  unfold portreevelaw11_FsmNames.f
  rw [shown_true, Option.bind_some]
  have key : ∀ x, x = decide (0 ≤ a ∧ a < 10) → portreevelaw11_FsmNames.j0 60 a b true x = some true := by
    rintro x rfl
    have key2 : ∀ y, y = decide (0 ≤ b ∧ b < 10) → portreevelaw11_FsmNames.j1 59 a b true (decide (0 ≤ a ∧ a < 10)) y = some true := by
      rintro y rfl
      simp only [portreevelaw11_FsmNames.j1, if_true, timed_eq, Option.bind_some]
      by_cases h1 : 0 ≤ a ∧ a < 10
      · obtain ⟨s, rfl⟩ : ∃ s : Nat, a = (s : Int) := ⟨a.toNat, by omega⟩
        obtain ⟨n, hn1, hn2⟩ := name_in s (by omega)
        have hne := nm_ne s (by omega)
        rw [hn1, Option.bind_some, Option.bind_some, hn2, decide_eq_true h1]
        by_cases h2 : 0 ≤ b ∧ b < 10
        · obtain ⟨t, rfl⟩ : ∃ t : Nat, b = (t : Int) := ⟨b.toNat, by omega⟩
          obtain ⟨m, hm1, hm2⟩ := name_in t (by omega)
          have hinj := nm_inj s (by omega) t (by omega)
          have hc : ((s : Int) == (t : Int)) = (s == t) := by rw [Bool.eq_iff_iff]; simp only [beq_iff_eq]; omega
          rw [hm1, Option.bind_some, hm2, hinj, hc, decide_eq_true h2]
          simp [hne]
        · rw [decide_eq_false h2]
          simp [hne]
      · have h3 : ¬ (4 ≤ a ∧ a ≤ 8) := by omega
        rw [name_out h1, Option.bind_some, toList_nil, decide_eq_false h1, decide_eq_false h3]
        simp
    rw [portreevelaw11_FsmNames.j0]
    by_cases h : b ≥ 0
    · rw [if_pos h]
      exact key2 _ (by simp [h])
    · rw [if_neg h]
      exact key2 _ (by simp [h])
  by_cases h : a ≥ 0
  · rw [if_pos h]
    exact key _ (by simp [h])
  · rw [if_neg h]
    exact key _ (by simp [h])
end Go.Proofs.YtdjicabmofbidaaDoor.Pure
