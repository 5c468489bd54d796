/- The layer below comes up just where it is not, and goes down just where it is. -/
import Derived.Test.YtdjicabmofbidaaDoorSayFsmBelow
import Derived.Test.YtdjicabmofbidaaDoorBase
namespace Go.Proofs.YtdjicabmofbidaaDoor.Pure
set_option linter.unusedVariables false
open Go Go.RowKit Go.Proofs.YtdjicabmofbidaaDoor.Q Go.Proofs.YtdjicabmofbidaaDoorK Go.Proofs.YtdjicabmofbidaaDoorW.PrintWords Go.Proofs.YtdjicabmofbidaaDoorW.PrintLast Go.Proofs.YtdjicabmofbidaaDoorW.PrintMore

set_option maxRecDepth 100000 in
theorem FsmBelow : portreevelaw11_FsmBelow.Pure := by
  intro a ha
  unfold portreevelaw11_FsmBelow.f
  rw [shown_true, Option.bind_some]
  by_cases h : 0 ≤ a ∧ a < 10
  · obtain ⟨s, rfl⟩ : ∃ s : Nat, a = (s : Int) := ⟨a.toNat, by omega⟩
    have hs : s < 10 := by omega
    clear ha h
    revert s
    exact all10 (by decide +kernel)
  · rw [next_out (by omega), Option.bind_some, next_out (by omega), Option.bind_some]
    have h0 : ¬ a = 0 := by omega
    have h1 : (a == 1) = false := by rw [beq_eq_false_iff_ne]; omega
    rw [if_neg h0, h1]
    by_cases h2 : a ≥ 2
    · rw [if_pos h2, decide_eq_false (show ¬ a < 10 by omega)]
      rfl
    · rw [if_neg h2]
      rfl
end Go.Proofs.YtdjicabmofbidaaDoor.Pure
