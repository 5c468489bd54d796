/- Opened is come to just when both sides have agreed. -/
import Derived.Test.YtdjicabmofbidaaDoorSayFsmAgrees
import Derived.Test.YtdjicabmofbidaaDoorBase
namespace Go.Proofs.YtdjicabmofbidaaDoor.Pure
set_option linter.unusedVariables false
open Go Go.RowKit Go.Proofs.YtdjicabmofbidaaDoor.Q Go.Proofs.YtdjicabmofbidaaDoorK Go.Proofs.YtdjicabmofbidaaDoorW.PrintWords Go.Proofs.YtdjicabmofbidaaDoorW.PrintLast Go.Proofs.YtdjicabmofbidaaDoorW.PrintMore

set_option maxRecDepth 100000 in
theorem FsmAgrees : portreevelaw11_FsmAgrees.Pure := by
  intro a b ha hb
  unfold portreevelaw11_FsmAgrees.f
  rw [shown_true, Option.bind_some]
  rcases in_or_out a b with ⟨s, e, hs, he, rfl, rfl⟩ | h
  · clear ha hb
    revert s e
    exact all160 (by decide +kernel)
  · rw [next_out h, Option.bind_some]
    simp only [Bool.false_eq_true, if_false, if_true]
    by_cases h7 : a = 7
    · rw [if_pos h7, if_neg (by omega), if_neg (by omega)]
      rfl
    · rw [if_neg h7]
      by_cases h8 : a = 8
      · rw [if_pos h8]
        have : (b == 8) = false := by rw [beq_eq_false_iff_ne]; omega
        rw [this]
        rfl
      · rw [if_neg h8]
        rfl
end Go.Proofs.YtdjicabmofbidaaDoor.Pure
