/- What sends a request leads to a timed state; a timeout is of a timed state alone; a used up one ends in Closed or Stopped. -/
import Derived.Test.YtdjicabmofbidaaDoorSayFsmTimes
import Derived.Test.YtdjicabmofbidaaDoorBase
namespace Go.Proofs.YtdjicabmofbidaaDoor.Pure
set_option linter.unusedVariables false
open Go Go.RowKit Go.Proofs.YtdjicabmofbidaaDoor.Q Go.Proofs.YtdjicabmofbidaaDoorK Go.Proofs.YtdjicabmofbidaaDoorW.PrintWords Go.Proofs.YtdjicabmofbidaaDoorW.PrintLast Go.Proofs.YtdjicabmofbidaaDoorW.PrintMore

set_option maxRecDepth 100000 in
theorem FsmTimes : portreevelaw11_FsmTimes.Pure := by
  intro a b ha hb
  refine ⟨60, ?_⟩
  unfold portreevelaw11_FsmTimes.f
  rw [shown_true, Option.bind_some]
  rcases in_or_out a b with ⟨s, e, hs, he, rfl, rfl⟩ | h
  · clear ha hb
    revert s e
    exact all160 (by decide +kernel)
  · rw [next_out h, Option.bind_some]
    simp only [Bool.false_eq_true, if_false, if_true, timed_eq, Option.bind_some]
    split
    · rw [decide_eq_false (by omega)]; rfl
    · split
      · rw [decide_eq_false (by omega)]; rfl
      · rfl
end Go.Proofs.YtdjicabmofbidaaDoor.Pure
