/- A layer that is told to close never sends that it is ready: in Closing and Stopping nothing is acknowledged. -/
import Derived.Test.YtdjicabmofbidaaDoorSayFsmClosed
import Derived.Test.YtdjicabmofbidaaDoorBase
namespace Go.Proofs.YtdjicabmofbidaaDoor.Pure
set_option linter.unusedVariables false
open Go Go.RowKit Go.Proofs.YtdjicabmofbidaaDoor.Q Go.Proofs.YtdjicabmofbidaaDoorK Go.Proofs.YtdjicabmofbidaaDoorW.PrintWords Go.Proofs.YtdjicabmofbidaaDoorW.PrintLast Go.Proofs.YtdjicabmofbidaaDoorW.PrintMore

set_option maxRecDepth 100000 in
theorem closed_in : ∀ e : Nat, e < 16 → portreevelaw11_FsmClosed.l0 60 (e : Int) true 4 = some true := by decide +kernel
theorem FsmClosed : portreevelaw11_FsmClosed.Pure := by
  intro b hb
  refine ⟨60, ?_⟩
  unfold portreevelaw11_FsmClosed.f
  rw [shown_true, Option.bind_some]
  by_cases h : 0 ≤ b ∧ b < 16
  · obtain ⟨e, rfl⟩ : ∃ e : Nat, b = (e : Int) := ⟨b.toNat, by omega⟩
    exact closed_in e (by omega)
  · simp only [portreevelaw11_FsmClosed.l0, next_out (a := 4) (b := b) (by omega), next_out (a := 5) (b := b) (by omega), Option.bind_some, Bool.false_eq_true, if_false, portreevelaw11_FsmClosed.j1, show (4 : Int) ≤ 5 from by omega, show (5 : Int) ≤ 5 from by omega, if_true, show wrap64 (4 + 1) = 5 by decide +kernel, show wrap64 (5 + 1) = 6 by decide +kernel, show ¬ ((6 : Int) ≤ 5) from by omega]
end Go.Proofs.YtdjicabmofbidaaDoor.Pure
