/- A layer is told to be up just when Opened is come to, down just when it is left; no action comes twice. -/
import Derived.Test.YtdjicabmofbidaaDoorSayFsmLayers
import Derived.Test.YtdjicabmofbidaaDoorBase
namespace Go.Proofs.YtdjicabmofbidaaDoor.Pure
set_option linter.unusedVariables false
open Go Go.RowKit Go.Proofs.YtdjicabmofbidaaDoor.Q Go.Proofs.YtdjicabmofbidaaDoorK Go.Proofs.YtdjicabmofbidaaDoorW.PrintWords Go.Proofs.YtdjicabmofbidaaDoorW.PrintLast Go.Proofs.YtdjicabmofbidaaDoorW.PrintMore

set_option maxRecDepth 100000 in
theorem FsmLayers : portreevelaw11_FsmLayers.Pure := by
  intro a b ha hb
  refine ⟨60, ?_⟩
  unfold portreevelaw11_FsmLayers.f
  rw [shown_true, Option.bind_some]
  rcases in_or_out a b with ⟨s, e, hs, he, rfl, rfl⟩ | h
  · clear ha hb
    revert s e
    exact all160 (by decide +kernel)
  · rw [next_out h, Option.bind_some]
    simp
end Go.Proofs.YtdjicabmofbidaaDoor.Pure
