/- All of the table is as the document says, whatever is asked. -/
import Derived.Test.YtdjicabmofbidaaDoorSayFsmAll
import Derived.Test.YtdjicabmofbidaaDoorBase
namespace Go.Proofs.YtdjicabmofbidaaDoor.Pure
set_option linter.unusedVariables false
open Go Go.RowKit Go.Proofs.YtdjicabmofbidaaDoor.Q Go.Proofs.YtdjicabmofbidaaDoorK Go.Proofs.YtdjicabmofbidaaDoorW.PrintWords Go.Proofs.YtdjicabmofbidaaDoorW.PrintLast Go.Proofs.YtdjicabmofbidaaDoorW.PrintMore

set_option maxRecDepth 100000 in
theorem FsmAll : portreevelaw11_FsmAll.Pure := by
  intro a
  refine ⟨900, ?_⟩
  unfold portreevelaw11_FsmAll.f
  rw [shown_true, Option.bind_some]
  revert a
  decide +kernel
end Go.Proofs.YtdjicabmofbidaaDoor.Pure
