-- written by this session's own program (wip/tools/myprint.py), over the kit's print
import Derived.Test.YtdjicabmofbidaaDoorQx13
import Derived.Test.YtdjicabmofbidaaDoorRdQ
namespace Go.Proofs.YtdjicabmofbidaaDoor.Q
open Go.RowKit Go.Proofs.YtdjicabmofbidaaDoorW.PrintWords Go.Proofs.YtdjicabmofbidaaDoorW.PrintLast
def portreevelaw11_FsmBelow.Pure : Prop := ∀ (a0 : Int), (Lit.int .i64 a0).wf = true → portreevelaw11_FsmBelow.f a0 = some true
end Go.Proofs.YtdjicabmofbidaaDoor.Q
