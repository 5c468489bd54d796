-- written by this session's own program (wip/tools/myprint.py), over the kit's print
import Derived.Test.YtdjicabmofbidaaDoorQx12
import Derived.Test.YtdjicabmofbidaaDoorRdQ
namespace Go.Proofs.YtdjicabmofbidaaDoor.Q
open Go.RowKit Go.Proofs.YtdjicabmofbidaaDoorW.PrintWords Go.Proofs.YtdjicabmofbidaaDoorW.PrintLast
def portreevelaw11_FsmAgrees.Pure : Prop := ∀ (a0 : Int) (a1 : Int), (Lit.int .i64 a0).wf = true → (Lit.int .i64 a1).wf = true → portreevelaw11_FsmAgrees.f a0 a1 = some true
end Go.Proofs.YtdjicabmofbidaaDoor.Q
