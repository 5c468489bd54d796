-- written by this session's own program (wip/tools/myprint.py), over the kit's print
import Derived.Test.YtdjicabmofbidaaDoorQx9
import Derived.Test.YtdjicabmofbidaaDoorRdQ
namespace Go.Proofs.YtdjicabmofbidaaDoor.Q
open Go.RowKit Go.Proofs.YtdjicabmofbidaaDoorW.PrintWords Go.Proofs.YtdjicabmofbidaaDoorW.PrintLast
def portreevelaw11_FsmAll.Pure : Prop := ∀ (a0 : Bool), ∃ k, portreevelaw11_FsmAll.f k a0 = some true
end Go.Proofs.YtdjicabmofbidaaDoor.Q
