-- written by this session's own program (wip/tools/myprint.py), over the kit's print
import Derived.Test.YtoenogjedmnnlaaDoorQx18
import Derived.Test.YtoenogjedmnnlaaDoorRdQ
namespace Go.Proofs.YtoenogjedmnnlaaDoor.Q
open Go.RowKit Go.Proofs.YtoenogjedmnnlaaDoorW.PrintWords Go.Proofs.YtoenogjedmnnlaaDoorW.PrintLast
def portreevelaw12_AutoSends.Pure : Prop := ∀ (a0 : Int) (a1 : Bool), (Lit.int .u8 a0).wf = true → ∃ k, portreevelaw12_AutoSends.f k a0 a1 = some true
end Go.Proofs.YtoenogjedmnnlaaDoor.Q
