-- written by this session's own program (wip/tools/myprint.py), over the kit's print
import Derived.Test.YtoenogjedmnnlaaDoorQx15
import Derived.Test.YtoenogjedmnnlaaDoorRdQ
namespace Go.Proofs.YtoenogjedmnnlaaDoor.Q
open Go.RowKit Go.Proofs.YtoenogjedmnnlaaDoorW.PrintWords Go.Proofs.YtoenogjedmnnlaaDoorW.PrintLast
def portreevelaw12_AutoEnds.Pure : Prop := ∀ (a0_0 : Int) (a0_1 : Int) (a0_2 : Int) (a0_3 : Int) (a1 : Int), (Lit.int .i64 a0_0).wf = true → (Lit.int .i64 a0_1).wf = true → (Lit.int .i64 a0_2).wf = true → (Lit.int .u8 a0_3).wf = true → (Lit.int .i64 a1).wf = true → ∃ k, portreevelaw12_AutoEnds.f k a0_0 a0_1 a0_2 a0_3 a1 = some true
end Go.Proofs.YtoenogjedmnnlaaDoor.Q
