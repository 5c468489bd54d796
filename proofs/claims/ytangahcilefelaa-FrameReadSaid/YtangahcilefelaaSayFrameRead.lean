-- written by this session's own program (wip/tools/myprint.py), over the kit's print
import Derived.Test.YtangahcilefelaaQx13
import Derived.Test.YtangahcilefelaaRdQ
namespace Go.Proofs.Ytangahcilefelaa.Q
open Go.RowKit Go.Proofs.YtangahcilefelaaW.PrintWords Go.Proofs.YtangahcilefelaaW.PrintLast
def portreevelaw08_FrameRead.Pure : Prop := ∀ (l0 : List Int) (a1 : Bool), ((l0).length * 1 ≤ 140737488351232 ∧ ∀ a_ ∈ l0, (Lit.int .u8 a_).wf = true) → ∃ k, portreevelaw08_FrameRead.f k l0 a1 = some true
end Go.Proofs.Ytangahcilefelaa.Q
