-- written by this session's own program (wip/tools/myprint.py), over the kit's print
import Derived.Test.YtangahcilefelaaQx21
import Derived.Test.YtangahcilefelaaRdQ
namespace Go.Proofs.Ytangahcilefelaa.Q
open Go.RowKit Go.Proofs.YtangahcilefelaaW.PrintWords Go.Proofs.YtangahcilefelaaW.PrintLast
def portreevelaw08_FrameRow.Pure : Prop := ∀ (l0 : List (S25)) (a1 : Int) (a2 : Int), ((l0).length * 32 ≤ 140737488351232 ∧ ∀ a_ ∈ l0, g25 a_) → (Lit.int .u32 a1).wf = true → (Lit.int .u16 a2).wf = true → ∃ k, portreevelaw08_FrameRow.f k l0 a1 a2 = some true
end Go.Proofs.Ytangahcilefelaa.Q
