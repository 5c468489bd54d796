-- written by this session's own program (wip/tools/myprint.py), over the kit's print
import Derived.Test.YtangahcilefelaaQx18
import Derived.Test.YtangahcilefelaaRdQ
namespace Go.Proofs.Ytangahcilefelaa.Q
open Go.RowKit Go.Proofs.YtangahcilefelaaW.PrintWords Go.Proofs.YtangahcilefelaaW.PrintLast
def portreevelaw08_FrameTakes.Pure : Prop := ∀ (l0_0 : List Int) (a0_1 : Bool) (a1 : Int), ((l0_0).length * 1 ≤ 140737488351232 ∧ ∀ a_ ∈ l0_0, (Lit.int .u8 a_).wf = true) → (Lit.int .u8 a1).wf = true → ∃ k, portreevelaw08_FrameTakes.f k l0_0 a0_1 a1 = some true
end Go.Proofs.Ytangahcilefelaa.Q
