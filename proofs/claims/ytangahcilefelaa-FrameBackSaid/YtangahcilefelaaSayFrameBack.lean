-- written by this session's own program (wip/tools/myprint.py), over the kit's print
import Derived.Test.YtangahcilefelaaQx20
import Derived.Test.YtangahcilefelaaRdQ
namespace Go.Proofs.Ytangahcilefelaa.Q
open Go.RowKit Go.Proofs.YtangahcilefelaaW.PrintWords Go.Proofs.YtangahcilefelaaW.PrintLast
def portreevelaw08_FrameBack.Pure : Prop := ∀ (a0_0 : Int) (l0_1 : List Int) (a0_2 : Int) (a0_3 : Bool) (l0_4 : List Int), (Lit.int .u16 a0_0).wf = true → ((l0_1).length * 1 ≤ 140737488351232 ∧ ∀ a_ ∈ l0_1, (Lit.int .u8 a_).wf = true) → (Lit.int .u32 a0_2).wf = true → ((l0_4).length * 1 ≤ 140737488351232 ∧ ∀ a_ ∈ l0_4, (Lit.int .u8 a_).wf = true) → ∃ k, portreevelaw08_FrameBack.f k a0_0 l0_1 a0_2 a0_3 l0_4 = some true
end Go.Proofs.Ytangahcilefelaa.Q
