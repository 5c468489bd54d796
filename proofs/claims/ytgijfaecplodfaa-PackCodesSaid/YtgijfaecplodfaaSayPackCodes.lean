-- written by this session's own program (wip/tools/myprint.py), over the kit's print
import Derived.Test.YtgijfaecplodfaaQx9
import Derived.Test.YtgijfaecplodfaaRdQ
namespace Go.Proofs.Ytgijfaecplodfaa.Q
open Go.RowKit Go.Proofs.YtgijfaecplodfaaW.PrintWords Go.Proofs.YtgijfaecplodfaaW.PrintLast
def portreevelaw09_PackCodes.Pure : Prop := ∀ (a0 : Int) (a1 : Int), (Lit.int .u16 a0).wf = true → (Lit.int .u8 a1).wf = true → ∃ k, portreevelaw09_PackCodes.f k a0 a1 = some true
end Go.Proofs.Ytgijfaecplodfaa.Q
