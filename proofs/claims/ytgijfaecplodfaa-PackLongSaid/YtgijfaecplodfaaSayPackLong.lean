-- written by this session's own program (wip/tools/myprint.py), over the kit's print
import Derived.Test.YtgijfaecplodfaaQx8
import Derived.Test.YtgijfaecplodfaaRdQ
namespace Go.Proofs.Ytgijfaecplodfaa.Q
open Go.RowKit Go.Proofs.YtgijfaecplodfaaW.PrintWords Go.Proofs.YtgijfaecplodfaaW.PrintLast
def portreevelaw09_PackLong.Pure : Prop := ∀ (l0 : List Int) (a1 : Int) (l2 : List Int), ((l0).length * 1 ≤ 140737488351232 ∧ ∀ a_ ∈ l0, (Lit.int .u8 a_).wf = true) → (Lit.int .u16 a1).wf = true → ((l2).length * 1 ≤ 140737488351232 ∧ ∀ a_ ∈ l2, (Lit.int .u8 a_).wf = true) → ∃ k, portreevelaw09_PackLong.f k l0 a1 l2 = some true
end Go.Proofs.Ytgijfaecplodfaa.Q
