-- written by this session's own program (wip/tools/myprint.py), over the kit's print
import Derived.Test.YtgijfaecplodfaaQx6
import Derived.Test.YtgijfaecplodfaaRdQ
namespace Go.Proofs.Ytgijfaecplodfaa.Q
open Go.RowKit Go.Proofs.YtgijfaecplodfaaW.PrintWords Go.Proofs.YtgijfaecplodfaaW.PrintLast
def portreevelaw09_PackTells.Pure : Prop := ∀ (a0_0 : Int) (a0_1 : Int) (l0_2 : List Int) (l1 : List Int), (Lit.int .u8 a0_0).wf = true → (Lit.int .u8 a0_1).wf = true → ((l0_2).length * 1 ≤ 140737488351232 ∧ ∀ a_ ∈ l0_2, (Lit.int .u8 a_).wf = true) → ((l1).length * 1 ≤ 140737488351232 ∧ ∀ a_ ∈ l1, (Lit.int .u8 a_).wf = true) → ∃ k, portreevelaw09_PackTells.f k a0_0 a0_1 l0_2 l1 = some true
end Go.Proofs.Ytgijfaecplodfaa.Q
