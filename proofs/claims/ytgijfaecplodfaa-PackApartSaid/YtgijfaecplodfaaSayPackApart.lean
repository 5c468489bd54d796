-- written by this session's own program (wip/tools/myprint.py), over the kit's print
import Derived.Test.YtgijfaecplodfaaQx10
import Derived.Test.YtgijfaecplodfaaRdQ
namespace Go.Proofs.Ytgijfaecplodfaa.Q
open Go.RowKit Go.Proofs.YtgijfaecplodfaaW.PrintWords Go.Proofs.YtgijfaecplodfaaW.PrintLast
def portreevelaw09_PackApart.Pure : Prop := ∀ (a0_0 : Int) (a0_1 : Int) (l0_2 : List Int) (a1_0 : Int) (a1_1 : Int) (l1_2 : List Int) (a2 : Int), (Lit.int .u8 a0_0).wf = true → (Lit.int .u8 a0_1).wf = true → ((l0_2).length * 1 ≤ 140737488351232 ∧ ∀ a_ ∈ l0_2, (Lit.int .u8 a_).wf = true) → (Lit.int .u8 a1_0).wf = true → (Lit.int .u8 a1_1).wf = true → ((l1_2).length * 1 ≤ 140737488351232 ∧ ∀ a_ ∈ l1_2, (Lit.int .u8 a_).wf = true) → (Lit.int .u8 a2).wf = true → ∃ k, portreevelaw09_PackApart.f k a0_0 a0_1 l0_2 a1_0 a1_1 l1_2 a2 = some true
end Go.Proofs.Ytgijfaecplodfaa.Q
