-- written by this session's own program (wip/tools/myprint.py), over the kit's print
import Derived.Test.YtfnmlhcpolfjaaaQx8
import Derived.Test.YtfnmlhcpolfjaaaRdQ
namespace Go.Proofs.Ytfnmlhcpolfjaaa.Q
open Go.RowKit Go.Proofs.YtfnmlhcpolfjaaaW.PrintWords Go.Proofs.YtfnmlhcpolfjaaaW.PrintLast
def portreevelaw01_FcsOn.Pure : Prop := ∀ (a0_0 : Int) (a0_1 : Int) (l0_2 : List Int) (l0_3 : List Int), (Lit.int .u16 a0_0).wf = true → (Lit.int .u16 a0_1).wf = true → ((l0_2).length * 1 ≤ 140737488351232 ∧ ∀ a_ ∈ l0_2, (Lit.int .u8 a_).wf = true) → ((l0_3).length * 1 ≤ 140737488351232 ∧ ∀ a_ ∈ l0_3, (Lit.int .u8 a_).wf = true) → ∃ k, portreevelaw01_FcsOn.f k a0_0 a0_1 l0_2 l0_3 = some true
end Go.Proofs.Ytfnmlhcpolfjaaa.Q
