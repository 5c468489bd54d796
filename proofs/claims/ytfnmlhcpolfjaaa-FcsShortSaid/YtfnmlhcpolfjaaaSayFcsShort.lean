-- written by this session's own program (wip/tools/myprint.py), over the kit's print
import Derived.Test.YtfnmlhcpolfjaaaQx10
import Derived.Test.YtfnmlhcpolfjaaaRdQ
namespace Go.Proofs.Ytfnmlhcpolfjaaa.Q
open Go.RowKit Go.Proofs.YtfnmlhcpolfjaaaW.PrintWords Go.Proofs.YtfnmlhcpolfjaaaW.PrintLast
def portreevelaw01_FcsShort.Pure : Prop := ∀ (a0 : Int) (a1 : Int) (l2 : List Int), (Lit.int .u8 a0).wf = true → (Lit.int .u8 a1).wf = true → ((l2).length * 1 ≤ 140737488351232 ∧ ∀ a_ ∈ l2, (Lit.int .u8 a_).wf = true) → ∃ k, portreevelaw01_FcsShort.f k a0 a1 l2 = some true
end Go.Proofs.Ytfnmlhcpolfjaaa.Q
