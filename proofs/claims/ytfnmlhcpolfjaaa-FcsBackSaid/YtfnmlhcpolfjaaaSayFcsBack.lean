-- written by this session's own program (wip/tools/myprint.py), over the kit's print
import Derived.Test.YtfnmlhcpolfjaaaQx8
import Derived.Test.YtfnmlhcpolfjaaaRdQ
namespace Go.Proofs.Ytfnmlhcpolfjaaa.Q
open Go.RowKit Go.Proofs.YtfnmlhcpolfjaaaW.PrintWords Go.Proofs.YtfnmlhcpolfjaaaW.PrintLast
def portreevelaw01_FcsBack.Pure : Prop := ∀ (l0 : List Int) (a1 : Int) (a2 : Int), ((l0).length * 1 ≤ 140737488351232 ∧ ∀ a_ ∈ l0, (Lit.int .u8 a_).wf = true) → (Lit.int .u8 a1).wf = true → (Lit.int .u8 a2).wf = true → ∃ k, portreevelaw01_FcsBack.f k l0 a1 a2 = some true
end Go.Proofs.Ytfnmlhcpolfjaaa.Q
