-- written by this session's own program (wip/tools/myprint.py), over the kit's print
import Derived.Test.YtfnmlhcpolfjaaaQx9
import Derived.Test.YtfnmlhcpolfjaaaRdQ
namespace Go.Proofs.Ytfnmlhcpolfjaaa.Q
open Go.RowKit Go.Proofs.YtfnmlhcpolfjaaaW.PrintWords Go.Proofs.YtfnmlhcpolfjaaaW.PrintLast
def portreevelaw01_FcsApart.Pure : Prop := ∀ (l0 : List Int) (a1 : Int) (a2_0 : Int) (a2_1 : Int), ((l0).length * 1 ≤ 140737488351232 ∧ ∀ a_ ∈ l0, (Lit.int .u8 a_).wf = true) → (Lit.int .i64 a1).wf = true → (Lit.int .u8 a2_0).wf = true → (Lit.int .u8 a2_1).wf = true → ∃ k, portreevelaw01_FcsApart.f k l0 a1 a2_0 a2_1 = some true
end Go.Proofs.Ytfnmlhcpolfjaaa.Q
