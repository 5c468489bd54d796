-- written by this session's own program (wip/tools/myprint.py), over the kit's print
import Derived.Test.YtfnmlhcpolfjaaaQx8
import Derived.Test.YtfnmlhcpolfjaaaRdQ
namespace Go.Proofs.Ytfnmlhcpolfjaaa.Q
open Go.RowKit Go.Proofs.YtfnmlhcpolfjaaaW.PrintWords Go.Proofs.YtfnmlhcpolfjaaaW.PrintLast
def portreevelaw01_FcsBits.Pure : Prop := ∀ (a0 : Int) (a1 : Int), (Lit.int .u16 a0).wf = true → (Lit.int .u8 a1).wf = true → ∃ k, portreevelaw01_FcsBits.f k a0 a1 = some true
end Go.Proofs.Ytfnmlhcpolfjaaa.Q
