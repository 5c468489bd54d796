-- written by this session's own program (wip/tools/myprint.py), over the kit's print
import Derived.Test.YtdmhamnnadegnaaQx14
import Derived.Test.YtdmhamnnadegnaaRdQ
namespace Go.Proofs.Ytdmhamnnadegnaa.Q
open Go.RowKit Go.Proofs.YtdmhamnnadegnaaW.PrintWords Go.Proofs.YtdmhamnnadegnaaW.PrintLast
def portreevelaw07_StuffRight.Pure : Prop := ∀ (l0_0 : List Int) (a0_1 : Bool) (a1 : Int), ((l0_0).length * 1 ≤ 140737488351232 ∧ ∀ a_ ∈ l0_0, (Lit.int .u8 a_).wf = true) → (Lit.int .u8 a1).wf = true → ∃ k, portreevelaw07_StuffRight.f k l0_0 a0_1 a1 = some true
end Go.Proofs.Ytdmhamnnadegnaa.Q
