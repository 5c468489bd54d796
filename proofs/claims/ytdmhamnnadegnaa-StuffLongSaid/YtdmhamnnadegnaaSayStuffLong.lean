-- written by this session's own program (wip/tools/myprint.py), over the kit's print
import Derived.Test.YtdmhamnnadegnaaQx12
import Derived.Test.YtdmhamnnadegnaaRdQ
namespace Go.Proofs.Ytdmhamnnadegnaa.Q
open Go.RowKit Go.Proofs.YtdmhamnnadegnaaW.PrintWords Go.Proofs.YtdmhamnnadegnaaW.PrintLast
def portreevelaw07_StuffLong.Pure : Prop := ∀ (l0 : List Int) (a1 : Int) (a2 : Int), ((l0).length * 1 ≤ 140737488351232 ∧ ∀ a_ ∈ l0, (Lit.int .u8 a_).wf = true) → (Lit.int .u32 a1).wf = true → (Lit.int .u32 a2).wf = true → ∃ k, portreevelaw07_StuffLong.f k l0 a1 a2 = some true
end Go.Proofs.Ytdmhamnnadegnaa.Q
