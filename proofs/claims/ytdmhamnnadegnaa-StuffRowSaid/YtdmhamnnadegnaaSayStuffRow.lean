-- written by this session's own program (wip/tools/myprint.py), over the kit's print
import Derived.Test.YtdmhamnnadegnaaQx12
import Derived.Test.YtdmhamnnadegnaaRdQ
namespace Go.Proofs.Ytdmhamnnadegnaa.Q
open Go.RowKit Go.Proofs.YtdmhamnnadegnaaW.PrintWords Go.Proofs.YtdmhamnnadegnaaW.PrintLast
def portreevelaw07_StuffRow.Pure : Prop := ∀ (l0 : List (List Int)) (a1 : Int), ((l0).length * 24 ≤ 140737488351232 ∧ ∀ a_ ∈ l0, ((a_).length * 1 ≤ 140737488351232 ∧ ∀ a__ ∈ a_, (Lit.int .u8 a__).wf = true)) → (Lit.int .u32 a1).wf = true → ∃ k, portreevelaw07_StuffRow.f k l0 a1 = some true
end Go.Proofs.Ytdmhamnnadegnaa.Q
