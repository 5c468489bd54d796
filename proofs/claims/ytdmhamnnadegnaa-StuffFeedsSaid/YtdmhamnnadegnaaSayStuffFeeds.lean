-- written by this session's own program (wip/tools/myprint.py), over the kit's print
import Derived.Test.YtdmhamnnadegnaaQx10
import Derived.Test.YtdmhamnnadegnaaRdQ
namespace Go.Proofs.Ytdmhamnnadegnaa.Q
open Go.RowKit Go.Proofs.YtdmhamnnadegnaaW.PrintWords Go.Proofs.YtdmhamnnadegnaaW.PrintLast
def portreevelaw07_StuffFeeds.Pure : Prop := ∀ (l0_0 : List Int) (a0_1 : Bool) (a1 : Int) (l2_0 : List Int) (a2_1 : Bool), ((l0_0).length * 1 ≤ 140737488351232 ∧ ∀ a_ ∈ l0_0, (Lit.int .u8 a_).wf = true) → (Lit.int .u8 a1).wf = true → ((l2_0).length * 1 ≤ 140737488351232 ∧ ∀ a_ ∈ l2_0, (Lit.int .u8 a_).wf = true) → ∃ k, portreevelaw07_StuffFeeds.f k l0_0 a0_1 a1 l2_0 a2_1 = some true
end Go.Proofs.Ytdmhamnnadegnaa.Q
