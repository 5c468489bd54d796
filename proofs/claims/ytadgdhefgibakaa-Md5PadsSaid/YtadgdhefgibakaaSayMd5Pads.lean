-- written by this session's own program (wip/tools/myprint.py), over the kit's print
import Derived.Test.YtadgdhefgibakaaQx11
import Derived.Test.YtadgdhefgibakaaRdQ
namespace Go.Proofs.Ytadgdhefgibakaa.Q
open Go.RowKit Go.Proofs.YtadgdhefgibakaaW.PrintWords Go.Proofs.YtadgdhefgibakaaW.PrintLast
def portreevelaw02_Md5Pads.Pure : Prop := ∀ (l0 : List Int) (l1 : List Int), ((l0).length * 1 ≤ 140737488351232 ∧ ∀ a_ ∈ l0, (Lit.int .u8 a_).wf = true) → ((l1).length * 1 ≤ 140737488351232 ∧ ∀ a_ ∈ l1, (Lit.int .u8 a_).wf = true) → ∃ k, portreevelaw02_Md5Pads.f k l0 l1 = some true
end Go.Proofs.Ytadgdhefgibakaa.Q
