-- written by this session's own program (wip/tools/myprint.py), over the kit's print
import Derived.Test.YtadgdhefgibakaaQx12
import Derived.Test.YtadgdhefgibakaaRdQ
namespace Go.Proofs.Ytadgdhefgibakaa.Q
open Go.RowKit Go.Proofs.YtadgdhefgibakaaW.PrintWords Go.Proofs.YtadgdhefgibakaaW.PrintLast
def portreevelaw02_Md5Long.Pure : Prop := ∀ (a0 : Int) (a1 : Int), (Lit.int .u16 a0).wf = true → (Lit.int .u16 a1).wf = true → ∃ k, portreevelaw02_Md5Long.f k a0 a1 = some true
end Go.Proofs.Ytadgdhefgibakaa.Q
