-- written by this session's own program (wip/tools/myprint.py), over the kit's print
import Derived.Test.YtlimlbhhbjaljaaQx14
import Derived.Test.YtlimlbhhbjaljaaRdQ
namespace Go.Proofs.Ytlimlbhhbjaljaa.Q
open Go.RowKit Go.Proofs.YtlimlbhhbjaljaaW.PrintWords Go.Proofs.YtlimlbhhbjaljaaW.PrintLast
def portreevelaw17_MeterSums.Pure : Prop := ∀ (a0_0 : Int) (a0_1 : Int) (a0_2 : Int) (a0_3 : Int) (a0_4 : Int) (a0_5 : Int) (a0_6 : Int), (Lit.int .u64 a0_0).wf = true → (Lit.int .u64 a0_1).wf = true → (Lit.int .i64 a0_2).wf = true → (Lit.int .u32 a0_3).wf = true → (Lit.int .u32 a0_4).wf = true → (Lit.int .u32 a0_5).wf = true → (Lit.int .u32 a0_6).wf = true → ∃ k, portreevelaw17_MeterSums.f k a0_0 a0_1 a0_2 a0_3 a0_4 a0_5 a0_6 = some true
end Go.Proofs.Ytlimlbhhbjaljaa.Q
