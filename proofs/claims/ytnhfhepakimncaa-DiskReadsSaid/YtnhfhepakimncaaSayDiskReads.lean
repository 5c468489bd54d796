-- written by this session's own program (wip/tools/myprint.py), over the kit's print
import Derived.Test.YtnhfhepakimncaaQx16
import Derived.Test.YtnhfhepakimncaaRdQ
namespace Go.Proofs.Ytnhfhepakimncaa.Q
open Go.RowKit Go.Proofs.YtnhfhepakimncaaW.PrintWords Go.Proofs.YtnhfhepakimncaaW.PrintLast
def portreevelaw03_DiskReads.Pure : Prop := ∀ (l0_0 : List (List Int)) (l0_1 : List (S47)) (a0_2 : Int) (l0_3 : List Int) (a0_4 : Int), ((l0_0).length * 24 ≤ 140737488351232 ∧ ∀ a_ ∈ l0_0, ((a_).length * 1 ≤ 140737488351232 ∧ ∀ a__ ∈ a_, (Lit.int .u8 a__).wf = true)) → ((l0_1).length * 32 ≤ 140737488351232 ∧ ∀ a_ ∈ l0_1, g47 a_) → (Lit.int .i64 a0_2).wf = true → ((l0_3).length * 1 ≤ 140737488351232 ∧ ∀ a_ ∈ l0_3, (Lit.int .u8 a_).wf = true) → (Lit.int .i64 a0_4).wf = true → ∃ k, portreevelaw03_DiskReads.f k l0_0 l0_1 a0_2 l0_3 a0_4 = some true
end Go.Proofs.Ytnhfhepakimncaa.Q
