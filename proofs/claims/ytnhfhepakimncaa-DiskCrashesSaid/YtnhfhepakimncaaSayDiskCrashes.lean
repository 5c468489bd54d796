-- written by this session's own program (wip/tools/myprint.py), over the kit's print
import Derived.Test.YtnhfhepakimncaaQx15
import Derived.Test.YtnhfhepakimncaaRdQ
namespace Go.Proofs.Ytnhfhepakimncaa.Q
open Go.RowKit Go.Proofs.YtnhfhepakimncaaW.PrintWords Go.Proofs.YtnhfhepakimncaaW.PrintLast
def portreevelaw03_DiskCrashes.Pure : Prop := ∀ (l0_0 : List (List Int)) (l0_1 : List (S47)) (a1 : Int) (l2 : List Bool), ((l0_0).length * 24 ≤ 140737488351232 ∧ ∀ a_ ∈ l0_0, ((a_).length * 1 ≤ 140737488351232 ∧ ∀ a__ ∈ a_, (Lit.int .u8 a__).wf = true)) → ((l0_1).length * 32 ≤ 140737488351232 ∧ ∀ a_ ∈ l0_1, g47 a_) → (Lit.int .i64 a1).wf = true → ((l2).length * 1 ≤ 140737488351232 ∧ ∀ a_ ∈ l2, True) → ∃ k, portreevelaw03_DiskCrashes.f k l0_0 l0_1 a1 l2 = some true
end Go.Proofs.Ytnhfhepakimncaa.Q
