-- written by this session's own program (wip/tools/myprint.py), over the kit's print
import Derived.Test.YtlimlbhhbjaljaaQx24
import Derived.Test.YtlimlbhhbjaljaaRdQ
namespace Go.Proofs.Ytlimlbhhbjaljaa.Q
open Go.RowKit Go.Proofs.YtlimlbhhbjaljaaW.PrintWords Go.Proofs.YtlimlbhhbjaljaaW.PrintLast
def portreevelaw17_MeterOps.Pure : Prop := ∀ (a0_0 : Int) (l0_1 : List (S51)) (l0_2 : List (S56)) (l0_3 : List (S68)) (a0_4 : Int) (a0_5 : Int) (a0_6 : Int) (a0_7 : Int), (Lit.int .i64 a0_0).wf = true → ((l0_1).length * 56 ≤ 140737488351232 ∧ ∀ a_ ∈ l0_1, g51 a_) → ((l0_2).length * 40 ≤ 140737488351232 ∧ ∀ a_ ∈ l0_2, g56 a_) → ((l0_3).length * 32 ≤ 140737488351232 ∧ ∀ a_ ∈ l0_3, g68 a_) → (Lit.int .i64 a0_4).wf = true → (Lit.int .i64 a0_5).wf = true → (Lit.int .i64 a0_6).wf = true → (Lit.int .u8 a0_7).wf = true → ∃ k, portreevelaw17_MeterOps.f k a0_0 l0_1 l0_2 l0_3 a0_4 a0_5 a0_6 a0_7 = some true
end Go.Proofs.Ytlimlbhhbjaljaa.Q
