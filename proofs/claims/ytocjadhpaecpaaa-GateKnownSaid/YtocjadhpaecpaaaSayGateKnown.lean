-- written by this session's own program (wip/tools/myprint.py), over the kit's print
import Derived.Test.YtocjadhpaecpaaaQx30
import Derived.Test.YtocjadhpaecpaaaRdQ
namespace Go.Proofs.Ytocjadhpaecpaaa.Q
open Go.RowKit Go.Proofs.YtocjadhpaecpaaaW.PrintWords Go.Proofs.YtocjadhpaecpaaaW.PrintLast
def portreevelaw16_GateKnown.Pure : Prop := ∀ (a0_0 : Int) (l0_1 : List (S76)) (l0_2 : List (S72)) (l0_3 : List (S64)) (a0_4 : ByteArray) (a0_5 : Bool) (a0_6 : Int), (Lit.int .i64 a0_0).wf = true → ((l0_1).length * 56 ≤ 140737488351232 ∧ ∀ a_ ∈ l0_1, g76 a_) → ((l0_2).length * 40 ≤ 140737488351232 ∧ ∀ a_ ∈ l0_2, g72 a_) → ((l0_3).length * 32 ≤ 140737488351232 ∧ ∀ a_ ∈ l0_3, g64 a_) → (a0_4).size ≤ 140737488351232 → (Lit.int .i64 a0_6).wf = true → ∃ k, portreevelaw16_GateKnown.f k a0_0 l0_1 l0_2 l0_3 a0_4 a0_5 a0_6 = some true
end Go.Proofs.Ytocjadhpaecpaaa.Q
