-- printed by the kit's print.sh; shortened by this session's own program (wip/tools/prune.py)
import Derived.Test.YtnhfhepakimncaaWInv
import Derived.Test.YtnhfhepakimncaaWFootNe
namespace Go.Proofs.YtnhfhepakimncaaW.PrintWords
open Go.RowKit
end Go.Proofs.YtnhfhepakimncaaW.PrintWords
namespace Go.Proofs.YtnhfhepakimncaaW.PrintLast
section
variable {ops : Array Oper} {a : Act} {o og : Oper} {g : Nat} {t : Tmp} {u : Bool}
end
end Go.Proofs.YtnhfhepakimncaaW.PrintLast
