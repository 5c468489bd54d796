-- printed by the kit's print.sh; shortened by this session's own program (wip/tools/prune.py)
import Derived.Test.YtlimlbhhbjaljaaWInv
import Derived.Test.YtlimlbhhbjaljaaWFootNe
namespace Go.Proofs.YtlimlbhhbjaljaaW.PrintWords
open Go.RowKit
end Go.Proofs.YtlimlbhhbjaljaaW.PrintWords
namespace Go.Proofs.YtlimlbhhbjaljaaW.PrintLast
section
variable {ops : Array Oper} {a : Act} {o og : Oper} {g : Nat} {t : Tmp} {u : Bool}
end
end Go.Proofs.YtlimlbhhbjaljaaW.PrintLast
