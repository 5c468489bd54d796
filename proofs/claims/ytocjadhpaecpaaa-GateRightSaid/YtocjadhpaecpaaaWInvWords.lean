-- printed by the kit's print.sh; shortened by this session's own program (wip/tools/prune.py)
import Derived.Test.YtocjadhpaecpaaaWInv
import Derived.Test.YtocjadhpaecpaaaWFootNe
namespace Go.Proofs.YtocjadhpaecpaaaW.PrintWords
open Go.RowKit
end Go.Proofs.YtocjadhpaecpaaaW.PrintWords
namespace Go.Proofs.YtocjadhpaecpaaaW.PrintLast
section
variable {ops : Array Oper} {a : Act} {o og : Oper} {g : Nat} {t : Tmp} {u : Bool}
end
end Go.Proofs.YtocjadhpaecpaaaW.PrintLast
