-- printed by the kit's print.sh; shortened by this session's own program (wip/tools/prune.py)
import Derived.Test.YtoenogjedmnnlaaDoorWInv
import Derived.Test.YtoenogjedmnnlaaDoorWFootNe
namespace Go.Proofs.YtoenogjedmnnlaaDoorW.PrintWords
open Go.RowKit
end Go.Proofs.YtoenogjedmnnlaaDoorW.PrintWords
namespace Go.Proofs.YtoenogjedmnnlaaDoorW.PrintLast
section
variable {ops : Array Oper} {a : Act} {o og : Oper} {g : Nat} {t : Tmp} {u : Bool}
end
end Go.Proofs.YtoenogjedmnnlaaDoorW.PrintLast
