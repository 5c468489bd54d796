-- printed by the kit's print.sh; shortened by this session's own program (wip/tools/prune.py)
import Derived.Test.YtlimlbhhbjaljaaWTab
/-! ### 56. Four, five, six operations that may come up next, in any order -/
namespace Go.Proofs.YtlimlbhhbjaljaaW.PrintLast
section
variable {P : Program} {ops : Array Oper} {Q : Exit → Act → World → Prop} {md : Region.Mode} {S : World → Prop} {ds : List Nat} {T : Bool × List (List Nat × List Nat)}
end
end Go.Proofs.YtlimlbhhbjaljaaW.PrintLast
