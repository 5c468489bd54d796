-- printed by the kit's print.sh; shortened by this session's own program (wip/tools/prune.py)
import Derived.Test.YtangahcilefelaaWWords
import Derived.Laws.StructEq
/-! ### 53. '==' of structs as_ one Bool -/
namespace Go.Proofs.YtangahcilefelaaW.PrintWords
open Go.RowKit
section
variable {P : Program} {d : Nat} {xs ys : Array Value} {f : Field} {fs : List Field} {a b : Value} {r s : Bool} {w : World}
end
end Go.Proofs.YtangahcilefelaaW.PrintWords
