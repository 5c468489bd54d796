/-
  No cell of these rows narrows 'for every input' (looked for: loops, veiled, ifaces, maps, wideKeys, modest, calm, conditions, laid).
  DERIVED. THE GIVEN ROWS OF THIS SEAT. 6 by the template 'for every input the law returns true; each argument reads behind the call as it read before'; 0 by the template 'total and deterministic' (their statements: YtlimlbhhbjaljaaTotals.lean).
  GIVEN WITH THE SEED: the statements are not yours to turn. If you find one false, say at which input.
  Laid BY PROGRAM, IN A SANDBOX (cutbox-rows.mjs): the forced cells as the released guide's own fill.sh prints them over the translation db45a4b6cb2c5172… (all of the seat's roots in one cut). By AI agents, Wed Nov 11 2026. No macro, syntax, notation, axiom, sorry.
-/
import Derived.Test.YtlimlbhhbjaljaaChecked
import GoSem.Claim
import GoSem.ClaimJoined
import GoSem.ClaimMapViews
import Derived.JoinedTies
import Derived.KernelRfl
namespace Go.Proofs.Ytlimlbhhbjaljaa
/- THE CELL 'sum', in the pinned program and in every row, IS THE sha256 OF THE DUMP (.gsa) THAT YtlimlbhhbjaljaaProg.lean LOADS. Nothing in Lean hashes anything: it is a label: what it is worth is what the hold of that sum in a sandbox is worth. -/
noncomputable def Try.pinned : Pinned := { name := "ytlimlbhhbjaljaa", sum := "db45a4b6cb2c517297cda5d663ef0411263d2ba24189e75cb34cf78f9539618c", checked := Try.checked }
namespace Rows
def none {H : Type} : Left H := { results := [], args := [] }

/-- 'portreevelaw17.MeterTells': WHATEVER THE INPUT: true; the input reads as it did. -/
def meterTellsSpec : ChangeSpec := { name := "meterTells", fn := fun _ => fun
  | [d] => { results := [.lit (.bool true)], args := [d] }
  | _ => none }
def meterTellsRow : OpenClaim := { program := "ytlimlbhhbjaljaa", sum := "db45a4b6cb2c517297cda5d663ef0411263d2ba24189e75cb34cf78f9539618c", func := "portreeve/portreevelaw17.MeterTells", spec := "meterTells", unfollowed := true, recurses := true, apart := false }
def MeterTellsSaid : Prop := meterTellsRow.holds Try.pinned (OpenSpec.ofChange meterTellsSpec)

/-- ITS FALSE NEIGHBOUR: 'it returns false'. Refute it at one input. -/
def meterTellsWrong : ChangeSpec := { name := "meterTells", fn := fun _ => fun
  | [d] => { results := [.lit (.bool false)], args := [d] }
  | _ => none }
def MeterTellsWrongFalsely : Prop := meterTellsRow.holds Try.pinned (OpenSpec.ofChange meterTellsWrong)

/-- 'portreevelaw17.MeterUp': WHATEVER THE INPUT: true; the input reads as it did. -/
def meterUpSpec : ChangeSpec := { name := "meterUp", fn := fun _ => fun
  | [d] => { results := [.lit (.bool true)], args := [d] }
  | _ => none }
def meterUpRow : OpenClaim := { program := "ytlimlbhhbjaljaa", sum := "db45a4b6cb2c517297cda5d663ef0411263d2ba24189e75cb34cf78f9539618c", func := "portreeve/portreevelaw17.MeterUp", spec := "meterUp", unfollowed := true, recurses := true, apart := false }
def MeterUpSaid : Prop := meterUpRow.holds Try.pinned (OpenSpec.ofChange meterUpSpec)

/-- ITS FALSE NEIGHBOUR: 'it returns false'. Refute it at one input. -/
def meterUpWrong : ChangeSpec := { name := "meterUp", fn := fun _ => fun
  | [d] => { results := [.lit (.bool false)], args := [d] }
  | _ => none }
def MeterUpWrongFalsely : Prop := meterUpRow.holds Try.pinned (OpenSpec.ofChange meterUpWrong)

/-- 'portreevelaw17.MeterOps': WHATEVER THE INPUT: true; the input reads as it did. -/
def meterOpsSpec : ChangeSpec := { name := "meterOps", fn := fun _ => fun
  | [d] => { results := [.lit (.bool true)], args := [d] }
  | _ => none }
def meterOpsRow : OpenClaim := { program := "ytlimlbhhbjaljaa", sum := "db45a4b6cb2c517297cda5d663ef0411263d2ba24189e75cb34cf78f9539618c", func := "portreeve/portreevelaw17.MeterOps", spec := "meterOps", unfollowed := true, recurses := true, apart := false }
def MeterOpsSaid : Prop := meterOpsRow.holds Try.pinned (OpenSpec.ofChange meterOpsSpec)

/-- ITS FALSE NEIGHBOUR: 'it returns false'. Refute it at one input. -/
def meterOpsWrong : ChangeSpec := { name := "meterOps", fn := fun _ => fun
  | [d] => { results := [.lit (.bool false)], args := [d] }
  | _ => none }
def MeterOpsWrongFalsely : Prop := meterOpsRow.holds Try.pinned (OpenSpec.ofChange meterOpsWrong)

/-- 'portreevelaw17.MeterSums': WHATEVER THE INPUT: true; the input reads as it did. -/
def meterSumsSpec : ChangeSpec := { name := "meterSums", fn := fun _ => fun
  | [d] => { results := [.lit (.bool true)], args := [d] }
  | _ => none }
def meterSumsRow : OpenClaim := { program := "ytlimlbhhbjaljaa", sum := "db45a4b6cb2c517297cda5d663ef0411263d2ba24189e75cb34cf78f9539618c", func := "portreeve/portreevelaw17.MeterSums", spec := "meterSums", unfollowed := true, recurses := true, apart := false }
def MeterSumsSaid : Prop := meterSumsRow.holds Try.pinned (OpenSpec.ofChange meterSumsSpec)

/-- ITS FALSE NEIGHBOUR: 'it returns false'. Refute it at one input. -/
def meterSumsWrong : ChangeSpec := { name := "meterSums", fn := fun _ => fun
  | [d] => { results := [.lit (.bool false)], args := [d] }
  | _ => none }
def MeterSumsWrongFalsely : Prop := meterSumsRow.holds Try.pinned (OpenSpec.ofChange meterSumsWrong)

/-- 'portreevelaw17.MeterTime': WHATEVER THE INPUT: true; the input reads as it did. -/
def meterTimeSpec : ChangeSpec := { name := "meterTime", fn := fun _ => fun
  | [d1, d2, d3] => { results := [.lit (.bool true)], args := [d1, d2, d3] }
  | _ => none }
def meterTimeRow : OpenClaim := { program := "ytlimlbhhbjaljaa", sum := "db45a4b6cb2c517297cda5d663ef0411263d2ba24189e75cb34cf78f9539618c", func := "portreeve/portreevelaw17.MeterTime", spec := "meterTime", unfollowed := true, recurses := true, apart := false }
def MeterTimeSaid : Prop := meterTimeRow.holds Try.pinned (OpenSpec.ofChange meterTimeSpec)

/-- ITS FALSE NEIGHBOUR: 'it returns false'. Refute it at one input. -/
def meterTimeWrong : ChangeSpec := { name := "meterTime", fn := fun _ => fun
  | [d1, d2, d3] => { results := [.lit (.bool false)], args := [d1, d2, d3] }
  | _ => none }
def MeterTimeWrongFalsely : Prop := meterTimeRow.holds Try.pinned (OpenSpec.ofChange meterTimeWrong)

/-- 'portreevelaw17.MeterMay': WHATEVER THE INPUT: true; the input reads as it did. -/
def meterMaySpec : ChangeSpec := { name := "meterMay", fn := fun _ => fun
  | [d1, d2, d3] => { results := [.lit (.bool true)], args := [d1, d2, d3] }
  | _ => none }
def meterMayRow : OpenClaim := { program := "ytlimlbhhbjaljaa", sum := "db45a4b6cb2c517297cda5d663ef0411263d2ba24189e75cb34cf78f9539618c", func := "portreeve/portreevelaw17.MeterMay", spec := "meterMay", unfollowed := true, recurses := true, apart := false }
def MeterMaySaid : Prop := meterMayRow.holds Try.pinned (OpenSpec.ofChange meterMaySpec)

/-- ITS FALSE NEIGHBOUR: 'it returns false'. Refute it at one input. -/
def meterMayWrong : ChangeSpec := { name := "meterMay", fn := fun _ => fun
  | [d1, d2, d3] => { results := [.lit (.bool false)], args := [d1, d2, d3] }
  | _ => none }
def MeterMayWrongFalsely : Prop := meterMayRow.holds Try.pinned (OpenSpec.ofChange meterMayWrong)

/- THE SECOND FORM. 'bulk': how many values and letters a reading holds, each counted each time it is reached (what is shared counts as often as it is met; a slice's spare places count too). A statement '..UptoSaid' is the law's where the arguments, and the package variables that the reading takes, are together of bulk at most 1048576: NARROWER than '..Said'. Prove '..Said' where nothing that the law and all that it calls make is longer than what came in: it says more and counts as full. Else prove '..UptoSaid'. A law counts once. -/
mutual
def uptoBulk {H : Type} : DataW H → Nat
  | .lit (.string bytes) => bytes.length + 1
  | .lit _ => 1
  | .nil => 1
  | .ptr d => uptoBulk d + 1
  | .slice elems spare => uptoBulkAll elems + uptoBulkAll spare + 1
  | .agg parts => uptoBulkAll parts + 1
  | .iface _ d => uptoBulk d + 1
  | .map entries => uptoBulkEntries entries + 1
  | .held _ => 1
def uptoBulkAll {H : Type} : List (DataW H) → Nat
  | [] => 0
  | d :: r => uptoBulk d + uptoBulkAll r
def uptoBulkEntries {H : Type} : List (Lit × DataW H) → Nat
  | [] => 0
  | x :: r => uptoBulkEntry x + uptoBulkEntries r
def uptoBulkEntry {H : Type} : Lit × DataW H → Nat
  | (.string bytes, d) => bytes.length + uptoBulk d + 1
  | (_, d) => uptoBulk d + 1
 end
def uptoSmall : (H : Type) → List (DataW H) → Bool := fun _ ds => decide (uptoBulkAll ds ≤ 1048576)
def OpenSpec.upto (s : _root_.Go.ChangeSpec) : _root_.Go.OpenSpec := { _root_.Go.OpenSpec.ofChange s with cond := some uptoSmall }

/-- 'portreevelaw17.MeterTells', WHERE WHAT IT READS IS OF BULK AT MOST 1048576: true; the input reads as it did. -/
def meterTellsUptoRow : OpenClaim := { program := "ytlimlbhhbjaljaa", sum := "db45a4b6cb2c517297cda5d663ef0411263d2ba24189e75cb34cf78f9539618c", func := "portreeve/portreevelaw17.MeterTells", spec := "meterTells", unfollowed := true, recurses := true, apart := false, narrowed := true }
def MeterTellsUptoSaid : Prop := meterTellsUptoRow.holds Try.pinned (OpenSpec.upto meterTellsSpec)

/-- 'portreevelaw17.MeterUp', WHERE WHAT IT READS IS OF BULK AT MOST 1048576: true; the input reads as it did. -/
def meterUpUptoRow : OpenClaim := { program := "ytlimlbhhbjaljaa", sum := "db45a4b6cb2c517297cda5d663ef0411263d2ba24189e75cb34cf78f9539618c", func := "portreeve/portreevelaw17.MeterUp", spec := "meterUp", unfollowed := true, recurses := true, apart := false, narrowed := true }
def MeterUpUptoSaid : Prop := meterUpUptoRow.holds Try.pinned (OpenSpec.upto meterUpSpec)

/-- 'portreevelaw17.MeterOps', WHERE WHAT IT READS IS OF BULK AT MOST 1048576: true; the input reads as it did. -/
def meterOpsUptoRow : OpenClaim := { program := "ytlimlbhhbjaljaa", sum := "db45a4b6cb2c517297cda5d663ef0411263d2ba24189e75cb34cf78f9539618c", func := "portreeve/portreevelaw17.MeterOps", spec := "meterOps", unfollowed := true, recurses := true, apart := false, narrowed := true }
def MeterOpsUptoSaid : Prop := meterOpsUptoRow.holds Try.pinned (OpenSpec.upto meterOpsSpec)

/-- 'portreevelaw17.MeterSums', WHERE WHAT IT READS IS OF BULK AT MOST 1048576: true; the input reads as it did. -/
def meterSumsUptoRow : OpenClaim := { program := "ytlimlbhhbjaljaa", sum := "db45a4b6cb2c517297cda5d663ef0411263d2ba24189e75cb34cf78f9539618c", func := "portreeve/portreevelaw17.MeterSums", spec := "meterSums", unfollowed := true, recurses := true, apart := false, narrowed := true }
def MeterSumsUptoSaid : Prop := meterSumsUptoRow.holds Try.pinned (OpenSpec.upto meterSumsSpec)

/-- 'portreevelaw17.MeterTime', WHERE WHAT IT READS IS OF BULK AT MOST 1048576: true; the input reads as it did. -/
def meterTimeUptoRow : OpenClaim := { program := "ytlimlbhhbjaljaa", sum := "db45a4b6cb2c517297cda5d663ef0411263d2ba24189e75cb34cf78f9539618c", func := "portreeve/portreevelaw17.MeterTime", spec := "meterTime", unfollowed := true, recurses := true, apart := false, narrowed := true }
def MeterTimeUptoSaid : Prop := meterTimeUptoRow.holds Try.pinned (OpenSpec.upto meterTimeSpec)

/-- 'portreevelaw17.MeterMay', WHERE WHAT IT READS IS OF BULK AT MOST 1048576: true; the input reads as it did. -/
def meterMayUptoRow : OpenClaim := { program := "ytlimlbhhbjaljaa", sum := "db45a4b6cb2c517297cda5d663ef0411263d2ba24189e75cb34cf78f9539618c", func := "portreeve/portreevelaw17.MeterMay", spec := "meterMay", unfollowed := true, recurses := true, apart := false, narrowed := true }
def MeterMayUptoSaid : Prop := meterMayUptoRow.holds Try.pinned (OpenSpec.upto meterMaySpec)

end Rows
end Go.Proofs.Ytlimlbhhbjaljaa
