/-
  No cell of these rows narrows 'for every input' (looked for: loops, veiled, ifaces, maps, wideKeys, modest, calm, conditions, laid).
  DERIVED. THE GIVEN ROWS OF THIS SEAT. 6 by the template 'for every input the law returns true; each argument reads behind the call as it read before'; 0 by the template 'total and deterministic' (their statements: YtocjadhpaecpaaaTotals.lean).
  GIVEN WITH THE SEED: the statements are not yours to turn. If you find one false, say at which input.
  Laid BY PROGRAM, IN A SANDBOX (cutbox-rows.mjs): the forced cells as the released guide's own fill.sh prints them over the translation e53f62adce928872… (all of the seat's roots in one cut). By AI agents, Wed Nov 11 2026. No macro, syntax, notation, axiom, sorry.
-/
import Derived.Test.YtocjadhpaecpaaaChecked
import GoSem.Claim
import GoSem.ClaimJoined
import GoSem.ClaimMapViews
import Derived.JoinedTies
import Derived.KernelRfl
namespace Go.Proofs.Ytocjadhpaecpaaa
/- THE CELL 'sum', in the pinned program and in every row, IS THE sha256 OF THE DUMP (.gsa) THAT YtocjadhpaecpaaaProg.lean LOADS. Nothing in Lean hashes anything: it is a label: what it is worth is what the hold of that sum in a sandbox is worth. -/
noncomputable def Try.pinned : Pinned := { name := "ytocjadhpaecpaaa", sum := "e53f62adce928872deb12006a9724f8913d86868bb96dba7c649d50d84d652b7", checked := Try.checked }
namespace Rows
def none {H : Type} : Left H := { results := [], args := [] }

/-- 'portreevelaw16.GateOps': WHATEVER THE INPUT: true; the input reads as it did. -/
def gateOpsSpec : ChangeSpec := { name := "gateOps", fn := fun _ => fun
  | [d] => { results := [.lit (.bool true)], args := [d] }
  | _ => none }
def gateOpsRow : OpenClaim := { program := "ytocjadhpaecpaaa", sum := "e53f62adce928872deb12006a9724f8913d86868bb96dba7c649d50d84d652b7", func := "portreeve/portreevelaw16.GateOps", spec := "gateOps", unfollowed := true, recurses := true, apart := false }
def GateOpsSaid : Prop := gateOpsRow.holds Try.pinned (OpenSpec.ofChange gateOpsSpec)

/-- ITS FALSE NEIGHBOUR: 'it returns false'. Refute it at one input. -/
def gateOpsWrong : ChangeSpec := { name := "gateOps", fn := fun _ => fun
  | [d] => { results := [.lit (.bool false)], args := [d] }
  | _ => none }
def GateOpsWrongFalsely : Prop := gateOpsRow.holds Try.pinned (OpenSpec.ofChange gateOpsWrong)

/-- 'portreevelaw16.GateLocks': WHATEVER THE INPUT: true; the input reads as it did. -/
def gateLocksSpec : ChangeSpec := { name := "gateLocks", fn := fun _ => fun
  | [d] => { results := [.lit (.bool true)], args := [d] }
  | _ => none }
def gateLocksRow : OpenClaim := { program := "ytocjadhpaecpaaa", sum := "e53f62adce928872deb12006a9724f8913d86868bb96dba7c649d50d84d652b7", func := "portreeve/portreevelaw16.GateLocks", spec := "gateLocks", unfollowed := true, recurses := true, apart := false }
def GateLocksSaid : Prop := gateLocksRow.holds Try.pinned (OpenSpec.ofChange gateLocksSpec)

/-- ITS FALSE NEIGHBOUR: 'it returns false'. Refute it at one input. -/
def gateLocksWrong : ChangeSpec := { name := "gateLocks", fn := fun _ => fun
  | [d] => { results := [.lit (.bool false)], args := [d] }
  | _ => none }
def GateLocksWrongFalsely : Prop := gateLocksRow.holds Try.pinned (OpenSpec.ofChange gateLocksWrong)

/-- 'portreevelaw16.GateTime': WHATEVER THE INPUT: true; the input reads as it did. -/
def gateTimeSpec : ChangeSpec := { name := "gateTime", fn := fun _ => fun
  | [d] => { results := [.lit (.bool true)], args := [d] }
  | _ => none }
def gateTimeRow : OpenClaim := { program := "ytocjadhpaecpaaa", sum := "e53f62adce928872deb12006a9724f8913d86868bb96dba7c649d50d84d652b7", func := "portreeve/portreevelaw16.GateTime", spec := "gateTime", unfollowed := true, recurses := true, apart := false }
def GateTimeSaid : Prop := gateTimeRow.holds Try.pinned (OpenSpec.ofChange gateTimeSpec)

/-- ITS FALSE NEIGHBOUR: 'it returns false'. Refute it at one input. -/
def gateTimeWrong : ChangeSpec := { name := "gateTime", fn := fun _ => fun
  | [d] => { results := [.lit (.bool false)], args := [d] }
  | _ => none }
def GateTimeWrongFalsely : Prop := gateTimeRow.holds Try.pinned (OpenSpec.ofChange gateTimeWrong)

/-- 'portreevelaw16.GateOthers': WHATEVER THE INPUT: true; the input reads as it did. -/
def gateOthersSpec : ChangeSpec := { name := "gateOthers", fn := fun _ => fun
  | [d] => { results := [.lit (.bool true)], args := [d] }
  | _ => none }
def gateOthersRow : OpenClaim := { program := "ytocjadhpaecpaaa", sum := "e53f62adce928872deb12006a9724f8913d86868bb96dba7c649d50d84d652b7", func := "portreeve/portreevelaw16.GateOthers", spec := "gateOthers", unfollowed := true, recurses := true, apart := false }
def GateOthersSaid : Prop := gateOthersRow.holds Try.pinned (OpenSpec.ofChange gateOthersSpec)

/-- ITS FALSE NEIGHBOUR: 'it returns false'. Refute it at one input. -/
def gateOthersWrong : ChangeSpec := { name := "gateOthers", fn := fun _ => fun
  | [d] => { results := [.lit (.bool false)], args := [d] }
  | _ => none }
def GateOthersWrongFalsely : Prop := gateOthersRow.holds Try.pinned (OpenSpec.ofChange gateOthersWrong)

/-- 'portreevelaw16.GateKnown': WHATEVER THE INPUT: true; the input reads as it did. -/
def gateKnownSpec : ChangeSpec := { name := "gateKnown", fn := fun _ => fun
  | [d] => { results := [.lit (.bool true)], args := [d] }
  | _ => none }
def gateKnownRow : OpenClaim := { program := "ytocjadhpaecpaaa", sum := "e53f62adce928872deb12006a9724f8913d86868bb96dba7c649d50d84d652b7", func := "portreeve/portreevelaw16.GateKnown", spec := "gateKnown", unfollowed := true, recurses := true, apart := false }
def GateKnownSaid : Prop := gateKnownRow.holds Try.pinned (OpenSpec.ofChange gateKnownSpec)

/-- ITS FALSE NEIGHBOUR: 'it returns false'. Refute it at one input. -/
def gateKnownWrong : ChangeSpec := { name := "gateKnown", fn := fun _ => fun
  | [d] => { results := [.lit (.bool false)], args := [d] }
  | _ => none }
def GateKnownWrongFalsely : Prop := gateKnownRow.holds Try.pinned (OpenSpec.ofChange gateKnownWrong)

/-- 'portreevelaw16.GateRight': WHATEVER THE INPUT: true; the input reads as it did. -/
def gateRightSpec : ChangeSpec := { name := "gateRight", fn := fun _ => fun
  | [d] => { results := [.lit (.bool true)], args := [d] }
  | _ => none }
def gateRightRow : OpenClaim := { program := "ytocjadhpaecpaaa", sum := "e53f62adce928872deb12006a9724f8913d86868bb96dba7c649d50d84d652b7", func := "portreeve/portreevelaw16.GateRight", spec := "gateRight", unfollowed := true, recurses := true, apart := false }
def GateRightSaid : Prop := gateRightRow.holds Try.pinned (OpenSpec.ofChange gateRightSpec)

/-- ITS FALSE NEIGHBOUR: 'it returns false'. Refute it at one input. -/
def gateRightWrong : ChangeSpec := { name := "gateRight", fn := fun _ => fun
  | [d] => { results := [.lit (.bool false)], args := [d] }
  | _ => none }
def GateRightWrongFalsely : Prop := gateRightRow.holds Try.pinned (OpenSpec.ofChange gateRightWrong)

/- THE SECOND FORM. 'bulk': how many values and letters a reading holds, each counted each time it is reached (what is shared counts as often as it is met; a slice's spare places count too). A statement '..UptoSaid' is the law's where the arguments, and the package variables that the reading takes, are together of bulk at most 1048576: NARROWER than '..Said'. Prove '..Said' where nothing that the law and all that it calls make is longer than what came in: it says more and counts as full. Else prove '..UptoSaid'. A law counts once. -/
mutual
def uptoBulk {H : Type} : DataW H → Nat
  | .lit (.string bytes) => bytes.length + 1
  | .lit _ => 1
  | .nil => 1
  | .ptr d => uptoBulk d + 1
  | .slice elems spare => uptoBulkAll elems + uptoBulkAll spare + 1
  | .agg parts => uptoBulkAll parts + 1
  | .iface _ d => uptoBulk d + 1
  | .map entries => uptoBulkEntries entries + 1
  | .held _ => 1
def uptoBulkAll {H : Type} : List (DataW H) → Nat
  | [] => 0
  | d :: r => uptoBulk d + uptoBulkAll r
def uptoBulkEntries {H : Type} : List (Lit × DataW H) → Nat
  | [] => 0
  | x :: r => uptoBulkEntry x + uptoBulkEntries r
def uptoBulkEntry {H : Type} : Lit × DataW H → Nat
  | (.string bytes, d) => bytes.length + uptoBulk d + 1
  | (_, d) => uptoBulk d + 1
 end
def uptoSmall : (H : Type) → List (DataW H) → Bool := fun _ ds => decide (uptoBulkAll ds ≤ 1048576)
def OpenSpec.upto (s : _root_.Go.ChangeSpec) : _root_.Go.OpenSpec := { _root_.Go.OpenSpec.ofChange s with cond := some uptoSmall }

/-- 'portreevelaw16.GateOps', WHERE WHAT IT READS IS OF BULK AT MOST 1048576: true; the input reads as it did. -/
def gateOpsUptoRow : OpenClaim := { program := "ytocjadhpaecpaaa", sum := "e53f62adce928872deb12006a9724f8913d86868bb96dba7c649d50d84d652b7", func := "portreeve/portreevelaw16.GateOps", spec := "gateOps", unfollowed := true, recurses := true, apart := false, narrowed := true }
def GateOpsUptoSaid : Prop := gateOpsUptoRow.holds Try.pinned (OpenSpec.upto gateOpsSpec)

/-- 'portreevelaw16.GateLocks', WHERE WHAT IT READS IS OF BULK AT MOST 1048576: true; the input reads as it did. -/
def gateLocksUptoRow : OpenClaim := { program := "ytocjadhpaecpaaa", sum := "e53f62adce928872deb12006a9724f8913d86868bb96dba7c649d50d84d652b7", func := "portreeve/portreevelaw16.GateLocks", spec := "gateLocks", unfollowed := true, recurses := true, apart := false, narrowed := true }
def GateLocksUptoSaid : Prop := gateLocksUptoRow.holds Try.pinned (OpenSpec.upto gateLocksSpec)

/-- 'portreevelaw16.GateTime', WHERE WHAT IT READS IS OF BULK AT MOST 1048576: true; the input reads as it did. -/
def gateTimeUptoRow : OpenClaim := { program := "ytocjadhpaecpaaa", sum := "e53f62adce928872deb12006a9724f8913d86868bb96dba7c649d50d84d652b7", func := "portreeve/portreevelaw16.GateTime", spec := "gateTime", unfollowed := true, recurses := true, apart := false, narrowed := true }
def GateTimeUptoSaid : Prop := gateTimeUptoRow.holds Try.pinned (OpenSpec.upto gateTimeSpec)

/-- 'portreevelaw16.GateOthers', WHERE WHAT IT READS IS OF BULK AT MOST 1048576: true; the input reads as it did. -/
def gateOthersUptoRow : OpenClaim := { program := "ytocjadhpaecpaaa", sum := "e53f62adce928872deb12006a9724f8913d86868bb96dba7c649d50d84d652b7", func := "portreeve/portreevelaw16.GateOthers", spec := "gateOthers", unfollowed := true, recurses := true, apart := false, narrowed := true }
def GateOthersUptoSaid : Prop := gateOthersUptoRow.holds Try.pinned (OpenSpec.upto gateOthersSpec)

/-- 'portreevelaw16.GateKnown', WHERE WHAT IT READS IS OF BULK AT MOST 1048576: true; the input reads as it did. -/
def gateKnownUptoRow : OpenClaim := { program := "ytocjadhpaecpaaa", sum := "e53f62adce928872deb12006a9724f8913d86868bb96dba7c649d50d84d652b7", func := "portreeve/portreevelaw16.GateKnown", spec := "gateKnown", unfollowed := true, recurses := true, apart := false, narrowed := true }
def GateKnownUptoSaid : Prop := gateKnownUptoRow.holds Try.pinned (OpenSpec.upto gateKnownSpec)

/-- 'portreevelaw16.GateRight', WHERE WHAT IT READS IS OF BULK AT MOST 1048576: true; the input reads as it did. -/
def gateRightUptoRow : OpenClaim := { program := "ytocjadhpaecpaaa", sum := "e53f62adce928872deb12006a9724f8913d86868bb96dba7c649d50d84d652b7", func := "portreeve/portreevelaw16.GateRight", spec := "gateRight", unfollowed := true, recurses := true, apart := false, narrowed := true }
def GateRightUptoSaid : Prop := gateRightUptoRow.holds Try.pinned (OpenSpec.upto gateRightSpec)

end Rows
end Go.Proofs.Ytocjadhpaecpaaa
