/-
  No cell of these rows narrows 'for every input' (looked for: loops, veiled, ifaces, maps, wideKeys, modest, calm, conditions, laid).
  DERIVED. THE GIVEN ROWS OF THIS SEAT. 5 by the template 'for every input the law returns true; each argument reads behind the call as it read before'; 0 by the template 'total and deterministic' (their statements: YtadgdhefgibakaaTotals.lean).
  GIVEN WITH THE SEED: the statements are not yours to turn. If you find one false, say at which input.
  Laid BY PROGRAM, IN A SANDBOX (cutbox-rows.mjs): the forced cells as the released guide's own fill.sh prints them over the translation e90a10a6dd2e6e7d… (all of the seat's roots in one cut). By AI agents, Wed Nov 11 2026. No macro, syntax, notation, axiom, sorry.
-/
import Derived.Test.YtadgdhefgibakaaChecked
import GoSem.Claim
import GoSem.ClaimJoined
import GoSem.ClaimMapViews
import Derived.JoinedTies
import Derived.KernelRfl
namespace Go.Proofs.Ytadgdhefgibakaa
/- THE CELL 'sum', in the pinned program and in every row, IS THE sha256 OF THE DUMP (.gsa) THAT YtadgdhefgibakaaProg.lean LOADS. Nothing in Lean hashes anything: it is a label: what it is worth is what the hold of that sum in a sandbox is worth. -/
noncomputable def Try.pinned : Pinned := { name := "ytadgdhefgibakaa", sum := "e90a10a6dd2e6e7dffa9ca69c46223131a0d1eae40d24a286031250d3cde9c39", checked := Try.checked }
namespace Rows
def none {H : Type} : Left H := { results := [], args := [] }

/-- 'portreevelaw02.Md5Tells': WHATEVER THE INPUT: true; the input reads as it did. -/
def md5TellsSpec : ChangeSpec := { name := "md5Tells", fn := fun _ => fun
  | [d] => { results := [.lit (.bool true)], args := [d] }
  | _ => none }
def md5TellsRow : OpenClaim := { program := "ytadgdhefgibakaa", sum := "e90a10a6dd2e6e7dffa9ca69c46223131a0d1eae40d24a286031250d3cde9c39", func := "portreeve/portreevelaw02.Md5Tells", spec := "md5Tells", unfollowed := true, recurses := true, apart := false }
def Md5TellsSaid : Prop := md5TellsRow.holds Try.pinned (OpenSpec.ofChange md5TellsSpec)

/-- ITS FALSE NEIGHBOUR: 'it returns false'. Refute it at one input. -/
def md5TellsWrong : ChangeSpec := { name := "md5Tells", fn := fun _ => fun
  | [d] => { results := [.lit (.bool false)], args := [d] }
  | _ => none }
def Md5TellsWrongFalsely : Prop := md5TellsRow.holds Try.pinned (OpenSpec.ofChange md5TellsWrong)

/-- 'portreevelaw02.Md5Blocks': WHATEVER THE INPUT: true; the input reads as it did. -/
def md5BlocksSpec : ChangeSpec := { name := "md5Blocks", fn := fun _ => fun
  | [d] => { results := [.lit (.bool true)], args := [d] }
  | _ => none }
def md5BlocksRow : OpenClaim := { program := "ytadgdhefgibakaa", sum := "e90a10a6dd2e6e7dffa9ca69c46223131a0d1eae40d24a286031250d3cde9c39", func := "portreeve/portreevelaw02.Md5Blocks", spec := "md5Blocks", unfollowed := true, recurses := true, apart := false }
def Md5BlocksSaid : Prop := md5BlocksRow.holds Try.pinned (OpenSpec.ofChange md5BlocksSpec)

/-- ITS FALSE NEIGHBOUR: 'it returns false'. Refute it at one input. -/
def md5BlocksWrong : ChangeSpec := { name := "md5Blocks", fn := fun _ => fun
  | [d] => { results := [.lit (.bool false)], args := [d] }
  | _ => none }
def Md5BlocksWrongFalsely : Prop := md5BlocksRow.holds Try.pinned (OpenSpec.ofChange md5BlocksWrong)

/-- 'portreevelaw02.Md5Pads': WHATEVER THE INPUT: true; the input reads as it did. -/
def md5PadsSpec : ChangeSpec := { name := "md5Pads", fn := fun _ => fun
  | [d1, d2] => { results := [.lit (.bool true)], args := [d1, d2] }
  | _ => none }
def md5PadsRow : OpenClaim := { program := "ytadgdhefgibakaa", sum := "e90a10a6dd2e6e7dffa9ca69c46223131a0d1eae40d24a286031250d3cde9c39", func := "portreeve/portreevelaw02.Md5Pads", spec := "md5Pads", unfollowed := true, recurses := true, apart := false }
def Md5PadsSaid : Prop := md5PadsRow.holds Try.pinned (OpenSpec.ofChange md5PadsSpec)

/-- ITS FALSE NEIGHBOUR: 'it returns false'. Refute it at one input. -/
def md5PadsWrong : ChangeSpec := { name := "md5Pads", fn := fun _ => fun
  | [d1, d2] => { results := [.lit (.bool false)], args := [d1, d2] }
  | _ => none }
def Md5PadsWrongFalsely : Prop := md5PadsRow.holds Try.pinned (OpenSpec.ofChange md5PadsWrong)

/-- 'portreevelaw02.Md5More': WHATEVER THE INPUT: true; the input reads as it did. -/
def md5MoreSpec : ChangeSpec := { name := "md5More", fn := fun _ => fun
  | [d1, d2, d3] => { results := [.lit (.bool true)], args := [d1, d2, d3] }
  | _ => none }
def md5MoreRow : OpenClaim := { program := "ytadgdhefgibakaa", sum := "e90a10a6dd2e6e7dffa9ca69c46223131a0d1eae40d24a286031250d3cde9c39", func := "portreeve/portreevelaw02.Md5More", spec := "md5More", unfollowed := true, recurses := true, apart := false }
def Md5MoreSaid : Prop := md5MoreRow.holds Try.pinned (OpenSpec.ofChange md5MoreSpec)

/-- ITS FALSE NEIGHBOUR: 'it returns false'. Refute it at one input. -/
def md5MoreWrong : ChangeSpec := { name := "md5More", fn := fun _ => fun
  | [d1, d2, d3] => { results := [.lit (.bool false)], args := [d1, d2, d3] }
  | _ => none }
def Md5MoreWrongFalsely : Prop := md5MoreRow.holds Try.pinned (OpenSpec.ofChange md5MoreWrong)

/-- 'portreevelaw02.Md5Long': WHATEVER THE INPUT: true; the input reads as it did. -/
def md5LongSpec : ChangeSpec := { name := "md5Long", fn := fun _ => fun
  | [d1, d2] => { results := [.lit (.bool true)], args := [d1, d2] }
  | _ => none }
def md5LongRow : OpenClaim := { program := "ytadgdhefgibakaa", sum := "e90a10a6dd2e6e7dffa9ca69c46223131a0d1eae40d24a286031250d3cde9c39", func := "portreeve/portreevelaw02.Md5Long", spec := "md5Long", unfollowed := true, recurses := true, apart := false }
def Md5LongSaid : Prop := md5LongRow.holds Try.pinned (OpenSpec.ofChange md5LongSpec)

/-- ITS FALSE NEIGHBOUR: 'it returns false'. Refute it at one input. -/
def md5LongWrong : ChangeSpec := { name := "md5Long", fn := fun _ => fun
  | [d1, d2] => { results := [.lit (.bool false)], args := [d1, d2] }
  | _ => none }
def Md5LongWrongFalsely : Prop := md5LongRow.holds Try.pinned (OpenSpec.ofChange md5LongWrong)

/- THE SECOND FORM. 'bulk': how many values and letters a reading holds, each counted each time it is reached (what is shared counts as often as it is met; a slice's spare places count too). A statement '..UptoSaid' is the law's where the arguments, and the package variables that the reading takes, are together of bulk at most 1048576: NARROWER than '..Said'. Prove '..Said' where nothing that the law and all that it calls make is longer than what came in: it says more and counts as full. Else prove '..UptoSaid'. A law counts once. -/
mutual
def uptoBulk {H : Type} : DataW H → Nat
  | .lit (.string bytes) => bytes.length + 1
  | .lit _ => 1
  | .nil => 1
  | .ptr d => uptoBulk d + 1
  | .slice elems spare => uptoBulkAll elems + uptoBulkAll spare + 1
  | .agg parts => uptoBulkAll parts + 1
  | .iface _ d => uptoBulk d + 1
  | .map entries => uptoBulkEntries entries + 1
  | .held _ => 1
def uptoBulkAll {H : Type} : List (DataW H) → Nat
  | [] => 0
  | d :: r => uptoBulk d + uptoBulkAll r
def uptoBulkEntries {H : Type} : List (Lit × DataW H) → Nat
  | [] => 0
  | x :: r => uptoBulkEntry x + uptoBulkEntries r
def uptoBulkEntry {H : Type} : Lit × DataW H → Nat
  | (.string bytes, d) => bytes.length + uptoBulk d + 1
  | (_, d) => uptoBulk d + 1
 end
def uptoSmall : (H : Type) → List (DataW H) → Bool := fun _ ds => decide (uptoBulkAll ds ≤ 1048576)
def OpenSpec.upto (s : _root_.Go.ChangeSpec) : _root_.Go.OpenSpec := { _root_.Go.OpenSpec.ofChange s with cond := some uptoSmall }

/-- 'portreevelaw02.Md5Tells', WHERE WHAT IT READS IS OF BULK AT MOST 1048576: true; the input reads as it did. -/
def md5TellsUptoRow : OpenClaim := { program := "ytadgdhefgibakaa", sum := "e90a10a6dd2e6e7dffa9ca69c46223131a0d1eae40d24a286031250d3cde9c39", func := "portreeve/portreevelaw02.Md5Tells", spec := "md5Tells", unfollowed := true, recurses := true, apart := false, narrowed := true }
def Md5TellsUptoSaid : Prop := md5TellsUptoRow.holds Try.pinned (OpenSpec.upto md5TellsSpec)

/-- 'portreevelaw02.Md5Blocks', WHERE WHAT IT READS IS OF BULK AT MOST 1048576: true; the input reads as it did. -/
def md5BlocksUptoRow : OpenClaim := { program := "ytadgdhefgibakaa", sum := "e90a10a6dd2e6e7dffa9ca69c46223131a0d1eae40d24a286031250d3cde9c39", func := "portreeve/portreevelaw02.Md5Blocks", spec := "md5Blocks", unfollowed := true, recurses := true, apart := false, narrowed := true }
def Md5BlocksUptoSaid : Prop := md5BlocksUptoRow.holds Try.pinned (OpenSpec.upto md5BlocksSpec)

/-- 'portreevelaw02.Md5Pads', WHERE WHAT IT READS IS OF BULK AT MOST 1048576: true; the input reads as it did. -/
def md5PadsUptoRow : OpenClaim := { program := "ytadgdhefgibakaa", sum := "e90a10a6dd2e6e7dffa9ca69c46223131a0d1eae40d24a286031250d3cde9c39", func := "portreeve/portreevelaw02.Md5Pads", spec := "md5Pads", unfollowed := true, recurses := true, apart := false, narrowed := true }
def Md5PadsUptoSaid : Prop := md5PadsUptoRow.holds Try.pinned (OpenSpec.upto md5PadsSpec)

/-- 'portreevelaw02.Md5More', WHERE WHAT IT READS IS OF BULK AT MOST 1048576: true; the input reads as it did. -/
def md5MoreUptoRow : OpenClaim := { program := "ytadgdhefgibakaa", sum := "e90a10a6dd2e6e7dffa9ca69c46223131a0d1eae40d24a286031250d3cde9c39", func := "portreeve/portreevelaw02.Md5More", spec := "md5More", unfollowed := true, recurses := true, apart := false, narrowed := true }
def Md5MoreUptoSaid : Prop := md5MoreUptoRow.holds Try.pinned (OpenSpec.upto md5MoreSpec)

/-- 'portreevelaw02.Md5Long', WHERE WHAT IT READS IS OF BULK AT MOST 1048576: true; the input reads as it did. -/
def md5LongUptoRow : OpenClaim := { program := "ytadgdhefgibakaa", sum := "e90a10a6dd2e6e7dffa9ca69c46223131a0d1eae40d24a286031250d3cde9c39", func := "portreeve/portreevelaw02.Md5Long", spec := "md5Long", unfollowed := true, recurses := true, apart := false, narrowed := true }
def Md5LongUptoSaid : Prop := md5LongUptoRow.holds Try.pinned (OpenSpec.upto md5LongSpec)

end Rows
end Go.Proofs.Ytadgdhefgibakaa
