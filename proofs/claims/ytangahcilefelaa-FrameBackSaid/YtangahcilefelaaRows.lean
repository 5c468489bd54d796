/-
  No cell of these rows narrows 'for every input' (looked for: loops, veiled, ifaces, maps, wideKeys, modest, calm, conditions, laid).
  DERIVED. THE GIVEN ROWS OF THIS SEAT. 5 by the template 'for every input the law returns true; each argument reads behind the call as it read before'; 0 by the template 'total and deterministic' (their statements: YtangahcilefelaaTotals.lean).
  GIVEN WITH THE SEED: the statements are not yours to turn. If you find one false, say at which input.
  Laid BY PROGRAM, IN A SANDBOX (cutbox-rows.mjs): the forced cells as the released guide's own fill.sh prints them over the translation 83d314044b528f2c… (all of the seat's roots in one cut). By AI agents, Wed Nov 11 2026. No macro, syntax, notation, axiom, sorry.
-/
import Derived.Test.YtangahcilefelaaChecked
import GoSem.Claim
import GoSem.ClaimJoined
import GoSem.ClaimMapViews
import Derived.JoinedTies
import Derived.KernelRfl
namespace Go.Proofs.Ytangahcilefelaa
/- THE CELL 'sum', in the pinned program and in every row, IS THE sha256 OF THE DUMP (.gsa) THAT YtangahcilefelaaProg.lean LOADS. Nothing in Lean hashes anything: it is a label: what it is worth is what the hold of that sum in a sandbox is worth. -/
noncomputable def Try.pinned : Pinned := { name := "ytangahcilefelaa", sum := "83d314044b528f2c14259cb8440790782a4758bc37eece7534fc2262ede27839", checked := Try.checked }
namespace Rows
def none {H : Type} : Left H := { results := [], args := [] }

/-- 'portreevelaw08.FrameShort': WHATEVER THE INPUT: true; the input reads as it did. -/
def frameShortSpec : ChangeSpec := { name := "frameShort", fn := fun _ => fun
  | [d] => { results := [.lit (.bool true)], args := [d] }
  | _ => none }
def frameShortRow : OpenClaim := { program := "ytangahcilefelaa", sum := "83d314044b528f2c14259cb8440790782a4758bc37eece7534fc2262ede27839", func := "portreeve/portreevelaw08.FrameShort", spec := "frameShort", unfollowed := true, recurses := true, plainKeys := false, apart := false }
def FrameShortSaid : Prop := frameShortRow.holds Try.pinned (OpenSpec.ofChange frameShortSpec)

/-- ITS FALSE NEIGHBOUR: 'it returns false'. Refute it at one input. -/
def frameShortWrong : ChangeSpec := { name := "frameShort", fn := fun _ => fun
  | [d] => { results := [.lit (.bool false)], args := [d] }
  | _ => none }
def FrameShortWrongFalsely : Prop := frameShortRow.holds Try.pinned (OpenSpec.ofChange frameShortWrong)

/-- 'portreevelaw08.FrameRead': WHATEVER THE INPUT: true; the input reads as it did. -/
def frameReadSpec : ChangeSpec := { name := "frameRead", fn := fun _ => fun
  | [d1, d2] => { results := [.lit (.bool true)], args := [d1, d2] }
  | _ => none }
def frameReadRow : OpenClaim := { program := "ytangahcilefelaa", sum := "83d314044b528f2c14259cb8440790782a4758bc37eece7534fc2262ede27839", func := "portreeve/portreevelaw08.FrameRead", spec := "frameRead", unfollowed := true, recurses := true, plainKeys := false, apart := false }
def FrameReadSaid : Prop := frameReadRow.holds Try.pinned (OpenSpec.ofChange frameReadSpec)

/-- ITS FALSE NEIGHBOUR: 'it returns false'. Refute it at one input. -/
def frameReadWrong : ChangeSpec := { name := "frameRead", fn := fun _ => fun
  | [d1, d2] => { results := [.lit (.bool false)], args := [d1, d2] }
  | _ => none }
def FrameReadWrongFalsely : Prop := frameReadRow.holds Try.pinned (OpenSpec.ofChange frameReadWrong)

/-- 'portreevelaw08.FrameTakes': WHATEVER THE INPUT: true; the input reads as it did. -/
def frameTakesSpec : ChangeSpec := { name := "frameTakes", fn := fun _ => fun
  | [d1, d2] => { results := [.lit (.bool true)], args := [d1, d2] }
  | _ => none }
def frameTakesRow : OpenClaim := { program := "ytangahcilefelaa", sum := "83d314044b528f2c14259cb8440790782a4758bc37eece7534fc2262ede27839", func := "portreeve/portreevelaw08.FrameTakes", spec := "frameTakes", unfollowed := true, recurses := true, plainKeys := false, apart := false }
def FrameTakesSaid : Prop := frameTakesRow.holds Try.pinned (OpenSpec.ofChange frameTakesSpec)

/-- ITS FALSE NEIGHBOUR: 'it returns false'. Refute it at one input. -/
def frameTakesWrong : ChangeSpec := { name := "frameTakes", fn := fun _ => fun
  | [d1, d2] => { results := [.lit (.bool false)], args := [d1, d2] }
  | _ => none }
def FrameTakesWrongFalsely : Prop := frameTakesRow.holds Try.pinned (OpenSpec.ofChange frameTakesWrong)

/-- 'portreevelaw08.FrameBack': WHATEVER THE INPUT: true; the input reads as it did. -/
def frameBackSpec : ChangeSpec := { name := "frameBack", fn := fun _ => fun
  | [d] => { results := [.lit (.bool true)], args := [d] }
  | _ => none }
def frameBackRow : OpenClaim := { program := "ytangahcilefelaa", sum := "83d314044b528f2c14259cb8440790782a4758bc37eece7534fc2262ede27839", func := "portreeve/portreevelaw08.FrameBack", spec := "frameBack", unfollowed := true, recurses := true, plainKeys := false, apart := false }
def FrameBackSaid : Prop := frameBackRow.holds Try.pinned (OpenSpec.ofChange frameBackSpec)

/-- ITS FALSE NEIGHBOUR: 'it returns false'. Refute it at one input. -/
def frameBackWrong : ChangeSpec := { name := "frameBack", fn := fun _ => fun
  | [d] => { results := [.lit (.bool false)], args := [d] }
  | _ => none }
def FrameBackWrongFalsely : Prop := frameBackRow.holds Try.pinned (OpenSpec.ofChange frameBackWrong)

/-- 'portreevelaw08.FrameRow': WHATEVER THE INPUT: true; the input reads as it did. -/
def frameRowSpec : ChangeSpec := { name := "frameRow", fn := fun _ => fun
  | [d1, d2, d3] => { results := [.lit (.bool true)], args := [d1, d2, d3] }
  | _ => none }
def frameRowRow : OpenClaim := { program := "ytangahcilefelaa", sum := "83d314044b528f2c14259cb8440790782a4758bc37eece7534fc2262ede27839", func := "portreeve/portreevelaw08.FrameRow", spec := "frameRow", unfollowed := true, recurses := true, plainKeys := false, apart := false }
def FrameRowSaid : Prop := frameRowRow.holds Try.pinned (OpenSpec.ofChange frameRowSpec)

/-- ITS FALSE NEIGHBOUR: 'it returns false'. Refute it at one input. -/
def frameRowWrong : ChangeSpec := { name := "frameRow", fn := fun _ => fun
  | [d1, d2, d3] => { results := [.lit (.bool false)], args := [d1, d2, d3] }
  | _ => none }
def FrameRowWrongFalsely : Prop := frameRowRow.holds Try.pinned (OpenSpec.ofChange frameRowWrong)

/- THE SECOND FORM. 'bulk': how many values and letters a reading holds, each counted each time it is reached (what is shared counts as often as it is met; a slice's spare places count too). A statement '..UptoSaid' is the law's where the arguments, and the package variables that the reading takes, are together of bulk at most 1048576: NARROWER than '..Said'. Prove '..Said' where nothing that the law and all that it calls make is longer than what came in: it says more and counts as full. Else prove '..UptoSaid'. A law counts once. -/
mutual
def uptoBulk {H : Type} : DataW H → Nat
  | .lit (.string bytes) => bytes.length + 1
  | .lit _ => 1
  | .nil => 1
  | .ptr d => uptoBulk d + 1
  | .slice elems spare => uptoBulkAll elems + uptoBulkAll spare + 1
  | .agg parts => uptoBulkAll parts + 1
  | .iface _ d => uptoBulk d + 1
  | .map entries => uptoBulkEntries entries + 1
  | .held _ => 1
def uptoBulkAll {H : Type} : List (DataW H) → Nat
  | [] => 0
  | d :: r => uptoBulk d + uptoBulkAll r
def uptoBulkEntries {H : Type} : List (Lit × DataW H) → Nat
  | [] => 0
  | x :: r => uptoBulkEntry x + uptoBulkEntries r
def uptoBulkEntry {H : Type} : Lit × DataW H → Nat
  | (.string bytes, d) => bytes.length + uptoBulk d + 1
  | (_, d) => uptoBulk d + 1
 end
def uptoSmall : (H : Type) → List (DataW H) → Bool := fun _ ds => decide (uptoBulkAll ds ≤ 1048576)
def OpenSpec.upto (s : _root_.Go.ChangeSpec) : _root_.Go.OpenSpec := { _root_.Go.OpenSpec.ofChange s with cond := some uptoSmall }

/-- 'portreevelaw08.FrameShort', WHERE WHAT IT READS IS OF BULK AT MOST 1048576: true; the input reads as it did. -/
def frameShortUptoRow : OpenClaim := { program := "ytangahcilefelaa", sum := "83d314044b528f2c14259cb8440790782a4758bc37eece7534fc2262ede27839", func := "portreeve/portreevelaw08.FrameShort", spec := "frameShort", unfollowed := true, recurses := true, plainKeys := false, apart := false, narrowed := true }
def FrameShortUptoSaid : Prop := frameShortUptoRow.holds Try.pinned (OpenSpec.upto frameShortSpec)

/-- 'portreevelaw08.FrameRead', WHERE WHAT IT READS IS OF BULK AT MOST 1048576: true; the input reads as it did. -/
def frameReadUptoRow : OpenClaim := { program := "ytangahcilefelaa", sum := "83d314044b528f2c14259cb8440790782a4758bc37eece7534fc2262ede27839", func := "portreeve/portreevelaw08.FrameRead", spec := "frameRead", unfollowed := true, recurses := true, plainKeys := false, apart := false, narrowed := true }
def FrameReadUptoSaid : Prop := frameReadUptoRow.holds Try.pinned (OpenSpec.upto frameReadSpec)

/-- 'portreevelaw08.FrameTakes', WHERE WHAT IT READS IS OF BULK AT MOST 1048576: true; the input reads as it did. -/
def frameTakesUptoRow : OpenClaim := { program := "ytangahcilefelaa", sum := "83d314044b528f2c14259cb8440790782a4758bc37eece7534fc2262ede27839", func := "portreeve/portreevelaw08.FrameTakes", spec := "frameTakes", unfollowed := true, recurses := true, plainKeys := false, apart := false, narrowed := true }
def FrameTakesUptoSaid : Prop := frameTakesUptoRow.holds Try.pinned (OpenSpec.upto frameTakesSpec)

/-- 'portreevelaw08.FrameBack', WHERE WHAT IT READS IS OF BULK AT MOST 1048576: true; the input reads as it did. -/
def frameBackUptoRow : OpenClaim := { program := "ytangahcilefelaa", sum := "83d314044b528f2c14259cb8440790782a4758bc37eece7534fc2262ede27839", func := "portreeve/portreevelaw08.FrameBack", spec := "frameBack", unfollowed := true, recurses := true, plainKeys := false, apart := false, narrowed := true }
def FrameBackUptoSaid : Prop := frameBackUptoRow.holds Try.pinned (OpenSpec.upto frameBackSpec)

/-- 'portreevelaw08.FrameRow', WHERE WHAT IT READS IS OF BULK AT MOST 1048576: true; the input reads as it did. -/
def frameRowUptoRow : OpenClaim := { program := "ytangahcilefelaa", sum := "83d314044b528f2c14259cb8440790782a4758bc37eece7534fc2262ede27839", func := "portreeve/portreevelaw08.FrameRow", spec := "frameRow", unfollowed := true, recurses := true, plainKeys := false, apart := false, narrowed := true }
def FrameRowUptoSaid : Prop := frameRowUptoRow.holds Try.pinned (OpenSpec.upto frameRowSpec)

end Rows
end Go.Proofs.Ytangahcilefelaa
