/-
  No cell of these rows narrows 'for every input' (looked for: loops, veiled, ifaces, maps, wideKeys, modest, calm, conditions, laid).
  DERIVED. THE GIVEN ROWS OF THIS SEAT. 7 by the template 'for every input the law returns true; each argument reads behind the call as it read before'; 0 by the template 'total and deterministic' (their statements: YtdmhamnnadegnaaTotals.lean).
  GIVEN WITH THE SEED: the statements are not yours to turn. If you find one false, say at which input.
  Laid BY PROGRAM, IN A SANDBOX (cutbox-rows.mjs): the forced cells as the released guide's own fill.sh prints them over the translation 8e79a54e90c4b4b1… (all of the seat's roots in one cut). By AI agents, Wed Nov 11 2026. No macro, syntax, notation, axiom, sorry.
-/
import Derived.Test.YtdmhamnnadegnaaChecked
import GoSem.Claim
import GoSem.ClaimJoined
import GoSem.ClaimMapViews
import Derived.JoinedTies
import Derived.KernelRfl
namespace Go.Proofs.Ytdmhamnnadegnaa
/- THE CELL 'sum', in the pinned program and in every row, IS THE sha256 OF THE DUMP (.gsa) THAT YtdmhamnnadegnaaProg.lean LOADS. Nothing in Lean hashes anything: it is a label: what it is worth is what the hold of that sum in a sandbox is worth. -/
noncomputable def Try.pinned : Pinned := { name := "ytdmhamnnadegnaa", sum := "8e79a54e90c4b4b1627681a246c4f2ca4c0bcec315cd63a0fde5d16b91139a22", checked := Try.checked }
namespace Rows
def none {H : Type} : Left H := { results := [], args := [] }

/-- 'portreevelaw07.StuffTells': WHATEVER THE INPUT: true; the input reads as it did. -/
def stuffTellsSpec : ChangeSpec := { name := "stuffTells", fn := fun _ => fun
  | [d1, d2] => { results := [.lit (.bool true)], args := [d1, d2] }
  | _ => none }
def stuffTellsRow : OpenClaim := { program := "ytdmhamnnadegnaa", sum := "8e79a54e90c4b4b1627681a246c4f2ca4c0bcec315cd63a0fde5d16b91139a22", func := "portreeve/portreevelaw07.StuffTells", spec := "stuffTells", unfollowed := true, recurses := true, apart := false }
def StuffTellsSaid : Prop := stuffTellsRow.holds Try.pinned (OpenSpec.ofChange stuffTellsSpec)

/-- ITS FALSE NEIGHBOUR: 'it returns false'. Refute it at one input. -/
def stuffTellsWrong : ChangeSpec := { name := "stuffTells", fn := fun _ => fun
  | [d1, d2] => { results := [.lit (.bool false)], args := [d1, d2] }
  | _ => none }
def StuffTellsWrongFalsely : Prop := stuffTellsRow.holds Try.pinned (OpenSpec.ofChange stuffTellsWrong)

/-- 'portreevelaw07.StuffFeeds': WHATEVER THE INPUT: true; the input reads as it did. -/
def stuffFeedsSpec : ChangeSpec := { name := "stuffFeeds", fn := fun _ => fun
  | [d1, d2, d3] => { results := [.lit (.bool true)], args := [d1, d2, d3] }
  | _ => none }
def stuffFeedsRow : OpenClaim := { program := "ytdmhamnnadegnaa", sum := "8e79a54e90c4b4b1627681a246c4f2ca4c0bcec315cd63a0fde5d16b91139a22", func := "portreeve/portreevelaw07.StuffFeeds", spec := "stuffFeeds", unfollowed := true, recurses := true, apart := false }
def StuffFeedsSaid : Prop := stuffFeedsRow.holds Try.pinned (OpenSpec.ofChange stuffFeedsSpec)

/-- ITS FALSE NEIGHBOUR: 'it returns false'. Refute it at one input. -/
def stuffFeedsWrong : ChangeSpec := { name := "stuffFeeds", fn := fun _ => fun
  | [d1, d2, d3] => { results := [.lit (.bool false)], args := [d1, d2, d3] }
  | _ => none }
def StuffFeedsWrongFalsely : Prop := stuffFeedsRow.holds Try.pinned (OpenSpec.ofChange stuffFeedsWrong)

/-- 'portreevelaw07.StuffBack': WHATEVER THE INPUT: true; the input reads as it did. -/
def stuffBackSpec : ChangeSpec := { name := "stuffBack", fn := fun _ => fun
  | [d1, d2, d3] => { results := [.lit (.bool true)], args := [d1, d2, d3] }
  | _ => none }
def stuffBackRow : OpenClaim := { program := "ytdmhamnnadegnaa", sum := "8e79a54e90c4b4b1627681a246c4f2ca4c0bcec315cd63a0fde5d16b91139a22", func := "portreeve/portreevelaw07.StuffBack", spec := "stuffBack", unfollowed := true, recurses := true, apart := false }
def StuffBackSaid : Prop := stuffBackRow.holds Try.pinned (OpenSpec.ofChange stuffBackSpec)

/-- ITS FALSE NEIGHBOUR: 'it returns false'. Refute it at one input. -/
def stuffBackWrong : ChangeSpec := { name := "stuffBack", fn := fun _ => fun
  | [d1, d2, d3] => { results := [.lit (.bool false)], args := [d1, d2, d3] }
  | _ => none }
def StuffBackWrongFalsely : Prop := stuffBackRow.holds Try.pinned (OpenSpec.ofChange stuffBackWrong)

/-- 'portreevelaw07.StuffRow': WHATEVER THE INPUT: true; the input reads as it did. -/
def stuffRowSpec : ChangeSpec := { name := "stuffRow", fn := fun _ => fun
  | [d1, d2] => { results := [.lit (.bool true)], args := [d1, d2] }
  | _ => none }
def stuffRowRow : OpenClaim := { program := "ytdmhamnnadegnaa", sum := "8e79a54e90c4b4b1627681a246c4f2ca4c0bcec315cd63a0fde5d16b91139a22", func := "portreeve/portreevelaw07.StuffRow", spec := "stuffRow", unfollowed := true, recurses := true, apart := false }
def StuffRowSaid : Prop := stuffRowRow.holds Try.pinned (OpenSpec.ofChange stuffRowSpec)

/-- ITS FALSE NEIGHBOUR: 'it returns false'. Refute it at one input. -/
def stuffRowWrong : ChangeSpec := { name := "stuffRow", fn := fun _ => fun
  | [d1, d2] => { results := [.lit (.bool false)], args := [d1, d2] }
  | _ => none }
def StuffRowWrongFalsely : Prop := stuffRowRow.holds Try.pinned (OpenSpec.ofChange stuffRowWrong)

/-- 'portreevelaw07.StuffLong': WHATEVER THE INPUT: true; the input reads as it did. -/
def stuffLongSpec : ChangeSpec := { name := "stuffLong", fn := fun _ => fun
  | [d1, d2, d3] => { results := [.lit (.bool true)], args := [d1, d2, d3] }
  | _ => none }
def stuffLongRow : OpenClaim := { program := "ytdmhamnnadegnaa", sum := "8e79a54e90c4b4b1627681a246c4f2ca4c0bcec315cd63a0fde5d16b91139a22", func := "portreeve/portreevelaw07.StuffLong", spec := "stuffLong", unfollowed := true, recurses := true, apart := false }
def StuffLongSaid : Prop := stuffLongRow.holds Try.pinned (OpenSpec.ofChange stuffLongSpec)

/-- ITS FALSE NEIGHBOUR: 'it returns false'. Refute it at one input. -/
def stuffLongWrong : ChangeSpec := { name := "stuffLong", fn := fun _ => fun
  | [d1, d2, d3] => { results := [.lit (.bool false)], args := [d1, d2, d3] }
  | _ => none }
def StuffLongWrongFalsely : Prop := stuffLongRow.holds Try.pinned (OpenSpec.ofChange stuffLongWrong)

/-- 'portreevelaw07.StuffAnew': WHATEVER THE INPUT: true; the input reads as it did. -/
def stuffAnewSpec : ChangeSpec := { name := "stuffAnew", fn := fun _ => fun
  | [d1, d2] => { results := [.lit (.bool true)], args := [d1, d2] }
  | _ => none }
def stuffAnewRow : OpenClaim := { program := "ytdmhamnnadegnaa", sum := "8e79a54e90c4b4b1627681a246c4f2ca4c0bcec315cd63a0fde5d16b91139a22", func := "portreeve/portreevelaw07.StuffAnew", spec := "stuffAnew", unfollowed := true, recurses := true, apart := false }
def StuffAnewSaid : Prop := stuffAnewRow.holds Try.pinned (OpenSpec.ofChange stuffAnewSpec)

/-- ITS FALSE NEIGHBOUR: 'it returns false'. Refute it at one input. -/
def stuffAnewWrong : ChangeSpec := { name := "stuffAnew", fn := fun _ => fun
  | [d1, d2] => { results := [.lit (.bool false)], args := [d1, d2] }
  | _ => none }
def StuffAnewWrongFalsely : Prop := stuffAnewRow.holds Try.pinned (OpenSpec.ofChange stuffAnewWrong)

/-- 'portreevelaw07.StuffRight': WHATEVER THE INPUT: true; the input reads as it did. -/
def stuffRightSpec : ChangeSpec := { name := "stuffRight", fn := fun _ => fun
  | [d1, d2] => { results := [.lit (.bool true)], args := [d1, d2] }
  | _ => none }
def stuffRightRow : OpenClaim := { program := "ytdmhamnnadegnaa", sum := "8e79a54e90c4b4b1627681a246c4f2ca4c0bcec315cd63a0fde5d16b91139a22", func := "portreeve/portreevelaw07.StuffRight", spec := "stuffRight", unfollowed := true, recurses := true, apart := false }
def StuffRightSaid : Prop := stuffRightRow.holds Try.pinned (OpenSpec.ofChange stuffRightSpec)

/-- ITS FALSE NEIGHBOUR: 'it returns false'. Refute it at one input. -/
def stuffRightWrong : ChangeSpec := { name := "stuffRight", fn := fun _ => fun
  | [d1, d2] => { results := [.lit (.bool false)], args := [d1, d2] }
  | _ => none }
def StuffRightWrongFalsely : Prop := stuffRightRow.holds Try.pinned (OpenSpec.ofChange stuffRightWrong)

/- THE SECOND FORM. 'bulk': how many values and letters a reading holds, each counted each time it is reached (what is shared counts as often as it is met; a slice's spare places count too). A statement '..UptoSaid' is the law's where the arguments, and the package variables that the reading takes, are together of bulk at most 1048576: NARROWER than '..Said'. Prove '..Said' where nothing that the law and all that it calls make is longer than what came in: it says more and counts as full. Else prove '..UptoSaid'. A law counts once. -/
mutual
def uptoBulk {H : Type} : DataW H → Nat
  | .lit (.string bytes) => bytes.length + 1
  | .lit _ => 1
  | .nil => 1
  | .ptr d => uptoBulk d + 1
  | .slice elems spare => uptoBulkAll elems + uptoBulkAll spare + 1
  | .agg parts => uptoBulkAll parts + 1
  | .iface _ d => uptoBulk d + 1
  | .map entries => uptoBulkEntries entries + 1
  | .held _ => 1
def uptoBulkAll {H : Type} : List (DataW H) → Nat
  | [] => 0
  | d :: r => uptoBulk d + uptoBulkAll r
def uptoBulkEntries {H : Type} : List (Lit × DataW H) → Nat
  | [] => 0
  | x :: r => uptoBulkEntry x + uptoBulkEntries r
def uptoBulkEntry {H : Type} : Lit × DataW H → Nat
  | (.string bytes, d) => bytes.length + uptoBulk d + 1
  | (_, d) => uptoBulk d + 1
 end
def uptoSmall : (H : Type) → List (DataW H) → Bool := fun _ ds => decide (uptoBulkAll ds ≤ 1048576)
def OpenSpec.upto (s : _root_.Go.ChangeSpec) : _root_.Go.OpenSpec := { _root_.Go.OpenSpec.ofChange s with cond := some uptoSmall }

/-- 'portreevelaw07.StuffTells', WHERE WHAT IT READS IS OF BULK AT MOST 1048576: true; the input reads as it did. -/
def stuffTellsUptoRow : OpenClaim := { program := "ytdmhamnnadegnaa", sum := "8e79a54e90c4b4b1627681a246c4f2ca4c0bcec315cd63a0fde5d16b91139a22", func := "portreeve/portreevelaw07.StuffTells", spec := "stuffTells", unfollowed := true, recurses := true, apart := false, narrowed := true }
def StuffTellsUptoSaid : Prop := stuffTellsUptoRow.holds Try.pinned (OpenSpec.upto stuffTellsSpec)

/-- 'portreevelaw07.StuffFeeds', WHERE WHAT IT READS IS OF BULK AT MOST 1048576: true; the input reads as it did. -/
def stuffFeedsUptoRow : OpenClaim := { program := "ytdmhamnnadegnaa", sum := "8e79a54e90c4b4b1627681a246c4f2ca4c0bcec315cd63a0fde5d16b91139a22", func := "portreeve/portreevelaw07.StuffFeeds", spec := "stuffFeeds", unfollowed := true, recurses := true, apart := false, narrowed := true }
def StuffFeedsUptoSaid : Prop := stuffFeedsUptoRow.holds Try.pinned (OpenSpec.upto stuffFeedsSpec)

/-- 'portreevelaw07.StuffBack', WHERE WHAT IT READS IS OF BULK AT MOST 1048576: true; the input reads as it did. -/
def stuffBackUptoRow : OpenClaim := { program := "ytdmhamnnadegnaa", sum := "8e79a54e90c4b4b1627681a246c4f2ca4c0bcec315cd63a0fde5d16b91139a22", func := "portreeve/portreevelaw07.StuffBack", spec := "stuffBack", unfollowed := true, recurses := true, apart := false, narrowed := true }
def StuffBackUptoSaid : Prop := stuffBackUptoRow.holds Try.pinned (OpenSpec.upto stuffBackSpec)

/-- 'portreevelaw07.StuffRow', WHERE WHAT IT READS IS OF BULK AT MOST 1048576: true; the input reads as it did. -/
def stuffRowUptoRow : OpenClaim := { program := "ytdmhamnnadegnaa", sum := "8e79a54e90c4b4b1627681a246c4f2ca4c0bcec315cd63a0fde5d16b91139a22", func := "portreeve/portreevelaw07.StuffRow", spec := "stuffRow", unfollowed := true, recurses := true, apart := false, narrowed := true }
def StuffRowUptoSaid : Prop := stuffRowUptoRow.holds Try.pinned (OpenSpec.upto stuffRowSpec)

/-- 'portreevelaw07.StuffLong', WHERE WHAT IT READS IS OF BULK AT MOST 1048576: true; the input reads as it did. -/
def stuffLongUptoRow : OpenClaim := { program := "ytdmhamnnadegnaa", sum := "8e79a54e90c4b4b1627681a246c4f2ca4c0bcec315cd63a0fde5d16b91139a22", func := "portreeve/portreevelaw07.StuffLong", spec := "stuffLong", unfollowed := true, recurses := true, apart := false, narrowed := true }
def StuffLongUptoSaid : Prop := stuffLongUptoRow.holds Try.pinned (OpenSpec.upto stuffLongSpec)

/-- 'portreevelaw07.StuffAnew', WHERE WHAT IT READS IS OF BULK AT MOST 1048576: true; the input reads as it did. -/
def stuffAnewUptoRow : OpenClaim := { program := "ytdmhamnnadegnaa", sum := "8e79a54e90c4b4b1627681a246c4f2ca4c0bcec315cd63a0fde5d16b91139a22", func := "portreeve/portreevelaw07.StuffAnew", spec := "stuffAnew", unfollowed := true, recurses := true, apart := false, narrowed := true }
def StuffAnewUptoSaid : Prop := stuffAnewUptoRow.holds Try.pinned (OpenSpec.upto stuffAnewSpec)

/-- 'portreevelaw07.StuffRight', WHERE WHAT IT READS IS OF BULK AT MOST 1048576: true; the input reads as it did. -/
def stuffRightUptoRow : OpenClaim := { program := "ytdmhamnnadegnaa", sum := "8e79a54e90c4b4b1627681a246c4f2ca4c0bcec315cd63a0fde5d16b91139a22", func := "portreeve/portreevelaw07.StuffRight", spec := "stuffRight", unfollowed := true, recurses := true, apart := false, narrowed := true }
def StuffRightUptoSaid : Prop := stuffRightUptoRow.holds Try.pinned (OpenSpec.upto stuffRightSpec)

end Rows
end Go.Proofs.Ytdmhamnnadegnaa
