/-
  No cell of these rows narrows 'for every input' (looked for: loops, veiled, ifaces, maps, wideKeys, modest, calm, conditions, laid).
  DERIVED. THE GIVEN ROWS OF THIS SEAT. 6 by the template 'for every input the law returns true; each argument reads behind the call as it read before'; 0 by the template 'total and deterministic' (their statements: YtpbkdphilcodmaaTotals.lean).
  GIVEN WITH THE SEED: the statements are not yours to turn. If you find one false, say at which input.
  Laid BY PROGRAM, IN A SANDBOX (cutbox-rows.mjs): the forced cells as the released guide's own fill.sh prints them over the translation 2a977de49c4c2a44… (all of the seat's roots in one cut). By AI agents, Wed Nov 11 2026. No macro, syntax, notation, axiom, sorry.
-/
import Derived.Test.YtpbkdphilcodmaaChecked
import GoSem.Claim
import GoSem.ClaimJoined
import GoSem.ClaimMapViews
import Derived.JoinedTies
import Derived.KernelRfl
namespace Go.Proofs.Ytpbkdphilcodmaa
/- THE CELL 'sum', in the pinned program and in every row, IS THE sha256 OF THE DUMP (.gsa) THAT YtpbkdphilcodmaaProg.lean LOADS. Nothing in Lean hashes anything: it is a label: what it is worth is what the hold of that sum in a sandbox is worth. -/
noncomputable def Try.pinned : Pinned := { name := "ytpbkdphilcodmaa", sum := "2a977de49c4c2a4489cce78f7581d678dd8e29d3ed180abedce038d8b48262e1", checked := Try.checked }
namespace Rows
def none {H : Type} : Left H := { results := [], args := [] }

/-- 'portreevelaw15.ChapProves': WHATEVER THE INPUT: true; the input reads as it did. -/
def chapProvesSpec : ChangeSpec := { name := "chapProves", fn := fun _ => fun
  | [d1, d2, d3] => { results := [.lit (.bool true)], args := [d1, d2, d3] }
  | _ => none }
def chapProvesRow : OpenClaim := { program := "ytpbkdphilcodmaa", sum := "2a977de49c4c2a4489cce78f7581d678dd8e29d3ed180abedce038d8b48262e1", func := "portreeve/portreevelaw15.ChapProves", spec := "chapProves", unfollowed := true, recurses := true, apart := false }
def ChapProvesSaid : Prop := chapProvesRow.holds Try.pinned (OpenSpec.ofChange chapProvesSpec)

/-- ITS FALSE NEIGHBOUR: 'it returns false'. Refute it at one input. -/
def chapProvesWrong : ChangeSpec := { name := "chapProves", fn := fun _ => fun
  | [d1, d2, d3] => { results := [.lit (.bool false)], args := [d1, d2, d3] }
  | _ => none }
def ChapProvesWrongFalsely : Prop := chapProvesRow.holds Try.pinned (OpenSpec.ofChange chapProvesWrong)

/-- 'portreevelaw15.ChapEnds': WHATEVER THE INPUT: true; the input reads as it did. -/
def chapEndsSpec : ChangeSpec := { name := "chapEnds", fn := fun _ => fun
  | [d1, d2, d3] => { results := [.lit (.bool true)], args := [d1, d2, d3] }
  | _ => none }
def chapEndsRow : OpenClaim := { program := "ytpbkdphilcodmaa", sum := "2a977de49c4c2a4489cce78f7581d678dd8e29d3ed180abedce038d8b48262e1", func := "portreeve/portreevelaw15.ChapEnds", spec := "chapEnds", unfollowed := true, recurses := true, apart := false }
def ChapEndsSaid : Prop := chapEndsRow.holds Try.pinned (OpenSpec.ofChange chapEndsSpec)

/-- ITS FALSE NEIGHBOUR: 'it returns false'. Refute it at one input. -/
def chapEndsWrong : ChangeSpec := { name := "chapEnds", fn := fun _ => fun
  | [d1, d2, d3] => { results := [.lit (.bool false)], args := [d1, d2, d3] }
  | _ => none }
def ChapEndsWrongFalsely : Prop := chapEndsRow.holds Try.pinned (OpenSpec.ofChange chapEndsWrong)

/-- 'portreevelaw15.ChapRead': WHATEVER THE INPUT: true; the input reads as it did. -/
def chapReadSpec : ChangeSpec := { name := "chapRead", fn := fun _ => fun
  | [d] => { results := [.lit (.bool true)], args := [d] }
  | _ => none }
def chapReadRow : OpenClaim := { program := "ytpbkdphilcodmaa", sum := "2a977de49c4c2a4489cce78f7581d678dd8e29d3ed180abedce038d8b48262e1", func := "portreeve/portreevelaw15.ChapRead", spec := "chapRead", unfollowed := true, recurses := true, apart := false }
def ChapReadSaid : Prop := chapReadRow.holds Try.pinned (OpenSpec.ofChange chapReadSpec)

/-- ITS FALSE NEIGHBOUR: 'it returns false'. Refute it at one input. -/
def chapReadWrong : ChangeSpec := { name := "chapRead", fn := fun _ => fun
  | [d] => { results := [.lit (.bool false)], args := [d] }
  | _ => none }
def ChapReadWrongFalsely : Prop := chapReadRow.holds Try.pinned (OpenSpec.ofChange chapReadWrong)

/-- 'portreevelaw15.ChapOnce': WHATEVER THE INPUT: true; the input reads as it did. -/
def chapOnceSpec : ChangeSpec := { name := "chapOnce", fn := fun _ => fun
  | [d] => { results := [.lit (.bool true)], args := [d] }
  | _ => none }
def chapOnceRow : OpenClaim := { program := "ytpbkdphilcodmaa", sum := "2a977de49c4c2a4489cce78f7581d678dd8e29d3ed180abedce038d8b48262e1", func := "portreeve/portreevelaw15.ChapOnce", spec := "chapOnce", unfollowed := true, recurses := true, apart := false }
def ChapOnceSaid : Prop := chapOnceRow.holds Try.pinned (OpenSpec.ofChange chapOnceSpec)

/-- ITS FALSE NEIGHBOUR: 'it returns false'. Refute it at one input. -/
def chapOnceWrong : ChangeSpec := { name := "chapOnce", fn := fun _ => fun
  | [d] => { results := [.lit (.bool false)], args := [d] }
  | _ => none }
def ChapOnceWrongFalsely : Prop := chapOnceRow.holds Try.pinned (OpenSpec.ofChange chapOnceWrong)

/-- 'portreevelaw15.ChapUsers': WHATEVER THE INPUT: true; the input reads as it did. -/
def chapUsersSpec : ChangeSpec := { name := "chapUsers", fn := fun _ => fun
  | [d1, d2, d3] => { results := [.lit (.bool true)], args := [d1, d2, d3] }
  | _ => none }
def chapUsersRow : OpenClaim := { program := "ytpbkdphilcodmaa", sum := "2a977de49c4c2a4489cce78f7581d678dd8e29d3ed180abedce038d8b48262e1", func := "portreeve/portreevelaw15.ChapUsers", spec := "chapUsers", unfollowed := true, recurses := true, apart := false }
def ChapUsersSaid : Prop := chapUsersRow.holds Try.pinned (OpenSpec.ofChange chapUsersSpec)

/-- ITS FALSE NEIGHBOUR: 'it returns false'. Refute it at one input. -/
def chapUsersWrong : ChangeSpec := { name := "chapUsers", fn := fun _ => fun
  | [d1, d2, d3] => { results := [.lit (.bool false)], args := [d1, d2, d3] }
  | _ => none }
def ChapUsersWrongFalsely : Prop := chapUsersRow.holds Try.pinned (OpenSpec.ofChange chapUsersWrong)

/-- 'portreevelaw15.ChapGood': WHATEVER THE INPUT: true; the input reads as it did. -/
def chapGoodSpec : ChangeSpec := { name := "chapGood", fn := fun _ => fun
  | [d1, d2, d3] => { results := [.lit (.bool true)], args := [d1, d2, d3] }
  | _ => none }
def chapGoodRow : OpenClaim := { program := "ytpbkdphilcodmaa", sum := "2a977de49c4c2a4489cce78f7581d678dd8e29d3ed180abedce038d8b48262e1", func := "portreeve/portreevelaw15.ChapGood", spec := "chapGood", unfollowed := true, recurses := true, apart := false }
def ChapGoodSaid : Prop := chapGoodRow.holds Try.pinned (OpenSpec.ofChange chapGoodSpec)

/-- ITS FALSE NEIGHBOUR: 'it returns false'. Refute it at one input. -/
def chapGoodWrong : ChangeSpec := { name := "chapGood", fn := fun _ => fun
  | [d1, d2, d3] => { results := [.lit (.bool false)], args := [d1, d2, d3] }
  | _ => none }
def ChapGoodWrongFalsely : Prop := chapGoodRow.holds Try.pinned (OpenSpec.ofChange chapGoodWrong)

/- THE SECOND FORM. 'bulk': how many values and letters a reading holds, each counted each time it is reached (what is shared counts as often as it is met; a slice's spare places count too). A statement '..UptoSaid' is the law's where the arguments, and the package variables that the reading takes, are together of bulk at most 1048576: NARROWER than '..Said'. Prove '..Said' where nothing that the law and all that it calls make is longer than what came in: it says more and counts as full. Else prove '..UptoSaid'. A law counts once. -/
mutual
def uptoBulk {H : Type} : DataW H → Nat
  | .lit (.string bytes) => bytes.length + 1
  | .lit _ => 1
  | .nil => 1
  | .ptr d => uptoBulk d + 1
  | .slice elems spare => uptoBulkAll elems + uptoBulkAll spare + 1
  | .agg parts => uptoBulkAll parts + 1
  | .iface _ d => uptoBulk d + 1
  | .map entries => uptoBulkEntries entries + 1
  | .held _ => 1
def uptoBulkAll {H : Type} : List (DataW H) → Nat
  | [] => 0
  | d :: r => uptoBulk d + uptoBulkAll r
def uptoBulkEntries {H : Type} : List (Lit × DataW H) → Nat
  | [] => 0
  | x :: r => uptoBulkEntry x + uptoBulkEntries r
def uptoBulkEntry {H : Type} : Lit × DataW H → Nat
  | (.string bytes, d) => bytes.length + uptoBulk d + 1
  | (_, d) => uptoBulk d + 1
 end
def uptoSmall : (H : Type) → List (DataW H) → Bool := fun _ ds => decide (uptoBulkAll ds ≤ 1048576)
def OpenSpec.upto (s : _root_.Go.ChangeSpec) : _root_.Go.OpenSpec := { _root_.Go.OpenSpec.ofChange s with cond := some uptoSmall }

/-- 'portreevelaw15.ChapProves', WHERE WHAT IT READS IS OF BULK AT MOST 1048576: true; the input reads as it did. -/
def chapProvesUptoRow : OpenClaim := { program := "ytpbkdphilcodmaa", sum := "2a977de49c4c2a4489cce78f7581d678dd8e29d3ed180abedce038d8b48262e1", func := "portreeve/portreevelaw15.ChapProves", spec := "chapProves", unfollowed := true, recurses := true, apart := false, narrowed := true }
def ChapProvesUptoSaid : Prop := chapProvesUptoRow.holds Try.pinned (OpenSpec.upto chapProvesSpec)

/-- 'portreevelaw15.ChapEnds', WHERE WHAT IT READS IS OF BULK AT MOST 1048576: true; the input reads as it did. -/
def chapEndsUptoRow : OpenClaim := { program := "ytpbkdphilcodmaa", sum := "2a977de49c4c2a4489cce78f7581d678dd8e29d3ed180abedce038d8b48262e1", func := "portreeve/portreevelaw15.ChapEnds", spec := "chapEnds", unfollowed := true, recurses := true, apart := false, narrowed := true }
def ChapEndsUptoSaid : Prop := chapEndsUptoRow.holds Try.pinned (OpenSpec.upto chapEndsSpec)

/-- 'portreevelaw15.ChapRead', WHERE WHAT IT READS IS OF BULK AT MOST 1048576: true; the input reads as it did. -/
def chapReadUptoRow : OpenClaim := { program := "ytpbkdphilcodmaa", sum := "2a977de49c4c2a4489cce78f7581d678dd8e29d3ed180abedce038d8b48262e1", func := "portreeve/portreevelaw15.ChapRead", spec := "chapRead", unfollowed := true, recurses := true, apart := false, narrowed := true }
def ChapReadUptoSaid : Prop := chapReadUptoRow.holds Try.pinned (OpenSpec.upto chapReadSpec)

/-- 'portreevelaw15.ChapOnce', WHERE WHAT IT READS IS OF BULK AT MOST 1048576: true; the input reads as it did. -/
def chapOnceUptoRow : OpenClaim := { program := "ytpbkdphilcodmaa", sum := "2a977de49c4c2a4489cce78f7581d678dd8e29d3ed180abedce038d8b48262e1", func := "portreeve/portreevelaw15.ChapOnce", spec := "chapOnce", unfollowed := true, recurses := true, apart := false, narrowed := true }
def ChapOnceUptoSaid : Prop := chapOnceUptoRow.holds Try.pinned (OpenSpec.upto chapOnceSpec)

/-- 'portreevelaw15.ChapUsers', WHERE WHAT IT READS IS OF BULK AT MOST 1048576: true; the input reads as it did. -/
def chapUsersUptoRow : OpenClaim := { program := "ytpbkdphilcodmaa", sum := "2a977de49c4c2a4489cce78f7581d678dd8e29d3ed180abedce038d8b48262e1", func := "portreeve/portreevelaw15.ChapUsers", spec := "chapUsers", unfollowed := true, recurses := true, apart := false, narrowed := true }
def ChapUsersUptoSaid : Prop := chapUsersUptoRow.holds Try.pinned (OpenSpec.upto chapUsersSpec)

/-- 'portreevelaw15.ChapGood', WHERE WHAT IT READS IS OF BULK AT MOST 1048576: true; the input reads as it did. -/
def chapGoodUptoRow : OpenClaim := { program := "ytpbkdphilcodmaa", sum := "2a977de49c4c2a4489cce78f7581d678dd8e29d3ed180abedce038d8b48262e1", func := "portreeve/portreevelaw15.ChapGood", spec := "chapGood", unfollowed := true, recurses := true, apart := false, narrowed := true }
def ChapGoodUptoSaid : Prop := chapGoodUptoRow.holds Try.pinned (OpenSpec.upto chapGoodSpec)

end Rows
end Go.Proofs.Ytpbkdphilcodmaa
