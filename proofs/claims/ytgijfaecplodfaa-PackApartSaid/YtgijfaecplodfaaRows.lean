/-
  No cell of these rows narrows 'for every input' (looked for: loops, veiled, ifaces, maps, wideKeys, modest, calm, conditions, laid).
  DERIVED. THE GIVEN ROWS OF THIS SEAT. 5 by the template 'for every input the law returns true; each argument reads behind the call as it read before'; 0 by the template 'total and deterministic' (their statements: YtgijfaecplodfaaTotals.lean).
  GIVEN WITH THE SEED: the statements are not yours to turn. If you find one false, say at which input.
  Laid BY PROGRAM, IN A SANDBOX (cutbox-rows.mjs): the forced cells as the released guide's own fill.sh prints them over the translation cccb1412be08be83… (all of the seat's roots in one cut). By AI agents, Wed Nov 11 2026. No macro, syntax, notation, axiom, sorry.
-/
import Derived.Test.YtgijfaecplodfaaChecked
import GoSem.Claim
import GoSem.ClaimJoined
import GoSem.ClaimMapViews
import Derived.JoinedTies
import Derived.KernelRfl
namespace Go.Proofs.Ytgijfaecplodfaa
/- THE CELL 'sum', in the pinned program and in every row, IS THE sha256 OF THE DUMP (.gsa) THAT YtgijfaecplodfaaProg.lean LOADS. Nothing in Lean hashes anything: it is a label: what it is worth is what the hold of that sum in a sandbox is worth. -/
noncomputable def Try.pinned : Pinned := { name := "ytgijfaecplodfaa", sum := "cccb1412be08be83f08be2421c644f81abc66e6d04357880333a5f69ed901da8", checked := Try.checked }
namespace Rows
def none {H : Type} : Left H := { results := [], args := [] }

/-- 'portreevelaw09.PackTells': WHATEVER THE INPUT: true; the input reads as it did. -/
def packTellsSpec : ChangeSpec := { name := "packTells", fn := fun _ => fun
  | [d1, d2] => { results := [.lit (.bool true)], args := [d1, d2] }
  | _ => none }
def packTellsRow : OpenClaim := { program := "ytgijfaecplodfaa", sum := "cccb1412be08be83f08be2421c644f81abc66e6d04357880333a5f69ed901da8", func := "portreeve/portreevelaw09.PackTells", spec := "packTells", apart := false }
def PackTellsSaid : Prop := packTellsRow.holds Try.pinned (OpenSpec.ofChange packTellsSpec)

/-- ITS FALSE NEIGHBOUR: 'it returns false'. Refute it at one input. -/
def packTellsWrong : ChangeSpec := { name := "packTells", fn := fun _ => fun
  | [d1, d2] => { results := [.lit (.bool false)], args := [d1, d2] }
  | _ => none }
def PackTellsWrongFalsely : Prop := packTellsRow.holds Try.pinned (OpenSpec.ofChange packTellsWrong)

/-- 'portreevelaw09.PackBack': WHATEVER THE INPUT: true; the input reads as it did. -/
def packBackSpec : ChangeSpec := { name := "packBack", fn := fun _ => fun
  | [d1, d2, d3] => { results := [.lit (.bool true)], args := [d1, d2, d3] }
  | _ => none }
def packBackRow : OpenClaim := { program := "ytgijfaecplodfaa", sum := "cccb1412be08be83f08be2421c644f81abc66e6d04357880333a5f69ed901da8", func := "portreeve/portreevelaw09.PackBack", spec := "packBack", apart := false }
def PackBackSaid : Prop := packBackRow.holds Try.pinned (OpenSpec.ofChange packBackSpec)

/-- ITS FALSE NEIGHBOUR: 'it returns false'. Refute it at one input. -/
def packBackWrong : ChangeSpec := { name := "packBack", fn := fun _ => fun
  | [d1, d2, d3] => { results := [.lit (.bool false)], args := [d1, d2, d3] }
  | _ => none }
def PackBackWrongFalsely : Prop := packBackRow.holds Try.pinned (OpenSpec.ofChange packBackWrong)

/-- 'portreevelaw09.PackLong': WHATEVER THE INPUT: true; the input reads as it did. -/
def packLongSpec : ChangeSpec := { name := "packLong", fn := fun _ => fun
  | [d1, d2, d3] => { results := [.lit (.bool true)], args := [d1, d2, d3] }
  | _ => none }
def packLongRow : OpenClaim := { program := "ytgijfaecplodfaa", sum := "cccb1412be08be83f08be2421c644f81abc66e6d04357880333a5f69ed901da8", func := "portreeve/portreevelaw09.PackLong", spec := "packLong", apart := false }
def PackLongSaid : Prop := packLongRow.holds Try.pinned (OpenSpec.ofChange packLongSpec)

/-- ITS FALSE NEIGHBOUR: 'it returns false'. Refute it at one input. -/
def packLongWrong : ChangeSpec := { name := "packLong", fn := fun _ => fun
  | [d1, d2, d3] => { results := [.lit (.bool false)], args := [d1, d2, d3] }
  | _ => none }
def PackLongWrongFalsely : Prop := packLongRow.holds Try.pinned (OpenSpec.ofChange packLongWrong)

/-- 'portreevelaw09.PackCodes': WHATEVER THE INPUT: true; the input reads as it did. -/
def packCodesSpec : ChangeSpec := { name := "packCodes", fn := fun _ => fun
  | [d1, d2] => { results := [.lit (.bool true)], args := [d1, d2] }
  | _ => none }
def packCodesRow : OpenClaim := { program := "ytgijfaecplodfaa", sum := "cccb1412be08be83f08be2421c644f81abc66e6d04357880333a5f69ed901da8", func := "portreeve/portreevelaw09.PackCodes", spec := "packCodes", apart := false }
def PackCodesSaid : Prop := packCodesRow.holds Try.pinned (OpenSpec.ofChange packCodesSpec)

/-- ITS FALSE NEIGHBOUR: 'it returns false'. Refute it at one input. -/
def packCodesWrong : ChangeSpec := { name := "packCodes", fn := fun _ => fun
  | [d1, d2] => { results := [.lit (.bool false)], args := [d1, d2] }
  | _ => none }
def PackCodesWrongFalsely : Prop := packCodesRow.holds Try.pinned (OpenSpec.ofChange packCodesWrong)

/-- 'portreevelaw09.PackApart': WHATEVER THE INPUT: true; the input reads as it did. -/
def packApartSpec : ChangeSpec := { name := "packApart", fn := fun _ => fun
  | [d1, d2, d3] => { results := [.lit (.bool true)], args := [d1, d2, d3] }
  | _ => none }
def packApartRow : OpenClaim := { program := "ytgijfaecplodfaa", sum := "cccb1412be08be83f08be2421c644f81abc66e6d04357880333a5f69ed901da8", func := "portreeve/portreevelaw09.PackApart", spec := "packApart", apart := false }
def PackApartSaid : Prop := packApartRow.holds Try.pinned (OpenSpec.ofChange packApartSpec)

/-- ITS FALSE NEIGHBOUR: 'it returns false'. Refute it at one input. -/
def packApartWrong : ChangeSpec := { name := "packApart", fn := fun _ => fun
  | [d1, d2, d3] => { results := [.lit (.bool false)], args := [d1, d2, d3] }
  | _ => none }
def PackApartWrongFalsely : Prop := packApartRow.holds Try.pinned (OpenSpec.ofChange packApartWrong)

/- THE SECOND FORM. 'bulk': how many values and letters a reading holds, each counted each time it is reached (what is shared counts as often as it is met; a slice's spare places count too). A statement '..UptoSaid' is the law's where the arguments, and the package variables that the reading takes, are together of bulk at most 1048576: NARROWER than '..Said'. Prove '..Said' where nothing that the law and all that it calls make is longer than what came in: it says more and counts as full. Else prove '..UptoSaid'. A law counts once. -/
mutual
def uptoBulk {H : Type} : DataW H → Nat
  | .lit (.string bytes) => bytes.length + 1
  | .lit _ => 1
  | .nil => 1
  | .ptr d => uptoBulk d + 1
  | .slice elems spare => uptoBulkAll elems + uptoBulkAll spare + 1
  | .agg parts => uptoBulkAll parts + 1
  | .iface _ d => uptoBulk d + 1
  | .map entries => uptoBulkEntries entries + 1
  | .held _ => 1
def uptoBulkAll {H : Type} : List (DataW H) → Nat
  | [] => 0
  | d :: r => uptoBulk d + uptoBulkAll r
def uptoBulkEntries {H : Type} : List (Lit × DataW H) → Nat
  | [] => 0
  | x :: r => uptoBulkEntry x + uptoBulkEntries r
def uptoBulkEntry {H : Type} : Lit × DataW H → Nat
  | (.string bytes, d) => bytes.length + uptoBulk d + 1
  | (_, d) => uptoBulk d + 1
 end
def uptoSmall : (H : Type) → List (DataW H) → Bool := fun _ ds => decide (uptoBulkAll ds ≤ 1048576)
def OpenSpec.upto (s : _root_.Go.ChangeSpec) : _root_.Go.OpenSpec := { _root_.Go.OpenSpec.ofChange s with cond := some uptoSmall }

/-- 'portreevelaw09.PackTells', WHERE WHAT IT READS IS OF BULK AT MOST 1048576: true; the input reads as it did. -/
def packTellsUptoRow : OpenClaim := { program := "ytgijfaecplodfaa", sum := "cccb1412be08be83f08be2421c644f81abc66e6d04357880333a5f69ed901da8", func := "portreeve/portreevelaw09.PackTells", spec := "packTells", apart := false, narrowed := true }
def PackTellsUptoSaid : Prop := packTellsUptoRow.holds Try.pinned (OpenSpec.upto packTellsSpec)

/-- 'portreevelaw09.PackBack', WHERE WHAT IT READS IS OF BULK AT MOST 1048576: true; the input reads as it did. -/
def packBackUptoRow : OpenClaim := { program := "ytgijfaecplodfaa", sum := "cccb1412be08be83f08be2421c644f81abc66e6d04357880333a5f69ed901da8", func := "portreeve/portreevelaw09.PackBack", spec := "packBack", apart := false, narrowed := true }
def PackBackUptoSaid : Prop := packBackUptoRow.holds Try.pinned (OpenSpec.upto packBackSpec)

/-- 'portreevelaw09.PackLong', WHERE WHAT IT READS IS OF BULK AT MOST 1048576: true; the input reads as it did. -/
def packLongUptoRow : OpenClaim := { program := "ytgijfaecplodfaa", sum := "cccb1412be08be83f08be2421c644f81abc66e6d04357880333a5f69ed901da8", func := "portreeve/portreevelaw09.PackLong", spec := "packLong", apart := false, narrowed := true }
def PackLongUptoSaid : Prop := packLongUptoRow.holds Try.pinned (OpenSpec.upto packLongSpec)

/-- 'portreevelaw09.PackCodes', WHERE WHAT IT READS IS OF BULK AT MOST 1048576: true; the input reads as it did. -/
def packCodesUptoRow : OpenClaim := { program := "ytgijfaecplodfaa", sum := "cccb1412be08be83f08be2421c644f81abc66e6d04357880333a5f69ed901da8", func := "portreeve/portreevelaw09.PackCodes", spec := "packCodes", apart := false, narrowed := true }
def PackCodesUptoSaid : Prop := packCodesUptoRow.holds Try.pinned (OpenSpec.upto packCodesSpec)

/-- 'portreevelaw09.PackApart', WHERE WHAT IT READS IS OF BULK AT MOST 1048576: true; the input reads as it did. -/
def packApartUptoRow : OpenClaim := { program := "ytgijfaecplodfaa", sum := "cccb1412be08be83f08be2421c644f81abc66e6d04357880333a5f69ed901da8", func := "portreeve/portreevelaw09.PackApart", spec := "packApart", apart := false, narrowed := true }
def PackApartUptoSaid : Prop := packApartUptoRow.holds Try.pinned (OpenSpec.upto packApartSpec)

end Rows
end Go.Proofs.Ytgijfaecplodfaa
