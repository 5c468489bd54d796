/-
  No cell of these rows narrows 'for every input' (looked for: loops, veiled, ifaces, maps, wideKeys, modest, calm, conditions, laid).
  DERIVED. THE GIVEN ROWS OF THIS SEAT. 6 by the template 'for every input the law returns true; each argument reads behind the call as it read before'; 0 by the template 'total and deterministic' (their statements: YtfnmlhcpolfjaaaTotals.lean).
  GIVEN WITH THE SEED: the statements are not yours to turn. If you find one false, say at which input.
  Laid BY PROGRAM, IN A SANDBOX (cutbox-rows.mjs): the forced cells as the released guide's own fill.sh prints them over the translation a0b66113d4fb2a5e… (all of the seat's roots in one cut). By AI agents, Wed Nov 11 2026. No macro, syntax, notation, axiom, sorry.
-/
import Derived.Test.YtfnmlhcpolfjaaaChecked
import GoSem.Claim
import GoSem.ClaimJoined
import GoSem.ClaimMapViews
import Derived.JoinedTies
import Derived.KernelRfl
namespace Go.Proofs.Ytfnmlhcpolfjaaa
/- THE CELL 'sum', in the pinned program and in every row, IS THE sha256 OF THE DUMP (.gsa) THAT YtfnmlhcpolfjaaaProg.lean LOADS. Nothing in Lean hashes anything: it is a label: what it is worth is what the hold of that sum in a sandbox is worth. -/
noncomputable def Try.pinned : Pinned := { name := "ytfnmlhcpolfjaaa", sum := "a0b66113d4fb2a5e3cb71618c730719cfce30b2be5b3c7bb68381c6f29712adc", checked := Try.checked }
namespace Rows
def none {H : Type} : Left H := { results := [], args := [] }

/-- 'portreevelaw01.FcsTells': WHATEVER THE INPUT: true; the input reads as it did. -/
def fcsTellsSpec : ChangeSpec := { name := "fcsTells", fn := fun _ => fun
  | [d1, d2, d3] => { results := [.lit (.bool true)], args := [d1, d2, d3] }
  | _ => none }
def fcsTellsRow : OpenClaim := { program := "ytfnmlhcpolfjaaa", sum := "a0b66113d4fb2a5e3cb71618c730719cfce30b2be5b3c7bb68381c6f29712adc", func := "portreeve/portreevelaw01.FcsTells", spec := "fcsTells", apart := false }
def FcsTellsSaid : Prop := fcsTellsRow.holds Try.pinned (OpenSpec.ofChange fcsTellsSpec)

/-- ITS FALSE NEIGHBOUR: 'it returns false'. Refute it at one input. -/
def fcsTellsWrong : ChangeSpec := { name := "fcsTells", fn := fun _ => fun
  | [d1, d2, d3] => { results := [.lit (.bool false)], args := [d1, d2, d3] }
  | _ => none }
def FcsTellsWrongFalsely : Prop := fcsTellsRow.holds Try.pinned (OpenSpec.ofChange fcsTellsWrong)

/-- 'portreevelaw01.FcsBack': WHATEVER THE INPUT: true; the input reads as it did. -/
def fcsBackSpec : ChangeSpec := { name := "fcsBack", fn := fun _ => fun
  | [d1, d2, d3] => { results := [.lit (.bool true)], args := [d1, d2, d3] }
  | _ => none }
def fcsBackRow : OpenClaim := { program := "ytfnmlhcpolfjaaa", sum := "a0b66113d4fb2a5e3cb71618c730719cfce30b2be5b3c7bb68381c6f29712adc", func := "portreeve/portreevelaw01.FcsBack", spec := "fcsBack", apart := false }
def FcsBackSaid : Prop := fcsBackRow.holds Try.pinned (OpenSpec.ofChange fcsBackSpec)

/-- ITS FALSE NEIGHBOUR: 'it returns false'. Refute it at one input. -/
def fcsBackWrong : ChangeSpec := { name := "fcsBack", fn := fun _ => fun
  | [d1, d2, d3] => { results := [.lit (.bool false)], args := [d1, d2, d3] }
  | _ => none }
def FcsBackWrongFalsely : Prop := fcsBackRow.holds Try.pinned (OpenSpec.ofChange fcsBackWrong)

/-- 'portreevelaw01.FcsOn': WHATEVER THE INPUT: true; the input reads as it did. -/
def fcsOnSpec : ChangeSpec := { name := "fcsOn", fn := fun _ => fun
  | [d] => { results := [.lit (.bool true)], args := [d] }
  | _ => none }
def fcsOnRow : OpenClaim := { program := "ytfnmlhcpolfjaaa", sum := "a0b66113d4fb2a5e3cb71618c730719cfce30b2be5b3c7bb68381c6f29712adc", func := "portreeve/portreevelaw01.FcsOn", spec := "fcsOn", apart := false }
def FcsOnSaid : Prop := fcsOnRow.holds Try.pinned (OpenSpec.ofChange fcsOnSpec)

/-- ITS FALSE NEIGHBOUR: 'it returns false'. Refute it at one input. -/
def fcsOnWrong : ChangeSpec := { name := "fcsOn", fn := fun _ => fun
  | [d] => { results := [.lit (.bool false)], args := [d] }
  | _ => none }
def FcsOnWrongFalsely : Prop := fcsOnRow.holds Try.pinned (OpenSpec.ofChange fcsOnWrong)

/-- 'portreevelaw01.FcsBits': WHATEVER THE INPUT: true; the input reads as it did. -/
def fcsBitsSpec : ChangeSpec := { name := "fcsBits", fn := fun _ => fun
  | [d1, d2] => { results := [.lit (.bool true)], args := [d1, d2] }
  | _ => none }
def fcsBitsRow : OpenClaim := { program := "ytfnmlhcpolfjaaa", sum := "a0b66113d4fb2a5e3cb71618c730719cfce30b2be5b3c7bb68381c6f29712adc", func := "portreeve/portreevelaw01.FcsBits", spec := "fcsBits", apart := false }
def FcsBitsSaid : Prop := fcsBitsRow.holds Try.pinned (OpenSpec.ofChange fcsBitsSpec)

/-- ITS FALSE NEIGHBOUR: 'it returns false'. Refute it at one input. -/
def fcsBitsWrong : ChangeSpec := { name := "fcsBits", fn := fun _ => fun
  | [d1, d2] => { results := [.lit (.bool false)], args := [d1, d2] }
  | _ => none }
def FcsBitsWrongFalsely : Prop := fcsBitsRow.holds Try.pinned (OpenSpec.ofChange fcsBitsWrong)

/-- 'portreevelaw01.FcsApart': WHATEVER THE INPUT: true; the input reads as it did. -/
def fcsApartSpec : ChangeSpec := { name := "fcsApart", fn := fun _ => fun
  | [d1, d2, d3] => { results := [.lit (.bool true)], args := [d1, d2, d3] }
  | _ => none }
def fcsApartRow : OpenClaim := { program := "ytfnmlhcpolfjaaa", sum := "a0b66113d4fb2a5e3cb71618c730719cfce30b2be5b3c7bb68381c6f29712adc", func := "portreeve/portreevelaw01.FcsApart", spec := "fcsApart", apart := false }
def FcsApartSaid : Prop := fcsApartRow.holds Try.pinned (OpenSpec.ofChange fcsApartSpec)

/-- ITS FALSE NEIGHBOUR: 'it returns false'. Refute it at one input. -/
def fcsApartWrong : ChangeSpec := { name := "fcsApart", fn := fun _ => fun
  | [d1, d2, d3] => { results := [.lit (.bool false)], args := [d1, d2, d3] }
  | _ => none }
def FcsApartWrongFalsely : Prop := fcsApartRow.holds Try.pinned (OpenSpec.ofChange fcsApartWrong)

/-- 'portreevelaw01.FcsShort': WHATEVER THE INPUT: true; the input reads as it did. -/
def fcsShortSpec : ChangeSpec := { name := "fcsShort", fn := fun _ => fun
  | [d1, d2, d3] => { results := [.lit (.bool true)], args := [d1, d2, d3] }
  | _ => none }
def fcsShortRow : OpenClaim := { program := "ytfnmlhcpolfjaaa", sum := "a0b66113d4fb2a5e3cb71618c730719cfce30b2be5b3c7bb68381c6f29712adc", func := "portreeve/portreevelaw01.FcsShort", spec := "fcsShort", apart := false }
def FcsShortSaid : Prop := fcsShortRow.holds Try.pinned (OpenSpec.ofChange fcsShortSpec)

/-- ITS FALSE NEIGHBOUR: 'it returns false'. Refute it at one input. -/
def fcsShortWrong : ChangeSpec := { name := "fcsShort", fn := fun _ => fun
  | [d1, d2, d3] => { results := [.lit (.bool false)], args := [d1, d2, d3] }
  | _ => none }
def FcsShortWrongFalsely : Prop := fcsShortRow.holds Try.pinned (OpenSpec.ofChange fcsShortWrong)

/- THE SECOND FORM. 'bulk': how many values and letters a reading holds, each counted each time it is reached (what is shared counts as often as it is met; a slice's spare places count too). A statement '..UptoSaid' is the law's where the arguments, and the package variables that the reading takes, are together of bulk at most 1048576: NARROWER than '..Said'. Prove '..Said' where nothing that the law and all that it calls make is longer than what came in: it says more and counts as full. Else prove '..UptoSaid'. A law counts once. -/
mutual
def uptoBulk {H : Type} : DataW H → Nat
  | .lit (.string bytes) => bytes.length + 1
  | .lit _ => 1
  | .nil => 1
  | .ptr d => uptoBulk d + 1
  | .slice elems spare => uptoBulkAll elems + uptoBulkAll spare + 1
  | .agg parts => uptoBulkAll parts + 1
  | .iface _ d => uptoBulk d + 1
  | .map entries => uptoBulkEntries entries + 1
  | .held _ => 1
def uptoBulkAll {H : Type} : List (DataW H) → Nat
  | [] => 0
  | d :: r => uptoBulk d + uptoBulkAll r
def uptoBulkEntries {H : Type} : List (Lit × DataW H) → Nat
  | [] => 0
  | x :: r => uptoBulkEntry x + uptoBulkEntries r
def uptoBulkEntry {H : Type} : Lit × DataW H → Nat
  | (.string bytes, d) => bytes.length + uptoBulk d + 1
  | (_, d) => uptoBulk d + 1
 end
def uptoSmall : (H : Type) → List (DataW H) → Bool := fun _ ds => decide (uptoBulkAll ds ≤ 1048576)
def OpenSpec.upto (s : _root_.Go.ChangeSpec) : _root_.Go.OpenSpec := { _root_.Go.OpenSpec.ofChange s with cond := some uptoSmall }

/-- 'portreevelaw01.FcsTells', WHERE WHAT IT READS IS OF BULK AT MOST 1048576: true; the input reads as it did. -/
def fcsTellsUptoRow : OpenClaim := { program := "ytfnmlhcpolfjaaa", sum := "a0b66113d4fb2a5e3cb71618c730719cfce30b2be5b3c7bb68381c6f29712adc", func := "portreeve/portreevelaw01.FcsTells", spec := "fcsTells", apart := false, narrowed := true }
def FcsTellsUptoSaid : Prop := fcsTellsUptoRow.holds Try.pinned (OpenSpec.upto fcsTellsSpec)

/-- 'portreevelaw01.FcsBack', WHERE WHAT IT READS IS OF BULK AT MOST 1048576: true; the input reads as it did. -/
def fcsBackUptoRow : OpenClaim := { program := "ytfnmlhcpolfjaaa", sum := "a0b66113d4fb2a5e3cb71618c730719cfce30b2be5b3c7bb68381c6f29712adc", func := "portreeve/portreevelaw01.FcsBack", spec := "fcsBack", apart := false, narrowed := true }
def FcsBackUptoSaid : Prop := fcsBackUptoRow.holds Try.pinned (OpenSpec.upto fcsBackSpec)

/-- 'portreevelaw01.FcsOn', WHERE WHAT IT READS IS OF BULK AT MOST 1048576: true; the input reads as it did. -/
def fcsOnUptoRow : OpenClaim := { program := "ytfnmlhcpolfjaaa", sum := "a0b66113d4fb2a5e3cb71618c730719cfce30b2be5b3c7bb68381c6f29712adc", func := "portreeve/portreevelaw01.FcsOn", spec := "fcsOn", apart := false, narrowed := true }
def FcsOnUptoSaid : Prop := fcsOnUptoRow.holds Try.pinned (OpenSpec.upto fcsOnSpec)

/-- 'portreevelaw01.FcsBits', WHERE WHAT IT READS IS OF BULK AT MOST 1048576: true; the input reads as it did. -/
def fcsBitsUptoRow : OpenClaim := { program := "ytfnmlhcpolfjaaa", sum := "a0b66113d4fb2a5e3cb71618c730719cfce30b2be5b3c7bb68381c6f29712adc", func := "portreeve/portreevelaw01.FcsBits", spec := "fcsBits", apart := false, narrowed := true }
def FcsBitsUptoSaid : Prop := fcsBitsUptoRow.holds Try.pinned (OpenSpec.upto fcsBitsSpec)

/-- 'portreevelaw01.FcsApart', WHERE WHAT IT READS IS OF BULK AT MOST 1048576: true; the input reads as it did. -/
def fcsApartUptoRow : OpenClaim := { program := "ytfnmlhcpolfjaaa", sum := "a0b66113d4fb2a5e3cb71618c730719cfce30b2be5b3c7bb68381c6f29712adc", func := "portreeve/portreevelaw01.FcsApart", spec := "fcsApart", apart := false, narrowed := true }
def FcsApartUptoSaid : Prop := fcsApartUptoRow.holds Try.pinned (OpenSpec.upto fcsApartSpec)

/-- 'portreevelaw01.FcsShort', WHERE WHAT IT READS IS OF BULK AT MOST 1048576: true; the input reads as it did. -/
def fcsShortUptoRow : OpenClaim := { program := "ytfnmlhcpolfjaaa", sum := "a0b66113d4fb2a5e3cb71618c730719cfce30b2be5b3c7bb68381c6f29712adc", func := "portreeve/portreevelaw01.FcsShort", spec := "fcsShort", apart := false, narrowed := true }
def FcsShortUptoSaid : Prop := fcsShortUptoRow.holds Try.pinned (OpenSpec.upto fcsShortSpec)

end Rows
end Go.Proofs.Ytfnmlhcpolfjaaa
