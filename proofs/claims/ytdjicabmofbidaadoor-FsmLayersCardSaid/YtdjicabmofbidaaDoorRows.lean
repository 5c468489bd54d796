/-
  NARROWER THAN 'FOR EVERY INPUT', by the rows' own cells (each row's printed sentence says how): FsmTells: laid · FsmAll: laid · FsmLayers: laid · FsmTimes: laid · FsmNames: laid · FsmClosed: laid · FsmAgrees: laid · FsmBelow: laid.
  DERIVED. THE GIVEN ROWS OF THIS SEAT. 8 by the template 'for every input the law returns true; each argument reads behind the call as it read before'; 0 by the template 'total and deterministic' (their statements: YtdjicabmofbidaaDoorTotals.lean).
  GIVEN WITH THE SEED: the statements are not yours to turn. If you find one false, say at which input.
  Laid BY PROGRAM, IN A SANDBOX (cutbox-rows.mjs): the forced cells as the released guide's own fill.sh prints them over the translation 8b19c0a33eeaab43… (all of the seat's roots in one cut). By AI agents, Wed Nov 11 2026. No macro, syntax, notation, axiom, sorry.
-/
import Derived.Test.YtdjicabmofbidaaDoorChecked
import GoSem.Claim
import GoSem.ClaimJoined
import GoSem.ClaimMapViews
import Derived.JoinedTies
import Derived.KernelRfl
namespace Go.Proofs.YtdjicabmofbidaaDoor
/- THE CELL 'sum', in the pinned program and in every row, IS THE sha256 OF THE DUMP (.gsa) THAT YtdjicabmofbidaaDoorProg.lean LOADS. Nothing in Lean hashes anything: it is a label: what it is worth is what the hold of that sum in a sandbox is worth. -/
noncomputable def Tryd.pinned : Pinned := { name := "ytdjicabmofbidaadoor", sum := "8b19c0a33eeaab43e256b2ff07b730cd921ee8f1fc07bfe04587b80f12dde538", checked := Tryd.checked }
namespace Rows
def none {H : Type} : Left H := { results := [], args := [] }

/- WHAT THE LISTED PACKAGE-LEVEL VARIABLES READ AS WHEN THE CALL BEGINS. Each datum BY PROGRAM (the guide's laid-datum.mjs) off the statement by which the dump's own 'gosem.cut.vars' lays the variable. In a bare row this is a premise. The card (YtdjicabmofbidaaDoorCards.lean) ties it to the program's text. -/
def laid_unicode_White_Space {H : Type} : DataW H := .ptr (.agg [.slice [.agg [.lit (.int .u16 9), .lit (.int .u16 13), .lit (.int .u16 1)], .agg [.lit (.int .u16 32), .lit (.int .u16 133), .lit (.int .u16 101)], .agg [.lit (.int .u16 160), .lit (.int .u16 5760), .lit (.int .u16 5600)], .agg [.lit (.int .u16 8192), .lit (.int .u16 8202), .lit (.int .u16 1)], .agg [.lit (.int .u16 8232), .lit (.int .u16 8233), .lit (.int .u16 1)], .agg [.lit (.int .u16 8239), .lit (.int .u16 8287), .lit (.int .u16 48)], .agg [.lit (.int .u16 12288), .lit (.int .u16 12288), .lit (.int .u16 1)]] [], .nil, .lit (.int .i64 2)])
def laid_strings_asciiSpace {H : Type} : DataW H := .agg [.lit (.int .u8 0), .lit (.int .u8 0), .lit (.int .u8 0), .lit (.int .u8 0), .lit (.int .u8 0), .lit (.int .u8 0), .lit (.int .u8 0), .lit (.int .u8 0), .lit (.int .u8 0), .lit (.int .u8 1), .lit (.int .u8 1), .lit (.int .u8 1), .lit (.int .u8 1), .lit (.int .u8 1), .lit (.int .u8 0), .lit (.int .u8 0), .lit (.int .u8 0), .lit (.int .u8 0), .lit (.int .u8 0), .lit (.int .u8 0), .lit (.int .u8 0), .lit (.int .u8 0), .lit (.int .u8 0), .lit (.int .u8 0), .lit (.int .u8 0), .lit (.int .u8 0), .lit (.int .u8 0), .lit (.int .u8 0), .lit (.int .u8 0), .lit (.int .u8 0), .lit (.int .u8 0), .lit (.int .u8 0), .lit (.int .u8 1), .lit (.int .u8 0), .lit (.int .u8 0), .lit (.int .u8 0), .lit (.int .u8 0), .lit (.int .u8 0), .lit (.int .u8 0), .lit (.int .u8 0), .lit (.int .u8 0), .lit (.int .u8 0), .lit (.int .u8 0), .lit (.int .u8 0), .lit (.int .u8 0), .lit (.int .u8 0), .lit (.int .u8 0), .lit (.int .u8 0), .lit (.int .u8 0), .lit (.int .u8 0), .lit (.int .u8 0), .lit (.int .u8 0), .lit (.int .u8 0), .lit (.int .u8 0), .lit (.int .u8 0), .lit (.int .u8 0), .lit (.int .u8 0), .lit (.int .u8 0), .lit (.int .u8 0), .lit (.int .u8 0), .lit (.int .u8 0), .lit (.int .u8 0), .lit (.int .u8 0), .lit (.int .u8 0), .lit (.int .u8 0), .lit (.int .u8 0), .lit (.int .u8 0), .lit (.int .u8 0), .lit (.int .u8 0), .lit (.int .u8 0), .lit (.int .u8 0), .lit (.int .u8 0), .lit (.int .u8 0), .lit (.int .u8 0), .lit (.int .u8 0), .lit (.int .u8 0), .lit (.int .u8 0), .lit (.int .u8 0), .lit (.int .u8 0), .lit (.int .u8 0), .lit (.int .u8 0), .lit (.int .u8 0), .lit (.int .u8 0), .lit (.int .u8 0), .lit (.int .u8 0), .lit (.int .u8 0), .lit (.int .u8 0), .lit (.int .u8 0), .lit (.int .u8 0), .lit (.int .u8 0), .lit (.int .u8 0), .lit (.int .u8 0), .lit (.int .u8 0), .lit (.int .u8 0), .lit (.int .u8 0), .lit (.int .u8 0), .lit (.int .u8 0), .lit (.int .u8 0), .lit (.int .u8 0), .lit (.int .u8 0), .lit (.int .u8 0), .lit (.int .u8 0), .lit (.int .u8 0), .lit (.int .u8 0), .lit (.int .u8 0), .lit (.int .u8 0), .lit (.int .u8 0), .lit (.int .u8 0), .lit (.int .u8 0), .lit (.int .u8 0), .lit (.int .u8 0), .lit (.int .u8 0), .lit (.int .u8 0), .lit (.int .u8 0), .lit (.int .u8 0), .lit (.int .u8 0), .lit (.int .u8 0), .lit (.int .u8 0), .lit (.int .u8 0), .lit (.int .u8 0), .lit (.int .u8 0), .lit (.int .u8 0), .lit (.int .u8 0), .lit (.int .u8 0), .lit (.int .u8 0), .lit (.int .u8 0), .lit (.int .u8 0), .lit (.int .u8 0), .lit (.int .u8 0), .lit (.int .u8 0), .lit (.int .u8 0), .lit (.int .u8 0), .lit (.int .u8 0), .lit (.int .u8 0), .lit (.int .u8 0), .lit (.int .u8 0), .lit (.int .u8 0), .lit (.int .u8 0), .lit (.int .u8 0), .lit (.int .u8 0), .lit (.int .u8 0), .lit (.int .u8 0), .lit (.int .u8 0), .lit (.int .u8 0), .lit (.int .u8 0), .lit (.int .u8 0), .lit (.int .u8 0), .lit (.int .u8 0), .lit (.int .u8 0), .lit (.int .u8 0), .lit (.int .u8 0), .lit (.int .u8 0), .lit (.int .u8 0), .lit (.int .u8 0), .lit (.int .u8 0), .lit (.int .u8 0), .lit (.int .u8 0), .lit (.int .u8 0), .lit (.int .u8 0), .lit (.int .u8 0), .lit (.int .u8 0), .lit (.int .u8 0), .lit (.int .u8 0), .lit (.int .u8 0), .lit (.int .u8 0), .lit (.int .u8 0), .lit (.int .u8 0), .lit (.int .u8 0), .lit (.int .u8 0), .lit (.int .u8 0), .lit (.int .u8 0), .lit (.int .u8 0), .lit (.int .u8 0), .lit (.int .u8 0), .lit (.int .u8 0), .lit (.int .u8 0), .lit (.int .u8 0), .lit (.int .u8 0), .lit (.int .u8 0), .lit (.int .u8 0), .lit (.int .u8 0), .lit (.int .u8 0), .lit (.int .u8 0), .lit (.int .u8 0), .lit (.int .u8 0), .lit (.int .u8 0), .lit (.int .u8 0), .lit (.int .u8 0), .lit (.int .u8 0), .lit (.int .u8 0), .lit (.int .u8 0), .lit (.int .u8 0), .lit (.int .u8 0), .lit (.int .u8 0), .lit (.int .u8 0), .lit (.int .u8 0), .lit (.int .u8 0), .lit (.int .u8 0), .lit (.int .u8 0), .lit (.int .u8 0), .lit (.int .u8 0), .lit (.int .u8 0), .lit (.int .u8 0), .lit (.int .u8 0), .lit (.int .u8 0), .lit (.int .u8 0), .lit (.int .u8 0), .lit (.int .u8 0), .lit (.int .u8 0), .lit (.int .u8 0), .lit (.int .u8 0), .lit (.int .u8 0), .lit (.int .u8 0), .lit (.int .u8 0), .lit (.int .u8 0), .lit (.int .u8 0), .lit (.int .u8 0), .lit (.int .u8 0), .lit (.int .u8 0), .lit (.int .u8 0), .lit (.int .u8 0), .lit (.int .u8 0), .lit (.int .u8 0), .lit (.int .u8 0), .lit (.int .u8 0), .lit (.int .u8 0), .lit (.int .u8 0), .lit (.int .u8 0), .lit (.int .u8 0), .lit (.int .u8 0), .lit (.int .u8 0), .lit (.int .u8 0), .lit (.int .u8 0), .lit (.int .u8 0), .lit (.int .u8 0), .lit (.int .u8 0), .lit (.int .u8 0), .lit (.int .u8 0), .lit (.int .u8 0), .lit (.int .u8 0), .lit (.int .u8 0), .lit (.int .u8 0), .lit (.int .u8 0), .lit (.int .u8 0), .lit (.int .u8 0), .lit (.int .u8 0), .lit (.int .u8 0), .lit (.int .u8 0), .lit (.int .u8 0), .lit (.int .u8 0), .lit (.int .u8 0), .lit (.int .u8 0), .lit (.int .u8 0), .lit (.int .u8 0), .lit (.int .u8 0), .lit (.int .u8 0)]

/-- 'portreevelaw11.FsmTells': WHATEVER THE INPUT: true; the input reads as it did. -/
def fsmTellsSpec : ChangeSpec := { name := "fsmTells", fn := fun _ => fun
  | [d1, d2] => { results := [.lit (.bool true)], args := [d1, d2] }
  | _ => none }
def fsmTellsRow : OpenClaim := { program := "ytdjicabmofbidaadoor", sum := "8b19c0a33eeaab43e256b2ff07b730cd921ee8f1fc07bfe04587b80f12dde538", func := "portreeve/portreevelaw11.FsmTells", spec := "fsmTells", unfollowed := true, recurses := true, named := ["strings.asciiSpace", "unicode.White_Space"], apart := false, laid := [("unicode.White_Space", laid_unicode_White_Space), ("strings.asciiSpace", laid_strings_asciiSpace)] }
def FsmTellsSaid : Prop := fsmTellsRow.holds Tryd.pinned (OpenSpec.ofChange fsmTellsSpec)

/-- ITS FALSE NEIGHBOUR: 'it returns false'. Refute it at one input. -/
def fsmTellsWrong : ChangeSpec := { name := "fsmTells", fn := fun _ => fun
  | [d1, d2] => { results := [.lit (.bool false)], args := [d1, d2] }
  | _ => none }
def FsmTellsWrongFalsely : Prop := fsmTellsRow.holds Tryd.pinned (OpenSpec.ofChange fsmTellsWrong)

/-- 'portreevelaw11.FsmAll': WHATEVER THE INPUT: true; the input reads as it did. -/
def fsmAllSpec : ChangeSpec := { name := "fsmAll", fn := fun _ => fun
  | [d] => { results := [.lit (.bool true)], args := [d] }
  | _ => none }
def fsmAllRow : OpenClaim := { program := "ytdjicabmofbidaadoor", sum := "8b19c0a33eeaab43e256b2ff07b730cd921ee8f1fc07bfe04587b80f12dde538", func := "portreeve/portreevelaw11.FsmAll", spec := "fsmAll", unfollowed := true, recurses := true, named := ["strings.asciiSpace", "unicode.White_Space"], apart := false, laid := [("unicode.White_Space", laid_unicode_White_Space), ("strings.asciiSpace", laid_strings_asciiSpace)] }
def FsmAllSaid : Prop := fsmAllRow.holds Tryd.pinned (OpenSpec.ofChange fsmAllSpec)

/-- ITS FALSE NEIGHBOUR: 'it returns false'. Refute it at one input. -/
def fsmAllWrong : ChangeSpec := { name := "fsmAll", fn := fun _ => fun
  | [d] => { results := [.lit (.bool false)], args := [d] }
  | _ => none }
def FsmAllWrongFalsely : Prop := fsmAllRow.holds Tryd.pinned (OpenSpec.ofChange fsmAllWrong)

/-- 'portreevelaw11.FsmLayers': WHATEVER THE INPUT: true; the input reads as it did. -/
def fsmLayersSpec : ChangeSpec := { name := "fsmLayers", fn := fun _ => fun
  | [d1, d2] => { results := [.lit (.bool true)], args := [d1, d2] }
  | _ => none }
def fsmLayersRow : OpenClaim := { program := "ytdjicabmofbidaadoor", sum := "8b19c0a33eeaab43e256b2ff07b730cd921ee8f1fc07bfe04587b80f12dde538", func := "portreeve/portreevelaw11.FsmLayers", spec := "fsmLayers", unfollowed := true, recurses := true, named := ["strings.asciiSpace", "unicode.White_Space"], apart := false, laid := [("unicode.White_Space", laid_unicode_White_Space), ("strings.asciiSpace", laid_strings_asciiSpace)] }
def FsmLayersSaid : Prop := fsmLayersRow.holds Tryd.pinned (OpenSpec.ofChange fsmLayersSpec)

/-- ITS FALSE NEIGHBOUR: 'it returns false'. Refute it at one input. -/
def fsmLayersWrong : ChangeSpec := { name := "fsmLayers", fn := fun _ => fun
  | [d1, d2] => { results := [.lit (.bool false)], args := [d1, d2] }
  | _ => none }
def FsmLayersWrongFalsely : Prop := fsmLayersRow.holds Tryd.pinned (OpenSpec.ofChange fsmLayersWrong)

/-- 'portreevelaw11.FsmTimes': WHATEVER THE INPUT: true; the input reads as it did. -/
def fsmTimesSpec : ChangeSpec := { name := "fsmTimes", fn := fun _ => fun
  | [d1, d2] => { results := [.lit (.bool true)], args := [d1, d2] }
  | _ => none }
def fsmTimesRow : OpenClaim := { program := "ytdjicabmofbidaadoor", sum := "8b19c0a33eeaab43e256b2ff07b730cd921ee8f1fc07bfe04587b80f12dde538", func := "portreeve/portreevelaw11.FsmTimes", spec := "fsmTimes", unfollowed := true, recurses := true, named := ["strings.asciiSpace", "unicode.White_Space"], apart := false, laid := [("unicode.White_Space", laid_unicode_White_Space), ("strings.asciiSpace", laid_strings_asciiSpace)] }
def FsmTimesSaid : Prop := fsmTimesRow.holds Tryd.pinned (OpenSpec.ofChange fsmTimesSpec)

/-- ITS FALSE NEIGHBOUR: 'it returns false'. Refute it at one input. -/
def fsmTimesWrong : ChangeSpec := { name := "fsmTimes", fn := fun _ => fun
  | [d1, d2] => { results := [.lit (.bool false)], args := [d1, d2] }
  | _ => none }
def FsmTimesWrongFalsely : Prop := fsmTimesRow.holds Tryd.pinned (OpenSpec.ofChange fsmTimesWrong)

/-- 'portreevelaw11.FsmNames': WHATEVER THE INPUT: true; the input reads as it did. -/
def fsmNamesSpec : ChangeSpec := { name := "fsmNames", fn := fun _ => fun
  | [d1, d2] => { results := [.lit (.bool true)], args := [d1, d2] }
  | _ => none }
def fsmNamesRow : OpenClaim := { program := "ytdjicabmofbidaadoor", sum := "8b19c0a33eeaab43e256b2ff07b730cd921ee8f1fc07bfe04587b80f12dde538", func := "portreeve/portreevelaw11.FsmNames", spec := "fsmNames", unfollowed := true, recurses := true, named := ["strings.asciiSpace", "unicode.White_Space"], apart := false, laid := [("unicode.White_Space", laid_unicode_White_Space), ("strings.asciiSpace", laid_strings_asciiSpace)] }
def FsmNamesSaid : Prop := fsmNamesRow.holds Tryd.pinned (OpenSpec.ofChange fsmNamesSpec)

/-- ITS FALSE NEIGHBOUR: 'it returns false'. Refute it at one input. -/
def fsmNamesWrong : ChangeSpec := { name := "fsmNames", fn := fun _ => fun
  | [d1, d2] => { results := [.lit (.bool false)], args := [d1, d2] }
  | _ => none }
def FsmNamesWrongFalsely : Prop := fsmNamesRow.holds Tryd.pinned (OpenSpec.ofChange fsmNamesWrong)

/-- 'portreevelaw11.FsmClosed': WHATEVER THE INPUT: true; the input reads as it did. -/
def fsmClosedSpec : ChangeSpec := { name := "fsmClosed", fn := fun _ => fun
  | [d] => { results := [.lit (.bool true)], args := [d] }
  | _ => none }
def fsmClosedRow : OpenClaim := { program := "ytdjicabmofbidaadoor", sum := "8b19c0a33eeaab43e256b2ff07b730cd921ee8f1fc07bfe04587b80f12dde538", func := "portreeve/portreevelaw11.FsmClosed", spec := "fsmClosed", unfollowed := true, recurses := true, named := ["strings.asciiSpace", "unicode.White_Space"], apart := false, laid := [("unicode.White_Space", laid_unicode_White_Space), ("strings.asciiSpace", laid_strings_asciiSpace)] }
def FsmClosedSaid : Prop := fsmClosedRow.holds Tryd.pinned (OpenSpec.ofChange fsmClosedSpec)

/-- ITS FALSE NEIGHBOUR: 'it returns false'. Refute it at one input. -/
def fsmClosedWrong : ChangeSpec := { name := "fsmClosed", fn := fun _ => fun
  | [d] => { results := [.lit (.bool false)], args := [d] }
  | _ => none }
def FsmClosedWrongFalsely : Prop := fsmClosedRow.holds Tryd.pinned (OpenSpec.ofChange fsmClosedWrong)

/-- 'portreevelaw11.FsmAgrees': WHATEVER THE INPUT: true; the input reads as it did. -/
def fsmAgreesSpec : ChangeSpec := { name := "fsmAgrees", fn := fun _ => fun
  | [d1, d2] => { results := [.lit (.bool true)], args := [d1, d2] }
  | _ => none }
def fsmAgreesRow : OpenClaim := { program := "ytdjicabmofbidaadoor", sum := "8b19c0a33eeaab43e256b2ff07b730cd921ee8f1fc07bfe04587b80f12dde538", func := "portreeve/portreevelaw11.FsmAgrees", spec := "fsmAgrees", unfollowed := true, recurses := true, named := ["strings.asciiSpace", "unicode.White_Space"], apart := false, laid := [("unicode.White_Space", laid_unicode_White_Space), ("strings.asciiSpace", laid_strings_asciiSpace)] }
def FsmAgreesSaid : Prop := fsmAgreesRow.holds Tryd.pinned (OpenSpec.ofChange fsmAgreesSpec)

/-- ITS FALSE NEIGHBOUR: 'it returns false'. Refute it at one input. -/
def fsmAgreesWrong : ChangeSpec := { name := "fsmAgrees", fn := fun _ => fun
  | [d1, d2] => { results := [.lit (.bool false)], args := [d1, d2] }
  | _ => none }
def FsmAgreesWrongFalsely : Prop := fsmAgreesRow.holds Tryd.pinned (OpenSpec.ofChange fsmAgreesWrong)

/-- 'portreevelaw11.FsmBelow': WHATEVER THE INPUT: true; the input reads as it did. -/
def fsmBelowSpec : ChangeSpec := { name := "fsmBelow", fn := fun _ => fun
  | [d] => { results := [.lit (.bool true)], args := [d] }
  | _ => none }
def fsmBelowRow : OpenClaim := { program := "ytdjicabmofbidaadoor", sum := "8b19c0a33eeaab43e256b2ff07b730cd921ee8f1fc07bfe04587b80f12dde538", func := "portreeve/portreevelaw11.FsmBelow", spec := "fsmBelow", unfollowed := true, recurses := true, named := ["strings.asciiSpace", "unicode.White_Space"], apart := false, laid := [("unicode.White_Space", laid_unicode_White_Space), ("strings.asciiSpace", laid_strings_asciiSpace)] }
def FsmBelowSaid : Prop := fsmBelowRow.holds Tryd.pinned (OpenSpec.ofChange fsmBelowSpec)

/-- ITS FALSE NEIGHBOUR: 'it returns false'. Refute it at one input. -/
def fsmBelowWrong : ChangeSpec := { name := "fsmBelow", fn := fun _ => fun
  | [d] => { results := [.lit (.bool false)], args := [d] }
  | _ => none }
def FsmBelowWrongFalsely : Prop := fsmBelowRow.holds Tryd.pinned (OpenSpec.ofChange fsmBelowWrong)

/- THE SECOND FORM. 'bulk': how many values and letters a reading holds, each counted each time it is reached (what is shared counts as often as it is met; a slice's spare places count too). A statement '..UptoSaid' is the law's where the arguments, and the package variables that the reading takes, are together of bulk at most 1048576: NARROWER than '..Said'. Prove '..Said' where nothing that the law and all that it calls make is longer than what came in: it says more and counts as full. Else prove '..UptoSaid'. A law counts once. -/
mutual
def uptoBulk {H : Type} : DataW H → Nat
  | .lit (.string bytes) => bytes.length + 1
  | .lit _ => 1
  | .nil => 1
  | .ptr d => uptoBulk d + 1
  | .slice elems spare => uptoBulkAll elems + uptoBulkAll spare + 1
  | .agg parts => uptoBulkAll parts + 1
  | .iface _ d => uptoBulk d + 1
  | .map entries => uptoBulkEntries entries + 1
  | .held _ => 1
def uptoBulkAll {H : Type} : List (DataW H) → Nat
  | [] => 0
  | d :: r => uptoBulk d + uptoBulkAll r
def uptoBulkEntries {H : Type} : List (Lit × DataW H) → Nat
  | [] => 0
  | x :: r => uptoBulkEntry x + uptoBulkEntries r
def uptoBulkEntry {H : Type} : Lit × DataW H → Nat
  | (.string bytes, d) => bytes.length + uptoBulk d + 1
  | (_, d) => uptoBulk d + 1
 end
def uptoSmall : (H : Type) → List (DataW H) → Bool := fun _ ds => decide (uptoBulkAll ds ≤ 1048576)
def OpenSpec.upto (s : _root_.Go.ChangeSpec) : _root_.Go.OpenSpec := { _root_.Go.OpenSpec.ofChange s with cond := some uptoSmall }

/-- 'portreevelaw11.FsmTells', WHERE WHAT IT READS IS OF BULK AT MOST 1048576: true; the input reads as it did. -/
def fsmTellsUptoRow : OpenClaim := { program := "ytdjicabmofbidaadoor", sum := "8b19c0a33eeaab43e256b2ff07b730cd921ee8f1fc07bfe04587b80f12dde538", func := "portreeve/portreevelaw11.FsmTells", spec := "fsmTells", unfollowed := true, recurses := true, named := ["strings.asciiSpace", "unicode.White_Space"], apart := false, laid := [("unicode.White_Space", laid_unicode_White_Space), ("strings.asciiSpace", laid_strings_asciiSpace)], narrowed := true }
def FsmTellsUptoSaid : Prop := fsmTellsUptoRow.holds Tryd.pinned (OpenSpec.upto fsmTellsSpec)

/-- 'portreevelaw11.FsmAll', WHERE WHAT IT READS IS OF BULK AT MOST 1048576: true; the input reads as it did. -/
def fsmAllUptoRow : OpenClaim := { program := "ytdjicabmofbidaadoor", sum := "8b19c0a33eeaab43e256b2ff07b730cd921ee8f1fc07bfe04587b80f12dde538", func := "portreeve/portreevelaw11.FsmAll", spec := "fsmAll", unfollowed := true, recurses := true, named := ["strings.asciiSpace", "unicode.White_Space"], apart := false, laid := [("unicode.White_Space", laid_unicode_White_Space), ("strings.asciiSpace", laid_strings_asciiSpace)], narrowed := true }
def FsmAllUptoSaid : Prop := fsmAllUptoRow.holds Tryd.pinned (OpenSpec.upto fsmAllSpec)

/-- 'portreevelaw11.FsmLayers', WHERE WHAT IT READS IS OF BULK AT MOST 1048576: true; the input reads as it did. -/
def fsmLayersUptoRow : OpenClaim := { program := "ytdjicabmofbidaadoor", sum := "8b19c0a33eeaab43e256b2ff07b730cd921ee8f1fc07bfe04587b80f12dde538", func := "portreeve/portreevelaw11.FsmLayers", spec := "fsmLayers", unfollowed := true, recurses := true, named := ["strings.asciiSpace", "unicode.White_Space"], apart := false, laid := [("unicode.White_Space", laid_unicode_White_Space), ("strings.asciiSpace", laid_strings_asciiSpace)], narrowed := true }
def FsmLayersUptoSaid : Prop := fsmLayersUptoRow.holds Tryd.pinned (OpenSpec.upto fsmLayersSpec)

/-- 'portreevelaw11.FsmTimes', WHERE WHAT IT READS IS OF BULK AT MOST 1048576: true; the input reads as it did. -/
def fsmTimesUptoRow : OpenClaim := { program := "ytdjicabmofbidaadoor", sum := "8b19c0a33eeaab43e256b2ff07b730cd921ee8f1fc07bfe04587b80f12dde538", func := "portreeve/portreevelaw11.FsmTimes", spec := "fsmTimes", unfollowed := true, recurses := true, named := ["strings.asciiSpace", "unicode.White_Space"], apart := false, laid := [("unicode.White_Space", laid_unicode_White_Space), ("strings.asciiSpace", laid_strings_asciiSpace)], narrowed := true }
def FsmTimesUptoSaid : Prop := fsmTimesUptoRow.holds Tryd.pinned (OpenSpec.upto fsmTimesSpec)

/-- 'portreevelaw11.FsmNames', WHERE WHAT IT READS IS OF BULK AT MOST 1048576: true; the input reads as it did. -/
def fsmNamesUptoRow : OpenClaim := { program := "ytdjicabmofbidaadoor", sum := "8b19c0a33eeaab43e256b2ff07b730cd921ee8f1fc07bfe04587b80f12dde538", func := "portreeve/portreevelaw11.FsmNames", spec := "fsmNames", unfollowed := true, recurses := true, named := ["strings.asciiSpace", "unicode.White_Space"], apart := false, laid := [("unicode.White_Space", laid_unicode_White_Space), ("strings.asciiSpace", laid_strings_asciiSpace)], narrowed := true }
def FsmNamesUptoSaid : Prop := fsmNamesUptoRow.holds Tryd.pinned (OpenSpec.upto fsmNamesSpec)

/-- 'portreevelaw11.FsmClosed', WHERE WHAT IT READS IS OF BULK AT MOST 1048576: true; the input reads as it did. -/
def fsmClosedUptoRow : OpenClaim := { program := "ytdjicabmofbidaadoor", sum := "8b19c0a33eeaab43e256b2ff07b730cd921ee8f1fc07bfe04587b80f12dde538", func := "portreeve/portreevelaw11.FsmClosed", spec := "fsmClosed", unfollowed := true, recurses := true, named := ["strings.asciiSpace", "unicode.White_Space"], apart := false, laid := [("unicode.White_Space", laid_unicode_White_Space), ("strings.asciiSpace", laid_strings_asciiSpace)], narrowed := true }
def FsmClosedUptoSaid : Prop := fsmClosedUptoRow.holds Tryd.pinned (OpenSpec.upto fsmClosedSpec)

/-- 'portreevelaw11.FsmAgrees', WHERE WHAT IT READS IS OF BULK AT MOST 1048576: true; the input reads as it did. -/
def fsmAgreesUptoRow : OpenClaim := { program := "ytdjicabmofbidaadoor", sum := "8b19c0a33eeaab43e256b2ff07b730cd921ee8f1fc07bfe04587b80f12dde538", func := "portreeve/portreevelaw11.FsmAgrees", spec := "fsmAgrees", unfollowed := true, recurses := true, named := ["strings.asciiSpace", "unicode.White_Space"], apart := false, laid := [("unicode.White_Space", laid_unicode_White_Space), ("strings.asciiSpace", laid_strings_asciiSpace)], narrowed := true }
def FsmAgreesUptoSaid : Prop := fsmAgreesUptoRow.holds Tryd.pinned (OpenSpec.upto fsmAgreesSpec)

/-- 'portreevelaw11.FsmBelow', WHERE WHAT IT READS IS OF BULK AT MOST 1048576: true; the input reads as it did. -/
def fsmBelowUptoRow : OpenClaim := { program := "ytdjicabmofbidaadoor", sum := "8b19c0a33eeaab43e256b2ff07b730cd921ee8f1fc07bfe04587b80f12dde538", func := "portreeve/portreevelaw11.FsmBelow", spec := "fsmBelow", unfollowed := true, recurses := true, named := ["strings.asciiSpace", "unicode.White_Space"], apart := false, laid := [("unicode.White_Space", laid_unicode_White_Space), ("strings.asciiSpace", laid_strings_asciiSpace)], narrowed := true }
def FsmBelowUptoSaid : Prop := fsmBelowUptoRow.holds Tryd.pinned (OpenSpec.upto fsmBelowSpec)

end Rows
end Go.Proofs.YtdjicabmofbidaaDoor
