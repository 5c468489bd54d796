/-
  DERIVED. GIVEN WITH THE SEED: THE CARDS: each row of YtdjicabmofbidaaDoorRows.lean that lists a variable, with what it lists TIED to the program's text (the seventh form; the later family's looks); each row that meets fmt, with fmt's text TOLD by the authors' own Lean function (tested against real Go, not proved from fmt's source: count such statements apart). THE CARD IS WHAT COUNTS. Prove the row's statement (the work); the ties are given (YtdjicabmofbidaaDoorTie.lean); close each card by the builder's one call (the guide's Derived/Test/ToyasCard.lean, 'card_holds'). Laid BY PROGRAM, IN A SANDBOX (cutbox-door.mjs). By AI agents, Wed Nov 11 2026. No macro, syntax, notation, axiom, sorry.
-/
import Derived.Test.YtdjicabmofbidaaDoorRows
import GoSem.ClaimSeven
namespace Go.Proofs.YtdjicabmofbidaaDoor
namespace Rows

/-- THE TIED CARD OF 'portreevelaw11.FsmTells'. -/
def fsmTellsCard : Claim7 := { stood := { row := fsmTellsRow, standIns := [], harness := (true, "1216ed1a6ba551d6c523523f99d7d41253f2fa0fafb4bcce425b6d1003ee5cc0"), looks := false }, kinds := [], alts := [], laidByText := true, laidKinds := [.listed, .data], laidTests := true, laidLooks := .later }
def FsmTellsCardSaid : Prop := Claim7.holds Tryd.pinned (.plain (OpenSpec.ofChange fsmTellsSpec)) fsmTellsCard

/-- THE TIED CARD OF 'portreevelaw11.FsmAll'. -/
def fsmAllCard : Claim7 := { stood := { row := fsmAllRow, standIns := [], harness := (true, "1216ed1a6ba551d6c523523f99d7d41253f2fa0fafb4bcce425b6d1003ee5cc0"), looks := false }, kinds := [], alts := [], laidByText := true, laidKinds := [.listed, .data], laidTests := true, laidLooks := .later }
def FsmAllCardSaid : Prop := Claim7.holds Tryd.pinned (.plain (OpenSpec.ofChange fsmAllSpec)) fsmAllCard

/-- THE TIED CARD OF 'portreevelaw11.FsmLayers'. -/
def fsmLayersCard : Claim7 := { stood := { row := fsmLayersRow, standIns := [], harness := (true, "1216ed1a6ba551d6c523523f99d7d41253f2fa0fafb4bcce425b6d1003ee5cc0"), looks := false }, kinds := [], alts := [], laidByText := true, laidKinds := [.listed, .data], laidTests := true, laidLooks := .later }
def FsmLayersCardSaid : Prop := Claim7.holds Tryd.pinned (.plain (OpenSpec.ofChange fsmLayersSpec)) fsmLayersCard

/-- THE TIED CARD OF 'portreevelaw11.FsmTimes'. -/
def fsmTimesCard : Claim7 := { stood := { row := fsmTimesRow, standIns := [], harness := (true, "1216ed1a6ba551d6c523523f99d7d41253f2fa0fafb4bcce425b6d1003ee5cc0"), looks := false }, kinds := [], alts := [], laidByText := true, laidKinds := [.listed, .data], laidTests := true, laidLooks := .later }
def FsmTimesCardSaid : Prop := Claim7.holds Tryd.pinned (.plain (OpenSpec.ofChange fsmTimesSpec)) fsmTimesCard

/-- THE TIED CARD OF 'portreevelaw11.FsmNames'. -/
def fsmNamesCard : Claim7 := { stood := { row := fsmNamesRow, standIns := [], harness := (true, "1216ed1a6ba551d6c523523f99d7d41253f2fa0fafb4bcce425b6d1003ee5cc0"), looks := false }, kinds := [], alts := [], laidByText := true, laidKinds := [.listed, .data], laidTests := true, laidLooks := .later }
def FsmNamesCardSaid : Prop := Claim7.holds Tryd.pinned (.plain (OpenSpec.ofChange fsmNamesSpec)) fsmNamesCard

/-- THE TIED CARD OF 'portreevelaw11.FsmClosed'. -/
def fsmClosedCard : Claim7 := { stood := { row := fsmClosedRow, standIns := [], harness := (true, "1216ed1a6ba551d6c523523f99d7d41253f2fa0fafb4bcce425b6d1003ee5cc0"), looks := false }, kinds := [], alts := [], laidByText := true, laidKinds := [.listed, .data], laidTests := true, laidLooks := .later }
def FsmClosedCardSaid : Prop := Claim7.holds Tryd.pinned (.plain (OpenSpec.ofChange fsmClosedSpec)) fsmClosedCard

/-- THE TIED CARD OF 'portreevelaw11.FsmAgrees'. -/
def fsmAgreesCard : Claim7 := { stood := { row := fsmAgreesRow, standIns := [], harness := (true, "1216ed1a6ba551d6c523523f99d7d41253f2fa0fafb4bcce425b6d1003ee5cc0"), looks := false }, kinds := [], alts := [], laidByText := true, laidKinds := [.listed, .data], laidTests := true, laidLooks := .later }
def FsmAgreesCardSaid : Prop := Claim7.holds Tryd.pinned (.plain (OpenSpec.ofChange fsmAgreesSpec)) fsmAgreesCard

/-- THE TIED CARD OF 'portreevelaw11.FsmBelow'. -/
def fsmBelowCard : Claim7 := { stood := { row := fsmBelowRow, standIns := [], harness := (true, "1216ed1a6ba551d6c523523f99d7d41253f2fa0fafb4bcce425b6d1003ee5cc0"), looks := false }, kinds := [], alts := [], laidByText := true, laidKinds := [.listed, .data], laidTests := true, laidLooks := .later }
def FsmBelowCardSaid : Prop := Claim7.holds Tryd.pinned (.plain (OpenSpec.ofChange fsmBelowSpec)) fsmBelowCard

/-- THE SECOND FORM's CARD OF 'portreevelaw11.FsmTells'. -/
def fsmTellsUptoCard : Claim7 := { stood := { row := fsmTellsUptoRow, standIns := [], harness := (true, "1216ed1a6ba551d6c523523f99d7d41253f2fa0fafb4bcce425b6d1003ee5cc0"), looks := false }, kinds := [], alts := [], laidByText := true, laidKinds := [.listed, .data], laidTests := true, laidLooks := .later }
def FsmTellsUptoCardSaid : Prop := Claim7.holds Tryd.pinned (.plain (OpenSpec.upto fsmTellsSpec)) fsmTellsUptoCard

/-- THE SECOND FORM's CARD OF 'portreevelaw11.FsmAll'. -/
def fsmAllUptoCard : Claim7 := { stood := { row := fsmAllUptoRow, standIns := [], harness := (true, "1216ed1a6ba551d6c523523f99d7d41253f2fa0fafb4bcce425b6d1003ee5cc0"), looks := false }, kinds := [], alts := [], laidByText := true, laidKinds := [.listed, .data], laidTests := true, laidLooks := .later }
def FsmAllUptoCardSaid : Prop := Claim7.holds Tryd.pinned (.plain (OpenSpec.upto fsmAllSpec)) fsmAllUptoCard

/-- THE SECOND FORM's CARD OF 'portreevelaw11.FsmLayers'. -/
def fsmLayersUptoCard : Claim7 := { stood := { row := fsmLayersUptoRow, standIns := [], harness := (true, "1216ed1a6ba551d6c523523f99d7d41253f2fa0fafb4bcce425b6d1003ee5cc0"), looks := false }, kinds := [], alts := [], laidByText := true, laidKinds := [.listed, .data], laidTests := true, laidLooks := .later }
def FsmLayersUptoCardSaid : Prop := Claim7.holds Tryd.pinned (.plain (OpenSpec.upto fsmLayersSpec)) fsmLayersUptoCard

/-- THE SECOND FORM's CARD OF 'portreevelaw11.FsmTimes'. -/
def fsmTimesUptoCard : Claim7 := { stood := { row := fsmTimesUptoRow, standIns := [], harness := (true, "1216ed1a6ba551d6c523523f99d7d41253f2fa0fafb4bcce425b6d1003ee5cc0"), looks := false }, kinds := [], alts := [], laidByText := true, laidKinds := [.listed, .data], laidTests := true, laidLooks := .later }
def FsmTimesUptoCardSaid : Prop := Claim7.holds Tryd.pinned (.plain (OpenSpec.upto fsmTimesSpec)) fsmTimesUptoCard

/-- THE SECOND FORM's CARD OF 'portreevelaw11.FsmNames'. -/
def fsmNamesUptoCard : Claim7 := { stood := { row := fsmNamesUptoRow, standIns := [], harness := (true, "1216ed1a6ba551d6c523523f99d7d41253f2fa0fafb4bcce425b6d1003ee5cc0"), looks := false }, kinds := [], alts := [], laidByText := true, laidKinds := [.listed, .data], laidTests := true, laidLooks := .later }
def FsmNamesUptoCardSaid : Prop := Claim7.holds Tryd.pinned (.plain (OpenSpec.upto fsmNamesSpec)) fsmNamesUptoCard

/-- THE SECOND FORM's CARD OF 'portreevelaw11.FsmClosed'. -/
def fsmClosedUptoCard : Claim7 := { stood := { row := fsmClosedUptoRow, standIns := [], harness := (true, "1216ed1a6ba551d6c523523f99d7d41253f2fa0fafb4bcce425b6d1003ee5cc0"), looks := false }, kinds := [], alts := [], laidByText := true, laidKinds := [.listed, .data], laidTests := true, laidLooks := .later }
def FsmClosedUptoCardSaid : Prop := Claim7.holds Tryd.pinned (.plain (OpenSpec.upto fsmClosedSpec)) fsmClosedUptoCard

/-- THE SECOND FORM's CARD OF 'portreevelaw11.FsmAgrees'. -/
def fsmAgreesUptoCard : Claim7 := { stood := { row := fsmAgreesUptoRow, standIns := [], harness := (true, "1216ed1a6ba551d6c523523f99d7d41253f2fa0fafb4bcce425b6d1003ee5cc0"), looks := false }, kinds := [], alts := [], laidByText := true, laidKinds := [.listed, .data], laidTests := true, laidLooks := .later }
def FsmAgreesUptoCardSaid : Prop := Claim7.holds Tryd.pinned (.plain (OpenSpec.upto fsmAgreesSpec)) fsmAgreesUptoCard

/-- THE SECOND FORM's CARD OF 'portreevelaw11.FsmBelow'. -/
def fsmBelowUptoCard : Claim7 := { stood := { row := fsmBelowUptoRow, standIns := [], harness := (true, "1216ed1a6ba551d6c523523f99d7d41253f2fa0fafb4bcce425b6d1003ee5cc0"), looks := false }, kinds := [], alts := [], laidByText := true, laidKinds := [.listed, .data], laidTests := true, laidLooks := .later }
def FsmBelowUptoCardSaid : Prop := Claim7.holds Tryd.pinned (.plain (OpenSpec.upto fsmBelowSpec)) fsmBelowUptoCard
end Rows
end Go.Proofs.YtdjicabmofbidaaDoor
