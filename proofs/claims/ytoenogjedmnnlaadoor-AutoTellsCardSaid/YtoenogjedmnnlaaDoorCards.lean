/-
  DERIVED. GIVEN WITH THE SEED: THE CARDS: each row of YtoenogjedmnnlaaDoorRows.lean that lists a variable, with what it lists TIED to the program's text (the seventh form; the later family's looks); each row that meets fmt, with fmt's text TOLD by the authors' own Lean function (tested against real Go, not proved from fmt's source: count such statements apart). THE CARD IS WHAT COUNTS. Prove the row's statement (the work); the ties are given (YtoenogjedmnnlaaDoorTie.lean); close each card by the builder's one call (the guide's Derived/Test/ToyasCard.lean, 'card_holds'). Laid BY PROGRAM, IN A SANDBOX (cutbox-door.mjs). By AI agents, Wed Nov 11 2026. No macro, syntax, notation, axiom, sorry.
-/
import Derived.Test.YtoenogjedmnnlaaDoorRows
import GoSem.ClaimSeven
namespace Go.Proofs.YtoenogjedmnnlaaDoor
namespace Rows

/-- THE TIED CARD OF 'portreevelaw12.AutoTells'. -/
def autoTellsCard : Claim7 := { stood := { row := autoTellsRow, standIns := [], harness := (true, "6c5ee2e24ac4cedf68fc0bad39b7d2335d9e43bd83bc5b3dfbc5dcea89242e27"), looks := false }, kinds := [], alts := [], laidByText := true, laidKinds := [.listed, .data], laidTests := true, laidLooks := .later }
def AutoTellsCardSaid : Prop := Claim7.holds Tryd.pinned (.plain (OpenSpec.ofChange autoTellsSpec)) autoTellsCard

/-- THE TIED CARD OF 'portreevelaw12.AutoRight'. -/
def autoRightCard : Claim7 := { stood := { row := autoRightRow, standIns := [], harness := (true, "6c5ee2e24ac4cedf68fc0bad39b7d2335d9e43bd83bc5b3dfbc5dcea89242e27"), looks := false }, kinds := [], alts := [], laidByText := true, laidKinds := [.listed, .data], laidTests := true, laidLooks := .later }
def AutoRightCardSaid : Prop := Claim7.holds Tryd.pinned (.plain (OpenSpec.ofChange autoRightSpec)) autoRightCard

/-- THE TIED CARD OF 'portreevelaw12.AutoEnds'. -/
def autoEndsCard : Claim7 := { stood := { row := autoEndsRow, standIns := [], harness := (true, "6c5ee2e24ac4cedf68fc0bad39b7d2335d9e43bd83bc5b3dfbc5dcea89242e27"), looks := false }, kinds := [], alts := [], laidByText := true, laidKinds := [.listed, .data], laidTests := true, laidLooks := .later }
def AutoEndsCardSaid : Prop := Claim7.holds Tryd.pinned (.plain (OpenSpec.ofChange autoEndsSpec)) autoEndsCard

/-- THE TIED CARD OF 'portreevelaw12.AutoIds'. -/
def autoIdsCard : Claim7 := { stood := { row := autoIdsRow, standIns := [], harness := (true, "6c5ee2e24ac4cedf68fc0bad39b7d2335d9e43bd83bc5b3dfbc5dcea89242e27"), looks := false }, kinds := [], alts := [], laidByText := true, laidKinds := [.listed, .data], laidTests := true, laidLooks := .later }
def AutoIdsCardSaid : Prop := Claim7.holds Tryd.pinned (.plain (OpenSpec.ofChange autoIdsSpec)) autoIdsCard

/-- THE TIED CARD OF 'portreevelaw12.AutoQuiet'. -/
def autoQuietCard : Claim7 := { stood := { row := autoQuietRow, standIns := [], harness := (true, "6c5ee2e24ac4cedf68fc0bad39b7d2335d9e43bd83bc5b3dfbc5dcea89242e27"), looks := false }, kinds := [], alts := [], laidByText := true, laidKinds := [.listed, .data], laidTests := true, laidLooks := .later }
def AutoQuietCardSaid : Prop := Claim7.holds Tryd.pinned (.plain (OpenSpec.ofChange autoQuietSpec)) autoQuietCard

/-- THE TIED CARD OF 'portreevelaw12.AutoSends'. -/
def autoSendsCard : Claim7 := { stood := { row := autoSendsRow, standIns := [], harness := (true, "6c5ee2e24ac4cedf68fc0bad39b7d2335d9e43bd83bc5b3dfbc5dcea89242e27"), looks := false }, kinds := [], alts := [], laidByText := true, laidKinds := [.listed, .data], laidTests := true, laidLooks := .later }
def AutoSendsCardSaid : Prop := Claim7.holds Tryd.pinned (.plain (OpenSpec.ofChange autoSendsSpec)) autoSendsCard

/-- THE SECOND FORM's CARD OF 'portreevelaw12.AutoTells'. -/
def autoTellsUptoCard : Claim7 := { stood := { row := autoTellsUptoRow, standIns := [], harness := (true, "6c5ee2e24ac4cedf68fc0bad39b7d2335d9e43bd83bc5b3dfbc5dcea89242e27"), looks := false }, kinds := [], alts := [], laidByText := true, laidKinds := [.listed, .data], laidTests := true, laidLooks := .later }
def AutoTellsUptoCardSaid : Prop := Claim7.holds Tryd.pinned (.plain (OpenSpec.upto autoTellsSpec)) autoTellsUptoCard

/-- THE SECOND FORM's CARD OF 'portreevelaw12.AutoRight'. -/
def autoRightUptoCard : Claim7 := { stood := { row := autoRightUptoRow, standIns := [], harness := (true, "6c5ee2e24ac4cedf68fc0bad39b7d2335d9e43bd83bc5b3dfbc5dcea89242e27"), looks := false }, kinds := [], alts := [], laidByText := true, laidKinds := [.listed, .data], laidTests := true, laidLooks := .later }
def AutoRightUptoCardSaid : Prop := Claim7.holds Tryd.pinned (.plain (OpenSpec.upto autoRightSpec)) autoRightUptoCard

/-- THE SECOND FORM's CARD OF 'portreevelaw12.AutoEnds'. -/
def autoEndsUptoCard : Claim7 := { stood := { row := autoEndsUptoRow, standIns := [], harness := (true, "6c5ee2e24ac4cedf68fc0bad39b7d2335d9e43bd83bc5b3dfbc5dcea89242e27"), looks := false }, kinds := [], alts := [], laidByText := true, laidKinds := [.listed, .data], laidTests := true, laidLooks := .later }
def AutoEndsUptoCardSaid : Prop := Claim7.holds Tryd.pinned (.plain (OpenSpec.upto autoEndsSpec)) autoEndsUptoCard

/-- THE SECOND FORM's CARD OF 'portreevelaw12.AutoIds'. -/
def autoIdsUptoCard : Claim7 := { stood := { row := autoIdsUptoRow, standIns := [], harness := (true, "6c5ee2e24ac4cedf68fc0bad39b7d2335d9e43bd83bc5b3dfbc5dcea89242e27"), looks := false }, kinds := [], alts := [], laidByText := true, laidKinds := [.listed, .data], laidTests := true, laidLooks := .later }
def AutoIdsUptoCardSaid : Prop := Claim7.holds Tryd.pinned (.plain (OpenSpec.upto autoIdsSpec)) autoIdsUptoCard

/-- THE SECOND FORM's CARD OF 'portreevelaw12.AutoQuiet'. -/
def autoQuietUptoCard : Claim7 := { stood := { row := autoQuietUptoRow, standIns := [], harness := (true, "6c5ee2e24ac4cedf68fc0bad39b7d2335d9e43bd83bc5b3dfbc5dcea89242e27"), looks := false }, kinds := [], alts := [], laidByText := true, laidKinds := [.listed, .data], laidTests := true, laidLooks := .later }
def AutoQuietUptoCardSaid : Prop := Claim7.holds Tryd.pinned (.plain (OpenSpec.upto autoQuietSpec)) autoQuietUptoCard

/-- THE SECOND FORM's CARD OF 'portreevelaw12.AutoSends'. -/
def autoSendsUptoCard : Claim7 := { stood := { row := autoSendsUptoRow, standIns := [], harness := (true, "6c5ee2e24ac4cedf68fc0bad39b7d2335d9e43bd83bc5b3dfbc5dcea89242e27"), looks := false }, kinds := [], alts := [], laidByText := true, laidKinds := [.listed, .data], laidTests := true, laidLooks := .later }
def AutoSendsUptoCardSaid : Prop := Claim7.holds Tryd.pinned (.plain (OpenSpec.upto autoSendsSpec)) autoSendsUptoCard
end Rows
end Go.Proofs.YtoenogjedmnnlaaDoor
