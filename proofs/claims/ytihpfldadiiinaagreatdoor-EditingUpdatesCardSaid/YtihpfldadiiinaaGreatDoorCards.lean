/-
  DERIVED. GIVEN WITH THE SEED: THE CARDS: each row of YtihpfldadiiinaaGreatDoorRows.lean that lists a variable, with what it lists TIED to the program's text (the seventh form; the later family's looks); each row that meets fmt, with fmt's text TOLD by the authors' own Lean function (tested against real Go, not proved from fmt's source: count such statements apart). THE CARD IS WHAT COUNTS. Prove the row's statement (the work); the ties are given (YtihpfldadiiinaaGreatDoorTie.lean); close each card by the builder's one call (the guide's Derived/Test/ToyasCard.lean, 'card_holds'). Laid BY PROGRAM, IN A SANDBOX (cutbox-door.mjs). By AI agents, Wed Nov 11 2026. No macro, syntax, notation, axiom, sorry.
-/
import Derived.Test.YtihpfldadiiinaaGreatDoorRows
import GoSem.ClaimSeven
namespace Go.Proofs.YtihpfldadiiinaaGreatDoor
namespace Rows

/-- THE TIED CARD OF 'luminairetop.TopEditsKeepLooks'. -/
def topEditsKeepLooksCard : Claim7 := { stood := { row := topEditsKeepLooksRow, standIns := [], harness := (true, "fa022059a2a26512e13e44f4e2fa1eb5979963552732f2393b4a870c13d0ecb3"), looks := true }, kinds := [], alts := [], laidByText := true, laidKinds := [.data, .data, .data, .sentinel, .sentinel], laidTests := true, laidLooks := .later }
def TopEditsKeepLooksCardSaid : Prop := Claim7.holds Tryz.pinned (.plain (OpenSpec.ofChange topEditsKeepLooksSpec)) topEditsKeepLooksCard

/-- THE TIED CARD OF 'luminairelaw19.EditingRecords'. -/
def editingRecordsCard : Claim7 := { stood := { row := editingRecordsRow, standIns := [], harness := (true, "fa022059a2a26512e13e44f4e2fa1eb5979963552732f2393b4a870c13d0ecb3"), looks := true }, kinds := [], alts := [], laidByText := true, laidKinds := [.data, .data, .data, .sentinel, .sentinel], laidTests := true, laidLooks := .later }
def EditingRecordsCardSaid : Prop := Claim7.holds Tryz.pinned (.plain (OpenSpec.ofChange editingRecordsSpec)) editingRecordsCard

/-- THE TIED CARD OF 'luminairelaw19.EditingDeletes'. -/
def editingDeletesCard : Claim7 := { stood := { row := editingDeletesRow, standIns := [], harness := (true, "fa022059a2a26512e13e44f4e2fa1eb5979963552732f2393b4a870c13d0ecb3"), looks := true }, kinds := [], alts := [], laidByText := true, laidKinds := [.data, .data, .data, .sentinel, .sentinel], laidTests := true, laidLooks := .later }
def EditingDeletesCardSaid : Prop := Claim7.holds Tryz.pinned (.plain (OpenSpec.ofChange editingDeletesSpec)) editingDeletesCard

/-- THE TIED CARD OF 'luminairelaw19.EditingTells'. -/
def editingTellsCard : Claim7 := { stood := { row := editingTellsRow, standIns := [], harness := (true, "fa022059a2a26512e13e44f4e2fa1eb5979963552732f2393b4a870c13d0ecb3"), looks := true }, kinds := [], alts := [], laidByText := true, laidKinds := [.data, .data, .data, .sentinel, .sentinel], laidTests := true, laidLooks := .later }
def EditingTellsCardSaid : Prop := Claim7.holds Tryz.pinned (.plain (OpenSpec.ofChange editingTellsSpec)) editingTellsCard

/-- THE TIED CARD OF 'luminairelaw19.EditingUpdates'. -/
def editingUpdatesCard : Claim7 := { stood := { row := editingUpdatesRow, standIns := [], harness := (true, "fa022059a2a26512e13e44f4e2fa1eb5979963552732f2393b4a870c13d0ecb3"), looks := true }, kinds := [], alts := [], laidByText := true, laidKinds := [.data, .data, .data, .sentinel, .sentinel], laidTests := true, laidLooks := .later }
def EditingUpdatesCardSaid : Prop := Claim7.holds Tryz.pinned (.plain (OpenSpec.ofChange editingUpdatesSpec)) editingUpdatesCard

/-- THE TIED CARD OF 'luminairelaw19.EditingOnly'. -/
def editingOnlyCard : Claim7 := { stood := { row := editingOnlyRow, standIns := [], harness := (true, "fa022059a2a26512e13e44f4e2fa1eb5979963552732f2393b4a870c13d0ecb3"), looks := true }, kinds := [], alts := [], laidByText := true, laidKinds := [.data, .data, .data, .sentinel, .sentinel], laidTests := true, laidLooks := .later }
def EditingOnlyCardSaid : Prop := Claim7.holds Tryz.pinned (.plain (OpenSpec.ofChange editingOnlySpec)) editingOnlyCard

/-- THE TIED CARD OF 'luminairelaw19.EditingKeeps'. -/
def editingKeepsCard : Claim7 := { stood := { row := editingKeepsRow, standIns := [], harness := (true, "fa022059a2a26512e13e44f4e2fa1eb5979963552732f2393b4a870c13d0ecb3"), looks := true }, kinds := [], alts := [], laidByText := true, laidKinds := [.data, .data, .data, .sentinel, .sentinel], laidTests := true, laidLooks := .later }
def EditingKeepsCardSaid : Prop := Claim7.holds Tryz.pinned (.plain (OpenSpec.ofChange editingKeepsSpec)) editingKeepsCard

/-- THE TIED CARD OF 'luminairelaw19.EditingSame'. -/
def editingSameCard : Claim7 := { stood := { row := editingSameRow, standIns := [], harness := (true, "fa022059a2a26512e13e44f4e2fa1eb5979963552732f2393b4a870c13d0ecb3"), looks := true }, kinds := [], alts := [], laidByText := true, laidKinds := [.data, .data, .data, .sentinel, .sentinel], laidTests := true, laidLooks := .later }
def EditingSameCardSaid : Prop := Claim7.holds Tryz.pinned (.plain (OpenSpec.ofChange editingSameSpec)) editingSameCard

/-- THE SECOND FORM's CARD OF 'luminairetop.TopEditsKeepLooks'. -/
def topEditsKeepLooksUptoCard : Claim7 := { stood := { row := topEditsKeepLooksUptoRow, standIns := [], harness := (true, "fa022059a2a26512e13e44f4e2fa1eb5979963552732f2393b4a870c13d0ecb3"), looks := true }, kinds := [], alts := [], laidByText := true, laidKinds := [.data, .data, .data, .sentinel, .sentinel], laidTests := true, laidLooks := .later }
def TopEditsKeepLooksUptoCardSaid : Prop := Claim7.holds Tryz.pinned (.plain (OpenSpec.upto topEditsKeepLooksSpec)) topEditsKeepLooksUptoCard

/-- THE SECOND FORM's CARD OF 'luminairelaw19.EditingRecords'. -/
def editingRecordsUptoCard : Claim7 := { stood := { row := editingRecordsUptoRow, standIns := [], harness := (true, "fa022059a2a26512e13e44f4e2fa1eb5979963552732f2393b4a870c13d0ecb3"), looks := true }, kinds := [], alts := [], laidByText := true, laidKinds := [.data, .data, .data, .sentinel, .sentinel], laidTests := true, laidLooks := .later }
def EditingRecordsUptoCardSaid : Prop := Claim7.holds Tryz.pinned (.plain (OpenSpec.upto editingRecordsSpec)) editingRecordsUptoCard

/-- THE SECOND FORM's CARD OF 'luminairelaw19.EditingDeletes'. -/
def editingDeletesUptoCard : Claim7 := { stood := { row := editingDeletesUptoRow, standIns := [], harness := (true, "fa022059a2a26512e13e44f4e2fa1eb5979963552732f2393b4a870c13d0ecb3"), looks := true }, kinds := [], alts := [], laidByText := true, laidKinds := [.data, .data, .data, .sentinel, .sentinel], laidTests := true, laidLooks := .later }
def EditingDeletesUptoCardSaid : Prop := Claim7.holds Tryz.pinned (.plain (OpenSpec.upto editingDeletesSpec)) editingDeletesUptoCard

/-- THE SECOND FORM's CARD OF 'luminairelaw19.EditingTells'. -/
def editingTellsUptoCard : Claim7 := { stood := { row := editingTellsUptoRow, standIns := [], harness := (true, "fa022059a2a26512e13e44f4e2fa1eb5979963552732f2393b4a870c13d0ecb3"), looks := true }, kinds := [], alts := [], laidByText := true, laidKinds := [.data, .data, .data, .sentinel, .sentinel], laidTests := true, laidLooks := .later }
def EditingTellsUptoCardSaid : Prop := Claim7.holds Tryz.pinned (.plain (OpenSpec.upto editingTellsSpec)) editingTellsUptoCard

/-- THE SECOND FORM's CARD OF 'luminairelaw19.EditingUpdates'. -/
def editingUpdatesUptoCard : Claim7 := { stood := { row := editingUpdatesUptoRow, standIns := [], harness := (true, "fa022059a2a26512e13e44f4e2fa1eb5979963552732f2393b4a870c13d0ecb3"), looks := true }, kinds := [], alts := [], laidByText := true, laidKinds := [.data, .data, .data, .sentinel, .sentinel], laidTests := true, laidLooks := .later }
def EditingUpdatesUptoCardSaid : Prop := Claim7.holds Tryz.pinned (.plain (OpenSpec.upto editingUpdatesSpec)) editingUpdatesUptoCard

/-- THE SECOND FORM's CARD OF 'luminairelaw19.EditingOnly'. -/
def editingOnlyUptoCard : Claim7 := { stood := { row := editingOnlyUptoRow, standIns := [], harness := (true, "fa022059a2a26512e13e44f4e2fa1eb5979963552732f2393b4a870c13d0ecb3"), looks := true }, kinds := [], alts := [], laidByText := true, laidKinds := [.data, .data, .data, .sentinel, .sentinel], laidTests := true, laidLooks := .later }
def EditingOnlyUptoCardSaid : Prop := Claim7.holds Tryz.pinned (.plain (OpenSpec.upto editingOnlySpec)) editingOnlyUptoCard

/-- THE SECOND FORM's CARD OF 'luminairelaw19.EditingKeeps'. -/
def editingKeepsUptoCard : Claim7 := { stood := { row := editingKeepsUptoRow, standIns := [], harness := (true, "fa022059a2a26512e13e44f4e2fa1eb5979963552732f2393b4a870c13d0ecb3"), looks := true }, kinds := [], alts := [], laidByText := true, laidKinds := [.data, .data, .data, .sentinel, .sentinel], laidTests := true, laidLooks := .later }
def EditingKeepsUptoCardSaid : Prop := Claim7.holds Tryz.pinned (.plain (OpenSpec.upto editingKeepsSpec)) editingKeepsUptoCard

/-- THE SECOND FORM's CARD OF 'luminairelaw19.EditingSame'. -/
def editingSameUptoCard : Claim7 := { stood := { row := editingSameUptoRow, standIns := [], harness := (true, "fa022059a2a26512e13e44f4e2fa1eb5979963552732f2393b4a870c13d0ecb3"), looks := true }, kinds := [], alts := [], laidByText := true, laidKinds := [.data, .data, .data, .sentinel, .sentinel], laidTests := true, laidLooks := .later }
def EditingSameUptoCardSaid : Prop := Claim7.holds Tryz.pinned (.plain (OpenSpec.upto editingSameSpec)) editingSameUptoCard
end Rows
end Go.Proofs.YtihpfldadiiinaaGreatDoor
