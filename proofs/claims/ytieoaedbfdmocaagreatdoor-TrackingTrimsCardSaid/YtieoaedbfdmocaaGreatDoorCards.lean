/-
  DERIVED. GIVEN WITH THE SEED: THE CARDS: each row of YtieoaedbfdmocaaGreatDoorRows.lean that lists a variable, with what it lists TIED to the program's text (the seventh form; the later family's looks); each row that meets fmt, with fmt's text TOLD by the authors' own Lean function (tested against real Go, not proved from fmt's source: count such statements apart). THE CARD IS WHAT COUNTS. Prove the row's statement (the work); the ties are given (YtieoaedbfdmocaaGreatDoorTie.lean); close each card by the builder's one call (the guide's Derived/Test/ToyasCard.lean, 'card_holds'). Laid BY PROGRAM, IN A SANDBOX (cutbox-door.mjs). By AI agents, Wed Nov 11 2026. No macro, syntax, notation, axiom, sorry.
-/
import Derived.Test.YtieoaedbfdmocaaGreatDoorRows
import GoSem.ClaimSeven
namespace Go.Proofs.YtieoaedbfdmocaaGreatDoor
namespace Rows

/-- THE TIED CARD OF 'luminairelaw17.CuelistRenumbers'. -/
def cuelistRenumbersCard : Claim7 := { stood := { row := cuelistRenumbersRow, standIns := [], harness := (true, "115fa1d6fce9cae4417e5231bcf248aec8c56909d2bca92ce52577fdcad6f5a9"), looks := true }, kinds := [], alts := [], laidByText := true, laidKinds := [.data, .data, .data, .sentinel, .sentinel], laidTests := true, laidLooks := .later }
def CuelistRenumbersCardSaid : Prop := Claim7.holds Tryz.pinned (.plain (OpenSpec.ofChange cuelistRenumbersSpec)) cuelistRenumbersCard

/-- THE TIED CARD OF 'luminairelaw17.CuelistReturns'. -/
def cuelistReturnsCard : Claim7 := { stood := { row := cuelistReturnsRow, standIns := [], harness := (true, "115fa1d6fce9cae4417e5231bcf248aec8c56909d2bca92ce52577fdcad6f5a9"), looks := true }, kinds := [], alts := [], laidByText := true, laidKinds := [.data, .data, .data, .sentinel, .sentinel], laidTests := true, laidLooks := .later }
def CuelistReturnsCardSaid : Prop := Claim7.holds Tryz.pinned (.plain (OpenSpec.ofChange cuelistReturnsSpec)) cuelistReturnsCard

/-- THE TIED CARD OF 'luminairelaw17.CuelistFinds'. -/
def cuelistFindsCard : Claim7 := { stood := { row := cuelistFindsRow, standIns := [], harness := (true, "115fa1d6fce9cae4417e5231bcf248aec8c56909d2bca92ce52577fdcad6f5a9"), looks := true }, kinds := [], alts := [], laidByText := true, laidKinds := [.data, .data, .data, .sentinel, .sentinel], laidTests := true, laidLooks := .later }
def CuelistFindsCardSaid : Prop := Claim7.holds Tryz.pinned (.plain (OpenSpec.ofChange cuelistFindsSpec)) cuelistFindsCard

/-- THE TIED CARD OF 'luminairelaw17.CuelistWalks'. -/
def cuelistWalksCard : Claim7 := { stood := { row := cuelistWalksRow, standIns := [], harness := (true, "115fa1d6fce9cae4417e5231bcf248aec8c56909d2bca92ce52577fdcad6f5a9"), looks := true }, kinds := [], alts := [], laidByText := true, laidKinds := [.data, .data, .data, .sentinel, .sentinel], laidTests := true, laidLooks := .later }
def CuelistWalksCardSaid : Prop := Claim7.holds Tryz.pinned (.plain (OpenSpec.ofChange cuelistWalksSpec)) cuelistWalksCard

/-- THE TIED CARD OF 'luminairelaw17.CuelistChecks'. -/
def cuelistChecksCard : Claim7 := { stood := { row := cuelistChecksRow, standIns := [], harness := (true, "115fa1d6fce9cae4417e5231bcf248aec8c56909d2bca92ce52577fdcad6f5a9"), looks := true }, kinds := [], alts := [], laidByText := true, laidKinds := [.data, .data, .data, .sentinel, .sentinel], laidTests := true, laidLooks := .later }
def CuelistChecksCardSaid : Prop := Claim7.holds Tryz.pinned (.plain (OpenSpec.ofChange cuelistChecksSpec)) cuelistChecksCard

/-- THE TIED CARD OF 'luminairelaw18.TrackingOrigins'. -/
def trackingOriginsCard : Claim7 := { stood := { row := trackingOriginsRow, standIns := [], harness := (true, "115fa1d6fce9cae4417e5231bcf248aec8c56909d2bca92ce52577fdcad6f5a9"), looks := true }, kinds := [], alts := [], laidByText := true, laidKinds := [.data, .data, .data, .sentinel, .sentinel], laidTests := true, laidLooks := .later }
def TrackingOriginsCardSaid : Prop := Claim7.holds Tryz.pinned (.plain (OpenSpec.ofChange trackingOriginsSpec)) trackingOriginsCard

/-- THE TIED CARD OF 'luminairelaw18.TrackingChanges'. -/
def trackingChangesCard : Claim7 := { stood := { row := trackingChangesRow, standIns := [], harness := (true, "115fa1d6fce9cae4417e5231bcf248aec8c56909d2bca92ce52577fdcad6f5a9"), looks := true }, kinds := [], alts := [], laidByText := true, laidKinds := [.data, .data, .data, .sentinel, .sentinel], laidTests := true, laidLooks := .later }
def TrackingChangesCardSaid : Prop := Claim7.holds Tryz.pinned (.plain (OpenSpec.ofChange trackingChangesSpec)) trackingChangesCard

/-- THE TIED CARD OF 'luminairelaw18.TrackingLooks'. -/
def trackingLooksCard : Claim7 := { stood := { row := trackingLooksRow, standIns := [], harness := (true, "115fa1d6fce9cae4417e5231bcf248aec8c56909d2bca92ce52577fdcad6f5a9"), looks := true }, kinds := [], alts := [], laidByText := true, laidKinds := [.data, .data, .data, .sentinel, .sentinel], laidTests := true, laidLooks := .later }
def TrackingLooksCardSaid : Prop := Claim7.holds Tryz.pinned (.plain (OpenSpec.ofChange trackingLooksSpec)) trackingLooksCard

/-- THE TIED CARD OF 'luminairelaw17.CuelistPuts'. -/
def cuelistPutsCard : Claim7 := { stood := { row := cuelistPutsRow, standIns := [], harness := (true, "115fa1d6fce9cae4417e5231bcf248aec8c56909d2bca92ce52577fdcad6f5a9"), looks := true }, kinds := [], alts := [], laidByText := true, laidKinds := [.data, .data, .data, .sentinel, .sentinel], laidTests := true, laidLooks := .later }
def CuelistPutsCardSaid : Prop := Claim7.holds Tryz.pinned (.plain (OpenSpec.ofChange cuelistPutsSpec)) cuelistPutsCard

/-- THE TIED CARD OF 'luminairelaw17.CuelistHolds'. -/
def cuelistHoldsCard : Claim7 := { stood := { row := cuelistHoldsRow, standIns := [], harness := (true, "115fa1d6fce9cae4417e5231bcf248aec8c56909d2bca92ce52577fdcad6f5a9"), looks := true }, kinds := [], alts := [], laidByText := true, laidKinds := [.data, .data, .data, .sentinel, .sentinel], laidTests := true, laidLooks := .later }
def CuelistHoldsCardSaid : Prop := Claim7.holds Tryz.pinned (.plain (OpenSpec.ofChange cuelistHoldsSpec)) cuelistHoldsCard

/-- THE TIED CARD OF 'luminairelaw18.TrackingRuns'. -/
def trackingRunsCard : Claim7 := { stood := { row := trackingRunsRow, standIns := [], harness := (true, "115fa1d6fce9cae4417e5231bcf248aec8c56909d2bca92ce52577fdcad6f5a9"), looks := true }, kinds := [], alts := [], laidByText := true, laidKinds := [.data, .data, .data, .sentinel, .sentinel], laidTests := true, laidLooks := .later }
def TrackingRunsCardSaid : Prop := Claim7.holds Tryz.pinned (.plain (OpenSpec.ofChange trackingRunsSpec)) trackingRunsCard

/-- THE TIED CARD OF 'luminairelaw18.TrackingSteps'. -/
def trackingStepsCard : Claim7 := { stood := { row := trackingStepsRow, standIns := [], harness := (true, "115fa1d6fce9cae4417e5231bcf248aec8c56909d2bca92ce52577fdcad6f5a9"), looks := true }, kinds := [], alts := [], laidByText := true, laidKinds := [.data, .data, .data, .sentinel, .sentinel], laidTests := true, laidLooks := .later }
def TrackingStepsCardSaid : Prop := Claim7.holds Tryz.pinned (.plain (OpenSpec.ofChange trackingStepsSpec)) trackingStepsCard

/-- THE TIED CARD OF 'luminairelaw18.TrackingStarts'. -/
def trackingStartsCard : Claim7 := { stood := { row := trackingStartsRow, standIns := [], harness := (true, "115fa1d6fce9cae4417e5231bcf248aec8c56909d2bca92ce52577fdcad6f5a9"), looks := true }, kinds := [], alts := [], laidByText := true, laidKinds := [.data, .data, .data, .sentinel, .sentinel], laidTests := true, laidLooks := .later }
def TrackingStartsCardSaid : Prop := Claim7.holds Tryz.pinned (.plain (OpenSpec.ofChange trackingStartsSpec)) trackingStartsCard

/-- THE TIED CARD OF 'luminairelaw18.TrackingTrims'. -/
def trackingTrimsCard : Claim7 := { stood := { row := trackingTrimsRow, standIns := [], harness := (true, "115fa1d6fce9cae4417e5231bcf248aec8c56909d2bca92ce52577fdcad6f5a9"), looks := true }, kinds := [], alts := [], laidByText := true, laidKinds := [.data, .data, .data, .sentinel, .sentinel], laidTests := true, laidLooks := .later }
def TrackingTrimsCardSaid : Prop := Claim7.holds Tryz.pinned (.plain (OpenSpec.ofChange trackingTrimsSpec)) trackingTrimsCard

/-- THE SECOND FORM's CARD OF 'luminairelaw17.CuelistRenumbers'. -/
def cuelistRenumbersUptoCard : Claim7 := { stood := { row := cuelistRenumbersUptoRow, standIns := [], harness := (true, "115fa1d6fce9cae4417e5231bcf248aec8c56909d2bca92ce52577fdcad6f5a9"), looks := true }, kinds := [], alts := [], laidByText := true, laidKinds := [.data, .data, .data, .sentinel, .sentinel], laidTests := true, laidLooks := .later }
def CuelistRenumbersUptoCardSaid : Prop := Claim7.holds Tryz.pinned (.plain (OpenSpec.upto cuelistRenumbersSpec)) cuelistRenumbersUptoCard

/-- THE SECOND FORM's CARD OF 'luminairelaw17.CuelistReturns'. -/
def cuelistReturnsUptoCard : Claim7 := { stood := { row := cuelistReturnsUptoRow, standIns := [], harness := (true, "115fa1d6fce9cae4417e5231bcf248aec8c56909d2bca92ce52577fdcad6f5a9"), looks := true }, kinds := [], alts := [], laidByText := true, laidKinds := [.data, .data, .data, .sentinel, .sentinel], laidTests := true, laidLooks := .later }
def CuelistReturnsUptoCardSaid : Prop := Claim7.holds Tryz.pinned (.plain (OpenSpec.upto cuelistReturnsSpec)) cuelistReturnsUptoCard

/-- THE SECOND FORM's CARD OF 'luminairelaw17.CuelistFinds'. -/
def cuelistFindsUptoCard : Claim7 := { stood := { row := cuelistFindsUptoRow, standIns := [], harness := (true, "115fa1d6fce9cae4417e5231bcf248aec8c56909d2bca92ce52577fdcad6f5a9"), looks := true }, kinds := [], alts := [], laidByText := true, laidKinds := [.data, .data, .data, .sentinel, .sentinel], laidTests := true, laidLooks := .later }
def CuelistFindsUptoCardSaid : Prop := Claim7.holds Tryz.pinned (.plain (OpenSpec.upto cuelistFindsSpec)) cuelistFindsUptoCard

/-- THE SECOND FORM's CARD OF 'luminairelaw17.CuelistWalks'. -/
def cuelistWalksUptoCard : Claim7 := { stood := { row := cuelistWalksUptoRow, standIns := [], harness := (true, "115fa1d6fce9cae4417e5231bcf248aec8c56909d2bca92ce52577fdcad6f5a9"), looks := true }, kinds := [], alts := [], laidByText := true, laidKinds := [.data, .data, .data, .sentinel, .sentinel], laidTests := true, laidLooks := .later }
def CuelistWalksUptoCardSaid : Prop := Claim7.holds Tryz.pinned (.plain (OpenSpec.upto cuelistWalksSpec)) cuelistWalksUptoCard

/-- THE SECOND FORM's CARD OF 'luminairelaw17.CuelistChecks'. -/
def cuelistChecksUptoCard : Claim7 := { stood := { row := cuelistChecksUptoRow, standIns := [], harness := (true, "115fa1d6fce9cae4417e5231bcf248aec8c56909d2bca92ce52577fdcad6f5a9"), looks := true }, kinds := [], alts := [], laidByText := true, laidKinds := [.data, .data, .data, .sentinel, .sentinel], laidTests := true, laidLooks := .later }
def CuelistChecksUptoCardSaid : Prop := Claim7.holds Tryz.pinned (.plain (OpenSpec.upto cuelistChecksSpec)) cuelistChecksUptoCard

/-- THE SECOND FORM's CARD OF 'luminairelaw18.TrackingOrigins'. -/
def trackingOriginsUptoCard : Claim7 := { stood := { row := trackingOriginsUptoRow, standIns := [], harness := (true, "115fa1d6fce9cae4417e5231bcf248aec8c56909d2bca92ce52577fdcad6f5a9"), looks := true }, kinds := [], alts := [], laidByText := true, laidKinds := [.data, .data, .data, .sentinel, .sentinel], laidTests := true, laidLooks := .later }
def TrackingOriginsUptoCardSaid : Prop := Claim7.holds Tryz.pinned (.plain (OpenSpec.upto trackingOriginsSpec)) trackingOriginsUptoCard

/-- THE SECOND FORM's CARD OF 'luminairelaw18.TrackingChanges'. -/
def trackingChangesUptoCard : Claim7 := { stood := { row := trackingChangesUptoRow, standIns := [], harness := (true, "115fa1d6fce9cae4417e5231bcf248aec8c56909d2bca92ce52577fdcad6f5a9"), looks := true }, kinds := [], alts := [], laidByText := true, laidKinds := [.data, .data, .data, .sentinel, .sentinel], laidTests := true, laidLooks := .later }
def TrackingChangesUptoCardSaid : Prop := Claim7.holds Tryz.pinned (.plain (OpenSpec.upto trackingChangesSpec)) trackingChangesUptoCard

/-- THE SECOND FORM's CARD OF 'luminairelaw18.TrackingLooks'. -/
def trackingLooksUptoCard : Claim7 := { stood := { row := trackingLooksUptoRow, standIns := [], harness := (true, "115fa1d6fce9cae4417e5231bcf248aec8c56909d2bca92ce52577fdcad6f5a9"), looks := true }, kinds := [], alts := [], laidByText := true, laidKinds := [.data, .data, .data, .sentinel, .sentinel], laidTests := true, laidLooks := .later }
def TrackingLooksUptoCardSaid : Prop := Claim7.holds Tryz.pinned (.plain (OpenSpec.upto trackingLooksSpec)) trackingLooksUptoCard

/-- THE SECOND FORM's CARD OF 'luminairelaw17.CuelistPuts'. -/
def cuelistPutsUptoCard : Claim7 := { stood := { row := cuelistPutsUptoRow, standIns := [], harness := (true, "115fa1d6fce9cae4417e5231bcf248aec8c56909d2bca92ce52577fdcad6f5a9"), looks := true }, kinds := [], alts := [], laidByText := true, laidKinds := [.data, .data, .data, .sentinel, .sentinel], laidTests := true, laidLooks := .later }
def CuelistPutsUptoCardSaid : Prop := Claim7.holds Tryz.pinned (.plain (OpenSpec.upto cuelistPutsSpec)) cuelistPutsUptoCard

/-- THE SECOND FORM's CARD OF 'luminairelaw17.CuelistHolds'. -/
def cuelistHoldsUptoCard : Claim7 := { stood := { row := cuelistHoldsUptoRow, standIns := [], harness := (true, "115fa1d6fce9cae4417e5231bcf248aec8c56909d2bca92ce52577fdcad6f5a9"), looks := true }, kinds := [], alts := [], laidByText := true, laidKinds := [.data, .data, .data, .sentinel, .sentinel], laidTests := true, laidLooks := .later }
def CuelistHoldsUptoCardSaid : Prop := Claim7.holds Tryz.pinned (.plain (OpenSpec.upto cuelistHoldsSpec)) cuelistHoldsUptoCard

/-- THE SECOND FORM's CARD OF 'luminairelaw18.TrackingRuns'. -/
def trackingRunsUptoCard : Claim7 := { stood := { row := trackingRunsUptoRow, standIns := [], harness := (true, "115fa1d6fce9cae4417e5231bcf248aec8c56909d2bca92ce52577fdcad6f5a9"), looks := true }, kinds := [], alts := [], laidByText := true, laidKinds := [.data, .data, .data, .sentinel, .sentinel], laidTests := true, laidLooks := .later }
def TrackingRunsUptoCardSaid : Prop := Claim7.holds Tryz.pinned (.plain (OpenSpec.upto trackingRunsSpec)) trackingRunsUptoCard

/-- THE SECOND FORM's CARD OF 'luminairelaw18.TrackingSteps'. -/
def trackingStepsUptoCard : Claim7 := { stood := { row := trackingStepsUptoRow, standIns := [], harness := (true, "115fa1d6fce9cae4417e5231bcf248aec8c56909d2bca92ce52577fdcad6f5a9"), looks := true }, kinds := [], alts := [], laidByText := true, laidKinds := [.data, .data, .data, .sentinel, .sentinel], laidTests := true, laidLooks := .later }
def TrackingStepsUptoCardSaid : Prop := Claim7.holds Tryz.pinned (.plain (OpenSpec.upto trackingStepsSpec)) trackingStepsUptoCard

/-- THE SECOND FORM's CARD OF 'luminairelaw18.TrackingStarts'. -/
def trackingStartsUptoCard : Claim7 := { stood := { row := trackingStartsUptoRow, standIns := [], harness := (true, "115fa1d6fce9cae4417e5231bcf248aec8c56909d2bca92ce52577fdcad6f5a9"), looks := true }, kinds := [], alts := [], laidByText := true, laidKinds := [.data, .data, .data, .sentinel, .sentinel], laidTests := true, laidLooks := .later }
def TrackingStartsUptoCardSaid : Prop := Claim7.holds Tryz.pinned (.plain (OpenSpec.upto trackingStartsSpec)) trackingStartsUptoCard

/-- THE SECOND FORM's CARD OF 'luminairelaw18.TrackingTrims'. -/
def trackingTrimsUptoCard : Claim7 := { stood := { row := trackingTrimsUptoRow, standIns := [], harness := (true, "115fa1d6fce9cae4417e5231bcf248aec8c56909d2bca92ce52577fdcad6f5a9"), looks := true }, kinds := [], alts := [], laidByText := true, laidKinds := [.data, .data, .data, .sentinel, .sentinel], laidTests := true, laidLooks := .later }
def TrackingTrimsUptoCardSaid : Prop := Claim7.holds Tryz.pinned (.plain (OpenSpec.upto trackingTrimsSpec)) trackingTrimsUptoCard
end Rows
end Go.Proofs.YtieoaedbfdmocaaGreatDoor
