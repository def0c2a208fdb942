/-
  DERIVED. GIVEN WITH THE SEED: THE CARDS: each row of YthlobibofbddeaaGreatDoorRows.lean that lists a variable, with what it lists TIED to the program's text (the seventh form; the later family's looks); each row that meets fmt, with fmt's text TOLD by the authors' own Lean function (tested against real Go, not proved from fmt's source: count such statements apart). THE CARD IS WHAT COUNTS. Prove the row's statement (the work); the ties are given (YthlobibofbddeaaGreatDoorTie.lean); close each card by the builder's one call (the guide's Derived/Test/ToyasCard.lean, 'card_holds'). Laid BY PROGRAM, IN A SANDBOX (cutbox-door.mjs). By AI agents, Wed Nov 11 2026. No macro, syntax, notation, axiom, sorry.
-/
import Derived.Test.YthlobibofbddeaaGreatDoorRows
import GoSem.ClaimSeven
namespace Go.Proofs.YthlobibofbddeaaGreatDoor
namespace Rows

/-- THE TIED CARD OF 'luminairelaw20.MarkForesees'. -/
def markForeseesCard : Claim7 := { stood := { row := markForeseesRow, standIns := [], harness := (true, "49d4924bd56ecc732658af24fb5f05cc792a2dced393346ac80197f9ac9acf3a"), looks := true }, kinds := [], alts := [], laidByText := true, laidKinds := [.data, .data, .data, .sentinel, .sentinel], laidTests := true, laidLooks := .later }
def MarkForeseesCardSaid : Prop := Claim7.holds Tryz.pinned (.plain (OpenSpec.ofChange markForeseesSpec)) markForeseesCard

/-- THE TIED CARD OF 'luminairelaw20.MarkLooks'. -/
def markLooksCard : Claim7 := { stood := { row := markLooksRow, standIns := [], harness := (true, "49d4924bd56ecc732658af24fb5f05cc792a2dced393346ac80197f9ac9acf3a"), looks := true }, kinds := [], alts := [], laidByText := true, laidKinds := [.data, .data, .data, .sentinel, .sentinel], laidTests := true, laidLooks := .later }
def MarkLooksCardSaid : Prop := Claim7.holds Tryz.pinned (.plain (OpenSpec.ofChange markLooksSpec)) markLooksCard

/-- THE TIED CARD OF 'luminairelaw20.MarkSaves'. -/
def markSavesCard : Claim7 := { stood := { row := markSavesRow, standIns := [], harness := (true, "49d4924bd56ecc732658af24fb5f05cc792a2dced393346ac80197f9ac9acf3a"), looks := true }, kinds := [], alts := [], laidByText := true, laidKinds := [.data, .data, .data, .sentinel, .sentinel], laidTests := true, laidLooks := .later }
def MarkSavesCardSaid : Prop := Claim7.holds Tryz.pinned (.plain (OpenSpec.ofChange markSavesSpec)) markSavesCard

/-- THE TIED CARD OF 'luminairelaw20.MarkIgnores'. -/
def markIgnoresCard : Claim7 := { stood := { row := markIgnoresRow, standIns := [], harness := (true, "49d4924bd56ecc732658af24fb5f05cc792a2dced393346ac80197f9ac9acf3a"), looks := true }, kinds := [], alts := [], laidByText := true, laidKinds := [.data, .data, .data, .sentinel, .sentinel], laidTests := true, laidLooks := .later }
def MarkIgnoresCardSaid : Prop := Claim7.holds Tryz.pinned (.plain (OpenSpec.ofChange markIgnoresSpec)) markIgnoresCard

/-- THE TIED CARD OF 'luminairelaw20.MarkRests'. -/
def markRestsCard : Claim7 := { stood := { row := markRestsRow, standIns := [], harness := (true, "49d4924bd56ecc732658af24fb5f05cc792a2dced393346ac80197f9ac9acf3a"), looks := true }, kinds := [], alts := [], laidByText := true, laidKinds := [.data, .data, .data, .sentinel, .sentinel], laidTests := true, laidLooks := .later }
def MarkRestsCardSaid : Prop := Claim7.holds Tryz.pinned (.plain (OpenSpec.ofChange markRestsSpec)) markRestsCard

/-- THE TIED CARD OF 'luminairelaw22.FlowPaths'. -/
def flowPathsCard : Claim7 := { stood := { row := flowPathsRow, standIns := [], harness := (true, "49d4924bd56ecc732658af24fb5f05cc792a2dced393346ac80197f9ac9acf3a"), looks := true }, kinds := [], alts := [], laidByText := true, laidKinds := [.data, .data, .data, .sentinel, .sentinel], laidTests := true, laidLooks := .later }
def FlowPathsCardSaid : Prop := Claim7.holds Tryz.pinned (.plain (OpenSpec.ofChange flowPathsSpec)) flowPathsCard

/-- THE TIED CARD OF 'luminairelaw22.FlowReaches'. -/
def flowReachesCard : Claim7 := { stood := { row := flowReachesRow, standIns := [], harness := (true, "49d4924bd56ecc732658af24fb5f05cc792a2dced393346ac80197f9ac9acf3a"), looks := true }, kinds := [], alts := [], laidByText := true, laidKinds := [.data, .data, .data, .sentinel, .sentinel], laidTests := true, laidLooks := .later }
def FlowReachesCardSaid : Prop := Claim7.holds Tryz.pinned (.plain (OpenSpec.ofChange flowReachesSpec)) flowReachesCard

/-- THE TIED CARD OF 'luminairelaw22.FlowOrders'. -/
def flowOrdersCard : Claim7 := { stood := { row := flowOrdersRow, standIns := [], harness := (true, "49d4924bd56ecc732658af24fb5f05cc792a2dced393346ac80197f9ac9acf3a"), looks := true }, kinds := [], alts := [], laidByText := true, laidKinds := [.data, .data, .data, .sentinel, .sentinel], laidTests := true, laidLooks := .later }
def FlowOrdersCardSaid : Prop := Claim7.holds Tryz.pinned (.plain (OpenSpec.ofChange flowOrdersSpec)) flowOrdersCard

/-- THE TIED CARD OF 'luminairelaw22.FlowEnds'. -/
def flowEndsCard : Claim7 := { stood := { row := flowEndsRow, standIns := [], harness := (true, "49d4924bd56ecc732658af24fb5f05cc792a2dced393346ac80197f9ac9acf3a"), looks := true }, kinds := [], alts := [], laidByText := true, laidKinds := [.data, .data, .data, .sentinel, .sentinel], laidTests := true, laidLooks := .later }
def FlowEndsCardSaid : Prop := Claim7.holds Tryz.pinned (.plain (OpenSpec.ofChange flowEndsSpec)) flowEndsCard

/-- THE TIED CARD OF 'luminairelaw20.MarkDarkens'. -/
def markDarkensCard : Claim7 := { stood := { row := markDarkensRow, standIns := [], harness := (true, "49d4924bd56ecc732658af24fb5f05cc792a2dced393346ac80197f9ac9acf3a"), looks := true }, kinds := [], alts := [], laidByText := true, laidKinds := [.data, .data, .data, .sentinel, .sentinel], laidTests := true, laidLooks := .later }
def MarkDarkensCardSaid : Prop := Claim7.holds Tryz.pinned (.plain (OpenSpec.ofChange markDarkensSpec)) markDarkensCard

/-- THE TIED CARD OF 'luminairelaw22.FlowCounts'. -/
def flowCountsCard : Claim7 := { stood := { row := flowCountsRow, standIns := [], harness := (true, "49d4924bd56ecc732658af24fb5f05cc792a2dced393346ac80197f9ac9acf3a"), looks := true }, kinds := [], alts := [], laidByText := true, laidKinds := [.data, .data, .data, .sentinel, .sentinel], laidTests := true, laidLooks := .later }
def FlowCountsCardSaid : Prop := Claim7.holds Tryz.pinned (.plain (OpenSpec.ofChange flowCountsSpec)) flowCountsCard

/-- THE TIED CARD OF 'luminairelaw20.MarkHides'. -/
def markHidesCard : Claim7 := { stood := { row := markHidesRow, standIns := [], harness := (true, "49d4924bd56ecc732658af24fb5f05cc792a2dced393346ac80197f9ac9acf3a"), looks := true }, kinds := [], alts := [], laidByText := true, laidKinds := [.data, .data, .data, .sentinel, .sentinel], laidTests := true, laidLooks := .later }
def MarkHidesCardSaid : Prop := Claim7.holds Tryz.pinned (.plain (OpenSpec.ofChange markHidesSpec)) markHidesCard

/-- THE TIED CARD OF 'luminairelaw22.FlowNext'. -/
def flowNextCard : Claim7 := { stood := { row := flowNextRow, standIns := [], harness := (true, "49d4924bd56ecc732658af24fb5f05cc792a2dced393346ac80197f9ac9acf3a"), looks := true }, kinds := [], alts := [], laidByText := true, laidKinds := [.data, .data, .data, .sentinel, .sentinel], laidTests := true, laidLooks := .later }
def FlowNextCardSaid : Prop := Claim7.holds Tryz.pinned (.plain (OpenSpec.ofChange flowNextSpec)) flowNextCard

/-- THE TIED CARD OF 'luminairelaw22.FlowFollows'. -/
def flowFollowsCard : Claim7 := { stood := { row := flowFollowsRow, standIns := [], harness := (true, "49d4924bd56ecc732658af24fb5f05cc792a2dced393346ac80197f9ac9acf3a"), looks := true }, kinds := [], alts := [], laidByText := true, laidKinds := [.data, .data, .data, .sentinel, .sentinel], laidTests := true, laidLooks := .later }
def FlowFollowsCardSaid : Prop := Claim7.holds Tryz.pinned (.plain (OpenSpec.ofChange flowFollowsSpec)) flowFollowsCard

/-- THE SECOND FORM's CARD OF 'luminairelaw20.MarkForesees'. -/
def markForeseesUptoCard : Claim7 := { stood := { row := markForeseesUptoRow, standIns := [], harness := (true, "49d4924bd56ecc732658af24fb5f05cc792a2dced393346ac80197f9ac9acf3a"), looks := true }, kinds := [], alts := [], laidByText := true, laidKinds := [.data, .data, .data, .sentinel, .sentinel], laidTests := true, laidLooks := .later }
def MarkForeseesUptoCardSaid : Prop := Claim7.holds Tryz.pinned (.plain (OpenSpec.upto markForeseesSpec)) markForeseesUptoCard

/-- THE SECOND FORM's CARD OF 'luminairelaw20.MarkLooks'. -/
def markLooksUptoCard : Claim7 := { stood := { row := markLooksUptoRow, standIns := [], harness := (true, "49d4924bd56ecc732658af24fb5f05cc792a2dced393346ac80197f9ac9acf3a"), looks := true }, kinds := [], alts := [], laidByText := true, laidKinds := [.data, .data, .data, .sentinel, .sentinel], laidTests := true, laidLooks := .later }
def MarkLooksUptoCardSaid : Prop := Claim7.holds Tryz.pinned (.plain (OpenSpec.upto markLooksSpec)) markLooksUptoCard

/-- THE SECOND FORM's CARD OF 'luminairelaw20.MarkSaves'. -/
def markSavesUptoCard : Claim7 := { stood := { row := markSavesUptoRow, standIns := [], harness := (true, "49d4924bd56ecc732658af24fb5f05cc792a2dced393346ac80197f9ac9acf3a"), looks := true }, kinds := [], alts := [], laidByText := true, laidKinds := [.data, .data, .data, .sentinel, .sentinel], laidTests := true, laidLooks := .later }
def MarkSavesUptoCardSaid : Prop := Claim7.holds Tryz.pinned (.plain (OpenSpec.upto markSavesSpec)) markSavesUptoCard

/-- THE SECOND FORM's CARD OF 'luminairelaw20.MarkIgnores'. -/
def markIgnoresUptoCard : Claim7 := { stood := { row := markIgnoresUptoRow, standIns := [], harness := (true, "49d4924bd56ecc732658af24fb5f05cc792a2dced393346ac80197f9ac9acf3a"), looks := true }, kinds := [], alts := [], laidByText := true, laidKinds := [.data, .data, .data, .sentinel, .sentinel], laidTests := true, laidLooks := .later }
def MarkIgnoresUptoCardSaid : Prop := Claim7.holds Tryz.pinned (.plain (OpenSpec.upto markIgnoresSpec)) markIgnoresUptoCard

/-- THE SECOND FORM's CARD OF 'luminairelaw20.MarkRests'. -/
def markRestsUptoCard : Claim7 := { stood := { row := markRestsUptoRow, standIns := [], harness := (true, "49d4924bd56ecc732658af24fb5f05cc792a2dced393346ac80197f9ac9acf3a"), looks := true }, kinds := [], alts := [], laidByText := true, laidKinds := [.data, .data, .data, .sentinel, .sentinel], laidTests := true, laidLooks := .later }
def MarkRestsUptoCardSaid : Prop := Claim7.holds Tryz.pinned (.plain (OpenSpec.upto markRestsSpec)) markRestsUptoCard

/-- THE SECOND FORM's CARD OF 'luminairelaw22.FlowPaths'. -/
def flowPathsUptoCard : Claim7 := { stood := { row := flowPathsUptoRow, standIns := [], harness := (true, "49d4924bd56ecc732658af24fb5f05cc792a2dced393346ac80197f9ac9acf3a"), looks := true }, kinds := [], alts := [], laidByText := true, laidKinds := [.data, .data, .data, .sentinel, .sentinel], laidTests := true, laidLooks := .later }
def FlowPathsUptoCardSaid : Prop := Claim7.holds Tryz.pinned (.plain (OpenSpec.upto flowPathsSpec)) flowPathsUptoCard

/-- THE SECOND FORM's CARD OF 'luminairelaw22.FlowReaches'. -/
def flowReachesUptoCard : Claim7 := { stood := { row := flowReachesUptoRow, standIns := [], harness := (true, "49d4924bd56ecc732658af24fb5f05cc792a2dced393346ac80197f9ac9acf3a"), looks := true }, kinds := [], alts := [], laidByText := true, laidKinds := [.data, .data, .data, .sentinel, .sentinel], laidTests := true, laidLooks := .later }
def FlowReachesUptoCardSaid : Prop := Claim7.holds Tryz.pinned (.plain (OpenSpec.upto flowReachesSpec)) flowReachesUptoCard

/-- THE SECOND FORM's CARD OF 'luminairelaw22.FlowOrders'. -/
def flowOrdersUptoCard : Claim7 := { stood := { row := flowOrdersUptoRow, standIns := [], harness := (true, "49d4924bd56ecc732658af24fb5f05cc792a2dced393346ac80197f9ac9acf3a"), looks := true }, kinds := [], alts := [], laidByText := true, laidKinds := [.data, .data, .data, .sentinel, .sentinel], laidTests := true, laidLooks := .later }
def FlowOrdersUptoCardSaid : Prop := Claim7.holds Tryz.pinned (.plain (OpenSpec.upto flowOrdersSpec)) flowOrdersUptoCard

/-- THE SECOND FORM's CARD OF 'luminairelaw22.FlowEnds'. -/
def flowEndsUptoCard : Claim7 := { stood := { row := flowEndsUptoRow, standIns := [], harness := (true, "49d4924bd56ecc732658af24fb5f05cc792a2dced393346ac80197f9ac9acf3a"), looks := true }, kinds := [], alts := [], laidByText := true, laidKinds := [.data, .data, .data, .sentinel, .sentinel], laidTests := true, laidLooks := .later }
def FlowEndsUptoCardSaid : Prop := Claim7.holds Tryz.pinned (.plain (OpenSpec.upto flowEndsSpec)) flowEndsUptoCard

/-- THE SECOND FORM's CARD OF 'luminairelaw20.MarkDarkens'. -/
def markDarkensUptoCard : Claim7 := { stood := { row := markDarkensUptoRow, standIns := [], harness := (true, "49d4924bd56ecc732658af24fb5f05cc792a2dced393346ac80197f9ac9acf3a"), looks := true }, kinds := [], alts := [], laidByText := true, laidKinds := [.data, .data, .data, .sentinel, .sentinel], laidTests := true, laidLooks := .later }
def MarkDarkensUptoCardSaid : Prop := Claim7.holds Tryz.pinned (.plain (OpenSpec.upto markDarkensSpec)) markDarkensUptoCard

/-- THE SECOND FORM's CARD OF 'luminairelaw22.FlowCounts'. -/
def flowCountsUptoCard : Claim7 := { stood := { row := flowCountsUptoRow, standIns := [], harness := (true, "49d4924bd56ecc732658af24fb5f05cc792a2dced393346ac80197f9ac9acf3a"), looks := true }, kinds := [], alts := [], laidByText := true, laidKinds := [.data, .data, .data, .sentinel, .sentinel], laidTests := true, laidLooks := .later }
def FlowCountsUptoCardSaid : Prop := Claim7.holds Tryz.pinned (.plain (OpenSpec.upto flowCountsSpec)) flowCountsUptoCard

/-- THE SECOND FORM's CARD OF 'luminairelaw20.MarkHides'. -/
def markHidesUptoCard : Claim7 := { stood := { row := markHidesUptoRow, standIns := [], harness := (true, "49d4924bd56ecc732658af24fb5f05cc792a2dced393346ac80197f9ac9acf3a"), looks := true }, kinds := [], alts := [], laidByText := true, laidKinds := [.data, .data, .data, .sentinel, .sentinel], laidTests := true, laidLooks := .later }
def MarkHidesUptoCardSaid : Prop := Claim7.holds Tryz.pinned (.plain (OpenSpec.upto markHidesSpec)) markHidesUptoCard

/-- THE SECOND FORM's CARD OF 'luminairelaw22.FlowNext'. -/
def flowNextUptoCard : Claim7 := { stood := { row := flowNextUptoRow, standIns := [], harness := (true, "49d4924bd56ecc732658af24fb5f05cc792a2dced393346ac80197f9ac9acf3a"), looks := true }, kinds := [], alts := [], laidByText := true, laidKinds := [.data, .data, .data, .sentinel, .sentinel], laidTests := true, laidLooks := .later }
def FlowNextUptoCardSaid : Prop := Claim7.holds Tryz.pinned (.plain (OpenSpec.upto flowNextSpec)) flowNextUptoCard

/-- THE SECOND FORM's CARD OF 'luminairelaw22.FlowFollows'. -/
def flowFollowsUptoCard : Claim7 := { stood := { row := flowFollowsUptoRow, standIns := [], harness := (true, "49d4924bd56ecc732658af24fb5f05cc792a2dced393346ac80197f9ac9acf3a"), looks := true }, kinds := [], alts := [], laidByText := true, laidKinds := [.data, .data, .data, .sentinel, .sentinel], laidTests := true, laidLooks := .later }
def FlowFollowsUptoCardSaid : Prop := Claim7.holds Tryz.pinned (.plain (OpenSpec.upto flowFollowsSpec)) flowFollowsUptoCard
end Rows
end Go.Proofs.YthlobibofbddeaaGreatDoor
