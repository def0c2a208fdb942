/-
 EditingUpdates: for every input the law returns true and each argument reads behind the call as it read before; conditions: none beside the row's own cells (the listed package variables as the program's text lays them).
-/
import Derived.Test.YtihpfldadiiinaaGreatDoorGAj
import Derived.Test.YtihpfldadiiinaaGreatDoorCards
import Derived.Test.YtihpfldadiiinaaGreatDoorTie
import Derived.LaidMore
import Derived.SevenTiedAt
import Derived.JoinedOf
import Derived.ProofKit
import Derived.OpenShut
import Derived.Stop.Joined
set_option linter.unusedSimpArgs false
set_option linter.unusedVariables false
set_option linter.unusedSectionVars false
set_option linter.defProp false
set_option maxRecDepth 100000
set_option maxRecDepth 100000
namespace Go.Proofs.YtihpfldadiiinaaGreatDoor
open Go Go.Sx Go.Sx.La Go.RowKit
theorem own : ownKnob Tryz.prog.godebug = none := by kernel_rfl
theorem laidOut : laidOutB Tryz.prog = true := by kernel_rfl
theorem and_t {a b : Bool} (ha : a = true) (hb : b = true) : (a && b) = true := by rw [ha, hb]; rfl
theorem looks_t : true = Tryz.prog.looks [] := by kernel_rfl
theorem main_t : Tryz.pinned.checked.prog.mainIs = some (true, "fa022059a2a26512e13e44f4e2fa1eb5979963552732f2393b4a870c13d0ecb3".toList) := by kernel_rfl
def laid5 : List (String × DataW Unit) := Rows.editingRecordsRow.laid
theorem door_met (os : Os) (args : Array Value) : laidMetH Tryz.prog laid5 ((World.doorLaid Tryz.prog 400 os).forCall (fun _ _ => 0) ⟨#[], args, []⟩).memory :=
 laidMetH_of_parts3 (fuel := 8) (laidMet_of_run' 8 (by kernel_rfl) (by kernel_rfl)) (by kernel_rfl) (by kernel_rfl)
end Go.Proofs.YtihpfldadiiinaaGreatDoor
set_option maxRecDepth 100000
set_option maxHeartbeats 40000000
namespace Go.Proofs.YtihpfldadiiinaaGreatDoor
open Go Go.Sx Go.Sx.La Go.RowKit
theorem facts7 : joinedFacts Tryz.prog 7 Tryz.f7 Rows.editingUpdatesSpec Rows.editingUpdatesRow = true := by
 unfold joinedFacts
 refine and_t (and_t (and_t (and_t (and_t (and_t (and_t (and_t (and_t (and_t (and_t (and_t (and_t (and_t (and_t (and_t (and_t (and_t (and_t (and_t (and_t (and_t (and_t (and_t (and_t (and_t (and_t (and_t (and_t (and_t (and_t ?_ ?_) ?_) ?_) ?_) ?_) ?_) ?_) ?_) ?_) ?_) ?_) ?_) ?_) ?_) ?_) ?_) ?_) ?_) ?_) ?_) ?_) ?_) ?_) ?_) ?_) ?_) ?_) ?_) ?_) ?_) ?_
 all_goals (as_aux_lemma => kernel_rfl)
theorem goes7 : false = Rows.editingUpdatesRow.goesBy Tryz.prog := by kernel_rfl
theorem wf7 : Rows.editingUpdatesRow.wfByText (OpenSpec.ofChange Rows.editingUpdatesSpec) = true := by kernel_rfl
theorem name7 : Tryz.prog.funcNamed "luminaire/luminairelaw19.EditingUpdates" = some 7 := by kernel_rfl
theorem stand7 : (Tryz.f7.params.toList.all fun u => !Tryz.prog.wantsStandIn u) = true := by kernel_rfl
theorem inst7 : Tryz.f7.isInstance Tryz.prog Rows.editingUpdatesRow.origin Rows.editingUpdatesRow.targs := of_decide_eq_true (by kernel_rfl)
theorem wrap7 : Tryz.f7.isWrapper Tryz.prog Rows.editingUpdatesRow.wrapper Rows.editingUpdatesRow.mainSum := by unfold Func.isWrapper; first | (rw [if_pos (by decide +kernel)]; kernel_rfl) | (rw [if_neg (by decide +kernel)]; exact ⟨rfl, rfl⟩)
theorem lifted7 (os : Os) (started : os.Started) (H : Type) (enc : TypeId × Value → H) :
   ReturnsInHanded {} Tryz.checked os 7 .any (fun w args => (Rows.editingUpdatesSpec.pre enc Tryz.prog Tryz.f7 [] false w args ∧ laidMetH Tryz.prog laid5 w) ∧ sizedMet enc Tryz.prog Tryz.f7 (OpenSpec.ofChange Rows.editingUpdatesSpec) false w args)
     (Rows.editingUpdatesSpec.post enc Tryz.prog Tryz.f7 false true false false) :=
 law_returns (C := Tryz.checked) (X := fun w _ => laidMetH Tryz.prog laid5 w) (t := 4) (fun _ _ _ hh h => h.of_heap hh) own started (by as_aux_lemma => kernel_rfl) Tryz.func7
   (ChangeSpec.witness_shaped (enc := enc) (C := Tryz.checked) (os := os) (X := fun w _ => laidMetH Tryz.prog laid5 w) false (World.doorLaid Tryz.prog 400 os) #[.agg #[.int .i64 0, .int .i64 0, .slice none 0 0], .agg #[.string ⟨#[]⟩, .slice none 0 0, .int .i64 0, .bool false], .agg #[.int .i64 0, .int .i64 0, .int .i64 0, .int .i64 0, .int .i64 0, .int .i64 0]] 8 rfl (World.shaped_of_RefB (by as_aux_lemma => kernel_rfl) (by as_aux_lemma => kernel_rfl)) (by as_aux_lemma => kernel_rfl) (by as_aux_lemma => kernel_rfl) (by as_aux_lemma => kernel_rfl) (door_met os _))
   rfl (fun ds h => by
     match ds, h with
     | [a, b, c], _ => exact ⟨rfl, rfl, rfl⟩) laidOut (by as_aux_lemma => kernel_rfl) (by as_aux_lemma => kernel_rfl) (by as_aux_lemma => kernel_rfl) law7
theorem holds7 : Rows.EditingUpdatesSaid :=
 OpenClaim.holds_of_wide 7 Tryz.f7 rfl rfl rfl rfl rfl rfl rfl ⟨rfl, rfl, rfl, rfl, rfl⟩ rfl rfl rfl rfl rfl name7 Tryz.func7 facts7 inst7 wrap7
   (fun os started H enc _ => lifted7 os started H enc)
theorem card7 : Rows.EditingUpdatesCardSaid :=
 Claim7.holds_tied_plain_at .later [] [.data, .data, .data, .sentinel, .sentinel] true (true, "fa022059a2a26512e13e44f4e2fa1eb5979963552732f2393b4a870c13d0ecb3") true
   holds7 (fun _ h => by cases h) wf7 (fun _ h => by cases h) editingUpdates_row_tie rfl ⟨rfl, rfl⟩ main_t rfl
   (fun f fn hf hfn => by
     obtain rfl : f = 7 := Option.some.inj (name7.symm.trans hf) |>.symm
     obtain rfl : fn = Tryz.f7 := (Option.some.inj (Tryz.func7.symm.trans hfn)).symm
     refine ⟨looks_t, fun j t ht => ?_⟩
     have hm : t ∈ Tryz.f7.params.toList := by simpa using Array.mem_of_getElem? ht
     exact (show Tryz.prog.wantsStandIn t = false by simpa using List.all_eq_true.1 stand7 t hm))
   goes7
end Go.Proofs.YtihpfldadiiinaaGreatDoor
