/-
 TopEditsKeepLooks: for every input the law returns true and each argument reads behind the call as it read before; conditions: none beside the row's own cells (the listed package variables as the program's text lays them).
-/
import Derived.Test.YtihpfldadiiinaaGreatDoorFDk
import Derived.Test.YtihpfldadiiinaaGreatDoorCards
import Derived.Test.YtihpfldadiiinaaGreatDoorTie
import Derived.LaidMore
import Derived.SevenTiedAt
import Derived.JoinedOf
import Derived.ProofKit
import Derived.OpenShut
import Derived.Stop.Joined
set_option linter.unusedSimpArgs false
set_option linter.unusedVariables false
set_option linter.unusedSectionVars false
set_option linter.defProp false
set_option maxRecDepth 100000
set_option maxRecDepth 100000
namespace Go.Proofs.YtihpfldadiiinaaGreatDoor
open Go Go.Sx Go.Sx.La Go.RowKit
theorem own : ownKnob Tryz.prog.godebug = none := by kernel_rfl
theorem laidOut : laidOutB Tryz.prog = true := by kernel_rfl
theorem and_t {a b : Bool} (ha : a = true) (hb : b = true) : (a && b) = true := by rw [ha, hb]; rfl
theorem looks_t : true = Tryz.prog.looks [] := by kernel_rfl
theorem main_t : Tryz.pinned.checked.prog.mainIs = some (true, "fa022059a2a26512e13e44f4e2fa1eb5979963552732f2393b4a870c13d0ecb3".toList) := by kernel_rfl
def laid5 : List (String × DataW Unit) := Rows.editingRecordsRow.laid
theorem door_met (os : Os) (args : Array Value) : laidMetH Tryz.prog laid5 ((World.doorLaid Tryz.prog 400 os).forCall (fun _ _ => 0) ⟨#[], args, []⟩).memory :=
 laidMetH_of_parts3 (fuel := 8) (laidMet_of_run' 8 (by kernel_rfl) (by kernel_rfl)) (by kernel_rfl) (by kernel_rfl)
end Go.Proofs.YtihpfldadiiinaaGreatDoor
set_option maxRecDepth 100000
set_option maxHeartbeats 40000000
namespace Go.Proofs.YtihpfldadiiinaaGreatDoor
open Go Go.Sx Go.Sx.La Go.RowKit
theorem facts3 : joinedFacts Tryz.prog 3 Tryz.f3 Rows.topEditsKeepLooksSpec Rows.topEditsKeepLooksRow = true := by
 unfold joinedFacts
 refine and_t (and_t (and_t (and_t (and_t (and_t (and_t (and_t (and_t (and_t (and_t (and_t (and_t (and_t (and_t (and_t (and_t (and_t (and_t (and_t (and_t (and_t (and_t (and_t (and_t (and_t (and_t (and_t (and_t (and_t (and_t ?_ ?_) ?_) ?_) ?_) ?_) ?_) ?_) ?_) ?_) ?_) ?_) ?_) ?_) ?_) ?_) ?_) ?_) ?_) ?_) ?_) ?_) ?_) ?_) ?_) ?_) ?_) ?_) ?_) ?_) ?_) ?_
 all_goals (as_aux_lemma => kernel_rfl)
theorem goes3 : false = Rows.topEditsKeepLooksRow.goesBy Tryz.prog := by kernel_rfl
theorem wf3 : Rows.topEditsKeepLooksRow.wfByText (OpenSpec.ofChange Rows.topEditsKeepLooksSpec) = true := by kernel_rfl
theorem name3 : Tryz.prog.funcNamed "luminaire/luminairetop.TopEditsKeepLooks" = some 3 := by kernel_rfl
theorem stand3 : (Tryz.f3.params.toList.all fun u => !Tryz.prog.wantsStandIn u) = true := by kernel_rfl
theorem inst3 : Tryz.f3.isInstance Tryz.prog Rows.topEditsKeepLooksRow.origin Rows.topEditsKeepLooksRow.targs := of_decide_eq_true (by kernel_rfl)
theorem wrap3 : Tryz.f3.isWrapper Tryz.prog Rows.topEditsKeepLooksRow.wrapper Rows.topEditsKeepLooksRow.mainSum := by unfold Func.isWrapper; first | (rw [if_pos (by decide +kernel)]; kernel_rfl) | (rw [if_neg (by decide +kernel)]; exact ⟨rfl, rfl⟩)
theorem lifted3 (os : Os) (started : os.Started) (H : Type) (enc : TypeId × Value → H) :
   ReturnsInHanded {} Tryz.checked os 3 .any (fun w args => (Rows.topEditsKeepLooksSpec.pre enc Tryz.prog Tryz.f3 [] false w args ∧ laidMetH Tryz.prog laid5 w) ∧ sizedMet enc Tryz.prog Tryz.f3 (OpenSpec.ofChange Rows.topEditsKeepLooksSpec) false w args)
     (Rows.topEditsKeepLooksSpec.post enc Tryz.prog Tryz.f3 false true false false) :=
 law_returns (C := Tryz.checked) (X := fun w _ => laidMetH Tryz.prog laid5 w) (t := 4) (fun _ _ _ hh h => h.of_heap hh) own started (by as_aux_lemma => kernel_rfl) Tryz.func3
   (ChangeSpec.witness_shaped (enc := enc) (C := Tryz.checked) (os := os) (X := fun w _ => laidMetH Tryz.prog laid5 w) false (World.doorLaid Tryz.prog 400 os) #[.agg #[.int .i64 0, .int .i64 0, .slice none 0 0], .string ⟨#[]⟩, .slice none 0 0] 8 rfl (World.shaped_of_RefB (by as_aux_lemma => kernel_rfl) (by as_aux_lemma => kernel_rfl)) (by as_aux_lemma => kernel_rfl) (by as_aux_lemma => kernel_rfl) (by as_aux_lemma => kernel_rfl) (door_met os _))
   rfl (fun ds h => by
     match ds, h with
     | [a, b, c], _ => exact ⟨rfl, rfl, rfl⟩) laidOut (by as_aux_lemma => kernel_rfl) (by as_aux_lemma => kernel_rfl) (by as_aux_lemma => kernel_rfl) law3e
theorem holds3 : Rows.TopEditsKeepLooksSaid :=
 OpenClaim.holds_of_wide 3 Tryz.f3 rfl rfl rfl rfl rfl rfl rfl ⟨rfl, rfl, rfl, rfl, rfl⟩ rfl rfl rfl rfl rfl name3 Tryz.func3 facts3 inst3 wrap3
   (fun os started H enc _ => lifted3 os started H enc)
theorem card3 : Rows.TopEditsKeepLooksCardSaid :=
 Claim7.holds_tied_plain_at .later [] [.data, .data, .data, .sentinel, .sentinel] true (true, "fa022059a2a26512e13e44f4e2fa1eb5979963552732f2393b4a870c13d0ecb3") true
   holds3 (fun _ h => by cases h) wf3 (fun _ h => by cases h) topEditsKeepLooks_row_tie rfl ⟨rfl, rfl⟩ main_t rfl
   (fun f fn hf hfn => by
     obtain rfl : f = 3 := Option.some.inj (name3.symm.trans hf) |>.symm
     obtain rfl : fn = Tryz.f3 := (Option.some.inj (Tryz.func3.symm.trans hfn)).symm
     refine ⟨looks_t, fun j t ht => ?_⟩
     have hm : t ∈ Tryz.f3.params.toList := by simpa using Array.mem_of_getElem? ht
     exact (show Tryz.prog.wantsStandIn t = false by simpa using List.all_eq_true.1 stand3 t hm))
   goes3
end Go.Proofs.YtihpfldadiiinaaGreatDoor
