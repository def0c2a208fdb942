/-
  A law as a contract (and what it needs).
-/
import Derived.Test.YtieoaedbfdmocaaGreatDoorRVb
set_option linter.unusedSimpArgs false
set_option linter.unusedVariables false
set_option linter.unusedSectionVars false
set_option linter.defProp false
set_option maxRecDepth 100000
set_option maxRecDepth 100000
namespace Go.Sx.La
open Go Go.Sx Go.RowKit Go.Proofs
noncomputable def t70 : R := .call none (.fn 46) [.lcons (.var 0) (.lcons (.var 1) (.lcons (.var 2) .lnil))] [.cell .bool] (.call (some (.var 3)) (.fn 42) [.lcons (.var 0) (.lcons (.var 1) (.lcons (.var 2) .lnil))] [.cell (.int .i64)] (.ret [.d (.ite (.var 3) (.o2 .eq (.var 4) (.int .i64 0)) (.bool false))]))
theorem t70_ok : fnO Tryz.prog mdA 70 [.agg [.int .i64, .int .i64, .slice [.str, .str, .slice [.int .i64, .int .i64, .int .i64, .int .i64, .int .i64], .slice [.int .i64, .int .i64, .int .i64, .int .i64, .int .i64, .int .i64], .bool, .bool, .int .i64, .str, .int .i64]]] = t70 := by kernel_rfl
theorem c70 : callable Tryz.prog 70 = true := by kernel_rfl
def homesL (ps : List Par) : List Ent := ps.map fun p => ⟨p, hval⟩
def entsOf (ms : List Mov) : List Ent := ms.map fun m => ⟨m.pa, m.va⟩
def put1 (a : List Ent) (x : Ent) : List Ent := a.map fun y => if y.pa = x.pa then x else y
def overL (a es : List Ent) : List Ent := es.foldl put1 a
def pickE (es : List Ent) (y : Ent) : Ent := (es.find? fun x => decide (x.pa = y.pa)).getD y
theorem good18_ok : Contract Tryz.prog 70 fun args K => ∃ (l : Lis), l.Ok ∧ args = [.agg l.enc] ∧ ∀ b : Bool, (b = true → checkL order05 l = 0) → K [.d (.bool b)] := by
  refine .of c70 t70_ok ?_
  rintro _ K ⟨l, hl, rfl, hK⟩ hsm
  refine ⟨l.enc, rfl, Lis.has hl, ?_⟩
  refine denR_call few18_ok ⟨l, hl, by simp only [zz, RT.den, den, O1.eval, O2.eval, D.eqb, Ags.none, reduceCtorEq, forall_const, if_true, if_false, ite_true, ite_false, D.sub, D.cell, D.elem, D.cells, D.padd, D.list, D.push, Lis.enc], fun b => ⟨[.bool b], rfl, ?_⟩⟩
  cases b with
  | true =>
    refine denR_gcall check17_ok true [.int .i64 (checkL order05 l)] rfl (fun _ => ⟨l, hl, by simp only [zz, RT.den, den, O1.eval, O2.eval, D.eqb, Ags.none, reduceCtorEq, forall_const, if_true, if_false, ite_true, ite_false, D.sub, D.cell, D.elem, D.cells, D.padd, D.list, D.push, Lis.enc], rfl⟩) (fun h => by cases h) ?_
    simp only [zz, RT.den, den, O1.eval, O2.eval, D.eqb, Ags.none, reduceCtorEq, forall_const, if_true, if_false, ite_true, ite_false, D.sub, D.cell, D.elem, D.cells, D.padd, D.list, D.push, Lis.enc]
    have := hK (decide (checkL order05 l = 0)) (by simp)
    simpa using this
  | false =>
    refine denR_gcall check17_ok false [.int .i64 0] rfl (fun h => by cases h) (fun _ => rfl) ?_
    simp only [zz, RT.den, den, O1.eval, O2.eval, D.eqb, Ags.none, reduceCtorEq, forall_const, if_true, if_false, ite_true, ite_false, D.sub, D.cell, D.elem, D.cells, D.padd, D.list, D.push, Lis.enc]
    simpa using hK false (by simp)
theorem cue18_at {l : Lis} (h : checkL order05 l = 0) {i : Nat} (hi : i < l.cues.length) : cue18 l l.cues[i].num = 0 ∧ upto l l.cues[i].num = i + 1 ∧ place l.cues l.cues[i].num = i := by
  have hR := rightL_of h
  have hp : ¬ place l.cues l.cues[i].num < 0 := fun hn => place_neg.1 hn _ (List.getElem_mem hi) rfl
  obtain ⟨j, hj, e1, e2, _⟩ := place_pos hp
  have hij : j = i := by
    rcases Nat.lt_trichotomy j i with h1 | h1 | h1
    · exact absurd (by simp [valOf, e2]) (rising_ne hR.rising hj hi (by omega))
    · exact h1
    · exact absurd (by simp [valOf, e2]) (rising_ne hR.rising hj hi (by omega))
  subst hij
  refine ⟨?_, by simp [upto, e1], e1⟩
  unfold cue18 numbered18
  rw [if_neg (by simp [h]), if_neg (by simp [hR.num _ (List.getElem_mem hi)]), if_neg hp]
end Go.Sx.La
set_option maxRecDepth 100000
namespace Go.Sx.La
open Go Go.Sx Go.RowKit Go.Proofs
end Go.Sx.La
