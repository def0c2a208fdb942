/-
 A law as a contract (and what it needs).
-/
import Derived.Test.YtieoaedbfdmocaaGreatDoorTVa
set_option linter.unusedSimpArgs false
set_option linter.unusedVariables false
set_option linter.unusedSectionVars false
set_option linter.defProp false
set_option maxRecDepth 100000
set_option maxRecDepth 100000
namespace Go.Sx.La
open Go Go.Sx Go.RowKit Go.Proofs
noncomputable def t59 : R := .call none (.fn 25) [.lcons (.var 0) (.lcons (.var 1) (.lcons (.var 2) .lnil))] [.cell (.int .i64)] (.ite (.o2 .ne (.var 3) (.int .i64 0)) (.ret [.d .nils, .d (.var 3)]) (.fact (.o2 .le (.o1 .len (.var 2)) (.int .i64 140737488355328)) (.loop 0 [.nils, .int .i64 0] [.slice [.slice [.int .i64, .int .i64, .int .i64, .int .i64]], .int .i64] (.ite (.o2 .lt (.var 5) (.o1 .len (.var 2))) (.call none (.fn 123) [.lcons (.var 0) (.lcons (.var 1) (.lcons (.var 2) .lnil)), .var 5] [.cell (.slice [.int .i64, .int .i64, .int .i64, .int .i64])] (.need (.o2 .le (.o1 .len (.o2 .app (.var 4) (.push .nils (.lcons (.var 6) .lnil)))) (.int .i64 5864062014805)) (.again 0 [.o2 .app (.var 4) (.push .nils (.lcons (.var 6) .lnil)), .o2 (.add .i64) (.var 5) (.int .i64 1)]))) (.ret [.own 1 (.var 4), .d (.int .i64 0)])))))
theorem t59_ok : fnO Tryz.prog mdA 59 [.agg [.int .i64, .int .i64, .slice [.str, .str, .slice [.int .i64, .int .i64, .int .i64, .int .i64, .int .i64], .slice [.int .i64, .int .i64, .int .i64, .int .i64, .int .i64, .int .i64], .bool, .bool, .int .i64, .str, .int .i64]]] = t59 := by kernel_rfl
theorem c59 : callable Tryz.prog 59 = true := by kernel_rfl
def sheetL (cs : List Cue) (n : Nat) : List (List Ent) := (List.range n).map fun k => lookL cs (k + 1)
theorem sheetL_succ (cs : List Cue) (n : Nat) : sheetL cs (n + 1) = sheetL cs n ++ [lookL cs (n + 1)] := by simp [sheetL, List.range_succ]
theorem sheetL_len (cs : List Cue) (n : Nat) : (sheetL cs n).length = n := by simp [sheetL]
def enS (x : List Ent) : List D := [.slice (x.map Ent.enc)]
def sheetR (l : Lis) : List (List Ent) × Int := if checkL order05 l ≠ 0 then ([], checkL order05 l) else (sheetL l.cues l.cues.length, 0)
theorem sheetC_ok : Contract Tryz.prog 59 fun args K => ∃ (l : Lis), l.Ok ∧ args = [.agg l.enc] ∧ ∀ rvs, (rvs = [.d (.slice ((sheetR l).1.map enS)), .d (.int .i64 (sheetR l).2)] ∨ rvs = [.own 1 ((sheetR l).1.map enS), .d (.int .i64 (sheetR l).2)]) → K rvs := by
 refine .of c59 t59_ok ?_
 rintro _ K ⟨l, hl, rfl, hK⟩ hsm
 refine ⟨l.enc, rfl, Lis.has hl, ?_⟩
 refine denR_call clCheck17_ok ⟨l, hl, by simp only [zz, RT.den, den, O1.eval, O2.eval, D.eqb, reduceCtorEq, D.sub, D.cell, D.elem, D.cells, D.padd, D.list, D.push, Lis.enc], _, rfl, ?_⟩
 simp only [zz, RT.den, den, O1.eval, O2.eval, D.eqb, reduceCtorEq, D.sub, D.cell, D.elem, D.cells, D.padd, D.list, D.push, Lis.enc]
 unfold sheetR at hK
 refine ⟨fun h => ?_, fun h => ?_⟩
 · have h : checkL order05 l ≠ 0 := by simpa using h
   rw [if_pos h] at hK; exact hK _ (.inl rfl)
 have h : checkL order05 l = 0 := by simpa using h
 rw [if_neg (by simp [h])] at hK
 have hR := rightT_of hl h
 have hlen := hR.len
 intro hcap
 refine loop_goI l.cues (fun _ _ (_ : List (List Ent)) => ()) (fun i acc => [.slice (acc.map enS), .int .i64 i]) (fun i acc => acc = sheetL l.cues i) [] () rfl rfl 1 (fun _ _ => rfl) rfl ?_ ?_
 · rintro i hi acc rfl _
   have hat : (((i + 1 : Nat) : Int) - 1) = (i : Int) := by omega
   simp only [zz, RT.den, den, O1.eval, O2.eval, D.eqb, reduceCtorEq, D.sub, D.cell, D.elem, D.cells, D.padd, D.list, D.push, List.length_map, hi]
   refine denR_call look_ok ⟨l, i + 1, hR, hi, by simp only [zz, RT.den, den, O1.eval, O2.eval, D.eqb, reduceCtorEq, D.sub, D.cell, D.elem, D.cells, D.padd, D.list, D.push, Lis.enc, hat], _, rfl, ?_⟩
   simp only [zz, RT.den, den, O1.eval, O2.eval, D.eqb, reduceCtorEq, D.sub, D.cell, D.elem, D.cells, D.padd, D.list, D.push, Lis.enc, List.length_append, List.length_map, sheetL_len]
   refine ⟨by simp; omega, sheetL l.cues (i + 1), ⟨by rw [sheetL_succ]; simp [enS], by rw [wr64_eq] <;> omega⟩, rfl⟩
 · rintro acc rfl _
   simp only [zz, RT.den, den, O1.eval, O2.eval, D.eqb, reduceCtorEq, D.sub, D.cell, D.elem, D.cells, D.padd, D.list, D.push, List.length_map, Nat.lt_irrefl]
   exact hK _ (.inr rfl)
end Go.Sx.La
set_option maxRecDepth 100000
namespace Go.Sx.La
open Go Go.Sx Go.RowKit Go.Proofs
end Go.Sx.La
set_option maxRecDepth 100000
namespace Go.Sx.La
open Go Go.Sx Go.RowKit Go.Proofs
noncomputable def t70 : R := .call none (.fn 46) [.lcons (.var 0) (.lcons (.var 1) (.lcons (.var 2) .lnil))] [.cell .bool] (.call (some (.var 3)) (.fn 42) [.lcons (.var 0) (.lcons (.var 1) (.lcons (.var 2) .lnil))] [.cell (.int .i64)] (.ret [.d (.ite (.var 3) (.o2 .eq (.var 4) (.int .i64 0)) (.bool false))]))
theorem t70_ok : fnO Tryz.prog mdA 70 [.agg [.int .i64, .int .i64, .slice [.str, .str, .slice [.int .i64, .int .i64, .int .i64, .int .i64, .int .i64], .slice [.int .i64, .int .i64, .int .i64, .int .i64, .int .i64, .int .i64], .bool, .bool, .int .i64, .str, .int .i64]]] = t70 := by kernel_rfl
theorem c70 : callable Tryz.prog 70 = true := by kernel_rfl
def homesL (ps : List Par) : List Ent := ps.map fun p => ⟨p, hval⟩
def entsOf (ms : List Mov) : List Ent := ms.map fun m => ⟨m.pa, m.va⟩
def put1 (a : List Ent) (x : Ent) : List Ent := a.map fun y => if y.pa = x.pa then x else y
def overL (a es : List Ent) : List Ent := es.foldl put1 a
def pickE (es : List Ent) (y : Ent) : Ent := (es.find? fun x => decide (x.pa = y.pa)).getD y
theorem valued_succ {cs : List Cue} {n : Nat} (hn : n < cs.length) (p : Par) : valued cs p (n + 1) = ((mfind cs[n].moves p).map (·.va)).getD (if cs[n].block then hval else valued cs p n) := by
 have hb : backL cs (n + 1) = cs[n] :: if cs[n].block then [] else backL cs n := by simp [backL, hn]
 simp only [valued, lastM, hb, List.findSome?_cons]
 cases mfind cs[n].moves p with
 | some m => rfl
 | none =>
   by_cases h : cs[n].block = true
   · simp [h]
   · simp [h]
theorem diff_map (f g : Par → Val) : ∀ ps : List Par, diffE (ps.map fun p => ⟨p, f p⟩) (ps.map fun p => ⟨p, g p⟩) = (ps.filter fun p => decide (f p ≠ g p)).map fun p => ⟨p, g p⟩
 | [] => rfl
 | p :: ps => by
   simp only [List.map_cons, diffE]
   by_cases h : f p = g p
   · rw [if_pos h, diff_map f g ps]; simp [h]
   · rw [if_neg h, diff_map f g ps]; simp [h]
theorem good18_ok : Contract Tryz.prog 70 fun args K => ∃ (l : Lis), l.Ok ∧ args = [.agg l.enc] ∧ ∀ b : Bool, (b = true → checkL order05 l = 0) → K [.d (.bool b)] := by
 refine .of c70 t70_ok ?_
 rintro _ K ⟨l, hl, rfl, hK⟩ hsm
 refine ⟨l.enc, rfl, Lis.has hl, ?_⟩
 refine denR_call few18_ok ⟨l, hl, by simp only [zz, RT.den, den, O1.eval, O2.eval, D.eqb, reduceCtorEq, D.sub, D.cell, D.elem, D.cells, D.padd, D.list, D.push, Lis.enc], fun b => ⟨[.bool b], rfl, ?_⟩⟩
 cases b with
 | true =>
   refine denR_gcall check17_ok true [.int .i64 (checkL order05 l)] rfl (fun _ => ⟨l, hl, by simp only [zz, RT.den, den, O1.eval, O2.eval, D.eqb, reduceCtorEq, D.sub, D.cell, D.elem, D.cells, D.padd, D.list, D.push, Lis.enc], rfl⟩) (fun h => by cases h) ?_
   simp only [zz, RT.den, den, O1.eval, O2.eval, D.eqb, reduceCtorEq, D.sub, D.cell, D.elem, D.cells, D.padd, D.list, D.push, Lis.enc]
   have := hK (decide (checkL order05 l = 0)) (by simp)
   simpa using this
 | false =>
   refine denR_gcall check17_ok false [.int .i64 0] rfl (fun h => by cases h) (fun _ => rfl) ?_
   simp only [zz, RT.den, den, O1.eval, O2.eval, D.eqb, reduceCtorEq, D.sub, D.cell, D.elem, D.cells, D.padd, D.list, D.push, Lis.enc]
   simpa using hK false (by simp)
theorem cue18_at {l : Lis} (h : checkL order05 l = 0) {i : Nat} (hi : i < l.cues.length) : cue18 l l.cues[i].num = 0 ∧ upto l l.cues[i].num = i + 1 ∧ place l.cues l.cues[i].num = i := by
 have hR := rightL_of h
 have hp : ¬ place l.cues l.cues[i].num < 0 := fun hn => place_neg.1 hn _ (List.getElem_mem hi) rfl
 obtain ⟨j, hj, e1, e2, _⟩ := place_pos hp
 have hij : j = i := by
   rcases Nat.lt_trichotomy j i with h1 | h1 | h1
   · exact absurd (by simp [valOf, e2]) (rising_ne hR.rising hj hi (by omega))
   · exact h1
   · exact absurd (by simp [valOf, e2]) (rising_ne hR.rising hj hi (by omega))
 subst hij
 refine ⟨?_, by simp [upto, e1], e1⟩
 unfold cue18 numbered18
 rw [if_neg (by simp [h]), if_neg (by simp [hR.num _ (List.getElem_mem hi)]), if_neg hp]
end Go.Sx.La
set_option maxRecDepth 100000
namespace Go.Sx.La
open Go Go.Sx Go.RowKit Go.Proofs
theorem stepsR_at {l : Lis} (h : checkL order05 l = 0) {i : Nat} (hi : i < l.cues.length) : stepsR l l.cues[i].num = (diffE (lookL l.cues i) (lookL l.cues (i + 1)), 0) := by
 obtain ⟨h18, hup, hpl⟩ := cue18_at h hi
 unfold stepsR; rw [if_neg (by simp [h18]), hup]; rfl
theorem sheetR_right {l : Lis} (h : checkL order05 l = 0) : sheetR l = (sheetL l.cues l.cues.length, 0) := by unfold sheetR; rw [if_neg (by simp [h])]
theorem sheetL_get {cs : List Cue} {n i : Nat} (hi : i < n) (h : i < (sheetL cs n).length) : (sheetL cs n)[i] = lookL cs (i + 1) := by simp [sheetL]
end Go.Sx.La
