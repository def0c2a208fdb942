/-
  A law as a contract (and what it needs).
-/
import Derived.Test.YtieoaedbfdmocaaGreatDoorVa
set_option linter.unusedSimpArgs false
set_option linter.unusedVariables false
set_option linter.unusedSectionVars false
set_option linter.defProp false
set_option maxRecDepth 100000
set_option maxRecDepth 100000
namespace Go.Sx.La
open Go Go.Sx Go.RowKit Go.Proofs
noncomputable def t59 : R := .call none (.fn 25) [.lcons (.var 0) (.lcons (.var 1) (.lcons (.var 2) .lnil))] [.cell (.int .i64)] (.ite (.o2 .ne (.var 3) (.int .i64 0)) (.ret [.d .nils, .d (.var 3)]) (.fact (.o2 .le (.o1 .len (.var 2)) (.int .i64 140737488355328)) (.loop 0 [.nils, .int .i64 0] [.slice [.slice [.int .i64, .int .i64, .int .i64, .int .i64]], .int .i64] (.ite (.o2 .lt (.var 5) (.o1 .len (.var 2))) (.call none (.fn 123) [.lcons (.var 0) (.lcons (.var 1) (.lcons (.var 2) .lnil)), .var 5] [.cell (.slice [.int .i64, .int .i64, .int .i64, .int .i64])] (.need (.o2 .le (.o1 .len (.o2 .app (.var 4) (.push .nils (.lcons (.var 6) .lnil)))) (.int .i64 5864062014805)) (.again 0 [.o2 .app (.var 4) (.push .nils (.lcons (.var 6) .lnil)), .o2 (.add .i64) (.var 5) (.int .i64 1)]))) (.ret [.own 1 (.var 4), .d (.int .i64 0)])))))
theorem t59_ok : fnO Tryz.prog mdA 59 [.agg [.int .i64, .int .i64, .slice [.str, .str, .slice [.int .i64, .int .i64, .int .i64, .int .i64, .int .i64], .slice [.int .i64, .int .i64, .int .i64, .int .i64, .int .i64, .int .i64], .bool, .bool, .int .i64, .str, .int .i64]]] = t59 := by kernel_rfl
theorem c59 : callable Tryz.prog 59 = true := by kernel_rfl
noncomputable def t60 : R := .call none (.fn 42) [.lcons (.var 0) (.lcons (.var 1) (.lcons (.var 2) .lnil))] [.cell (.int .i64)] (.ite (.o2 .ne (.var 3) (.int .i64 0)) (.ret [.d .nils, .d (.var 3)]) (.loop 0 [.nils, .int .i64 0] [.slice [.slice [.int .i64, .int .i64, .int .i64, .int .i64]], .int .i64] (.fact (.o2 .le (.o1 .len (.var 2)) (.int .i64 140737488355328)) (.ite (.o2 .lt (.var 5) (.o1 .len (.var 2))) (.call none (.fn 126) [.lcons (.var 0) (.lcons (.var 1) (.lcons (.var 2) .lnil)), .var 5] [.cell (.slice [.int .i64, .int .i64, .int .i64, .int .i64])] (.need (.o2 .le (.o1 .len (.o2 .app (.var 4) (.push .nils (.lcons (.var 6) .lnil)))) (.int .i64 5864062014805)) (.again 0 [.o2 .app (.var 4) (.push .nils (.lcons (.var 6) .lnil)), .o2 (.add .i64) (.var 5) (.int .i64 1)]))) (.ret [.own 1 (.var 4), .d (.int .i64 0)])))))
theorem t60_ok : fnO Tryz.prog mdA 60 [.agg [.int .i64, .int .i64, .slice [.str, .str, .slice [.int .i64, .int .i64, .int .i64, .int .i64, .int .i64], .slice [.int .i64, .int .i64, .int .i64, .int .i64, .int .i64, .int .i64], .bool, .bool, .int .i64, .str, .int .i64]]] = t60 := by kernel_rfl
theorem c60 : callable Tryz.prog 60 = true := by kernel_rfl
noncomputable def t62 : R := .fact (.o2 .le (.o1 .len (.var 0)) (.int .i64 140737488355328)) (.fact (.o2 .le (.o1 .len (.var 1)) (.int .i64 140737488355328)) (.ite (.o2 .ne (.o1 .len (.var 0)) (.o1 .len (.var 1))) (.ret [.d (.bool false)]) (.loop 0 [.int .i64 0] [.int .i64] (.ite (.o2 .lt (.var 2) (.o1 .len (.var 0))) (.need (.o2 .le (.int .i64 0) (.var 2)) (.need (.o2 .lt (.var 2) (.o1 .len (.var 1))) (.call none (.fn 54) [.idx (.var 0) (.var 2) 0 (.slice [.int .i64, .int .i64, .int .i64, .int .i64]), .idx (.var 1) (.var 2) 0 (.slice [.int .i64, .int .i64, .int .i64, .int .i64])] [.cell .bool] (.ite (.o1 .not (.var 3)) (.ret [.d (.bool false)]) (.again 0 [.o2 (.add .i64) (.var 2) (.int .i64 1)]))))) (.ret [.d (.bool true)])))))
theorem t62_ok : fnO Tryz.prog mdA 62 [.cell (.slice [.slice [.int .i64, .int .i64, .int .i64, .int .i64]]), .cell (.slice [.slice [.int .i64, .int .i64, .int .i64, .int .i64]])] = t62 := by kernel_rfl
theorem c62 : callable Tryz.prog 62 = true := by kernel_rfl
def sheetL (cs : List Cue) (n : Nat) : List (List Ent) := (List.range n).map fun k => lookL cs (k + 1)
theorem sheetL_succ (cs : List Cue) (n : Nat) : sheetL cs (n + 1) = sheetL cs n ++ [lookL cs (n + 1)] := by simp [sheetL, List.range_succ]
theorem sheetL_len (cs : List Cue) (n : Nat) : (sheetL cs n).length = n := by simp [sheetL]
def enS (x : List Ent) : List D := [.slice (x.map Ent.enc)]
def sheetR (l : Lis) : List (List Ent) × Int := if checkL order05 l ≠ 0 then ([], checkL order05 l) else (sheetL l.cues l.cues.length, 0)
theorem sheetC_ok : Contract Tryz.prog 59 fun args K => ∃ (l : Lis), l.Ok ∧ args = [.agg l.enc] ∧ ∀ rvs, (rvs = [.d (.slice ((sheetR l).1.map enS)), .d (.int .i64 (sheetR l).2)] ∨ rvs = [.own 1 ((sheetR l).1.map enS), .d (.int .i64 (sheetR l).2)]) → K rvs := by
  refine .of c59 t59_ok ?_
  rintro _ K ⟨l, hl, rfl, hK⟩ hsm
  refine ⟨l.enc, rfl, Lis.has hl, ?_⟩
  refine denR_call clCheck17_ok ⟨l, hl, by simp only [zz, RT.den, den, O1.eval, O2.eval, D.eqb, Ags.none, reduceCtorEq, forall_const, if_true, if_false, ite_true, ite_false, D.sub, D.cell, D.elem, D.cells, D.padd, D.list, D.push, Lis.enc], _, rfl, ?_⟩
  simp only [zz, RT.den, den, O1.eval, O2.eval, D.eqb, Ags.none, reduceCtorEq, forall_const, if_true, if_false, ite_true, ite_false, D.sub, D.cell, D.elem, D.cells, D.padd, D.list, D.push, Lis.enc]
  unfold sheetR at hK
  refine ⟨fun h => ?_, fun h => ?_⟩
  · have h : checkL order05 l ≠ 0 := by simpa using h
    rw [if_pos h] at hK; exact hK _ (.inl rfl)
  have h : checkL order05 l = 0 := by simpa using h
  rw [if_neg (by simp [h])] at hK
  have hR := rightT_of hl h
  have hlen := hR.len
  intro hcap
  refine loop_goI l.cues (fun _ _ (_ : List (List Ent)) => ()) (fun i acc => [.slice (acc.map enS), .int .i64 i]) (fun i acc => acc = sheetL l.cues i) [] () rfl rfl 1 (fun _ _ => rfl) rfl ?_ ?_
  · rintro i hi acc rfl _
    have hat : (((i + 1 : Nat) : Int) - 1) = (i : Int) := by omega
    simp only [zz, RT.den, den, O1.eval, O2.eval, D.eqb, Ags.none, reduceCtorEq, forall_const, if_true, if_false, ite_true, ite_false, D.sub, D.cell, D.elem, D.cells, D.padd, D.list, D.push, List.length_map, hi]
    refine denR_call look_ok ⟨l, i + 1, hR, hi, by simp only [zz, RT.den, den, O1.eval, O2.eval, D.eqb, Ags.none, reduceCtorEq, forall_const, if_true, if_false, ite_true, ite_false, D.sub, D.cell, D.elem, D.cells, D.padd, D.list, D.push, Lis.enc, hat], _, rfl, ?_⟩
    simp only [zz, RT.den, den, O1.eval, O2.eval, D.eqb, Ags.none, reduceCtorEq, forall_const, if_true, if_false, ite_true, ite_false, D.sub, D.cell, D.elem, D.cells, D.padd, D.list, D.push, Lis.enc, List.length_append, List.length_map, sheetL_len]
    refine ⟨by simp; omega, sheetL l.cues (i + 1), ⟨by rw [sheetL_succ]; simp [enS], by rw [wr64_eq] <;> omega⟩, rfl⟩
  · rintro acc rfl _
    simp only [zz, RT.den, den, O1.eval, O2.eval, D.eqb, Ags.none, reduceCtorEq, forall_const, if_true, if_false, ite_true, ite_false, D.sub, D.cell, D.elem, D.cells, D.padd, D.list, D.push, List.length_map, Nat.lt_irrefl]
    exact hK _ (.inr rfl)
theorem sheetS_ok : Contract Tryz.prog 60 fun args K => ∃ (l : Lis), l.Ok ∧ args = [.agg l.enc] ∧ ∀ rvs, (rvs = [.d (.slice ((sheetR l).1.map enS)), .d (.int .i64 (sheetR l).2)] ∨ rvs = [.own 1 ((sheetR l).1.map enS), .d (.int .i64 (sheetR l).2)]) → K rvs := by
  refine .of c60 t60_ok ?_
  rintro _ K ⟨l, hl, rfl, hK⟩ hsm
  refine ⟨l.enc, rfl, Lis.has hl, ?_⟩
  refine denR_call check17_ok ⟨l, hl, by simp only [zz, RT.den, den, O1.eval, O2.eval, D.eqb, Ags.none, reduceCtorEq, forall_const, if_true, if_false, ite_true, ite_false, D.sub, D.cell, D.elem, D.cells, D.padd, D.list, D.push, Lis.enc], _, rfl, ?_⟩
  simp only [zz, RT.den, den, O1.eval, O2.eval, D.eqb, Ags.none, reduceCtorEq, forall_const, if_true, if_false, ite_true, ite_false, D.sub, D.cell, D.elem, D.cells, D.padd, D.list, D.push, Lis.enc]
  unfold sheetR at hK
  refine ⟨fun h => ?_, fun h => ?_⟩
  · have h : checkL order05 l ≠ 0 := by simpa using h
    rw [if_pos h] at hK; exact hK _ (.inl rfl)
  have h : checkL order05 l = 0 := by simpa using h
  rw [if_neg (by simp [h])] at hK
  have hR := rightT_of hl h
  have hlen := hR.len
  refine loop_goI l.cues (fun _ _ (_ : List (List Ent)) => ()) (fun i acc => [.slice (acc.map enS), .int .i64 i]) (fun i acc => acc = sheetL l.cues i) [] () rfl rfl 1 (fun _ _ => rfl) rfl ?_ ?_
  · rintro i hi acc rfl _
    have hat : (((i + 1 : Nat) : Int) - 1) = (i : Int) := by omega
    simp only [zz, RT.den, den, O1.eval, O2.eval, D.eqb, Ags.none, reduceCtorEq, forall_const, if_true, if_false, ite_true, ite_false, D.sub, D.cell, D.elem, D.cells, D.padd, D.list, D.push, List.length_map, hi]
    intro hcap
    refine denR_call seen_ok ⟨l, i + 1, hR, hi, by simp only [zz, RT.den, den, O1.eval, O2.eval, D.eqb, Ags.none, reduceCtorEq, forall_const, if_true, if_false, ite_true, ite_false, D.sub, D.cell, D.elem, D.cells, D.padd, D.list, D.push, Lis.enc, hat], _, rfl, ?_⟩
    simp only [zz, RT.den, den, O1.eval, O2.eval, D.eqb, Ags.none, reduceCtorEq, forall_const, if_true, if_false, ite_true, ite_false, D.sub, D.cell, D.elem, D.cells, D.padd, D.list, D.push, Lis.enc, List.length_append, List.length_map, sheetL_len]
    refine ⟨by simp; omega, sheetL l.cues (i + 1), ⟨by rw [sheetL_succ]; simp [enS], by rw [wr64_eq] <;> omega⟩, rfl⟩
  · rintro acc rfl _
    simp only [zz, RT.den, den, O1.eval, O2.eval, D.eqb, Ags.none, reduceCtorEq, forall_const, if_true, if_false, ite_true, ite_false, D.sub, D.cell, D.elem, D.cells, D.padd, D.list, D.push, List.length_map, Nat.lt_irrefl]
    exact fun _ => hK _ (.inr rfl)
theorem sheet_has {a : List (List Ent)} (h : ∀ x ∈ a, ∀ e ∈ x, e.Ok) : HasK (.slice [.slice enKs]) (.slice (a.map enS)) := slice_has fun x hx => ⟨ents_has (h x hx), trivial⟩
theorem sheet_ents {l : Lis} (hl : l.Ok) : ∀ x ∈ (sheetR l).1, ∀ e ∈ x, e.Ok := by
  unfold sheetR
  by_cases h : checkL order05 l = 0
  · rw [if_neg (by simp [h])]
    intro x hx
    obtain ⟨k, _, rfl⟩ := List.mem_map.1 hx
    exact lookL_ok (rightT_of hl h) _
  · rw [if_pos h]; simp
theorem look_ents {l : Lis} (hl : l.Ok) (s : List UInt8) : ∀ e ∈ (lookR l s).1, e.Ok := by
  unfold lookR
  by_cases h : cue18 l s = 0
  · rw [if_neg (by simp [h])]
    exact lookL_ok (cue18_right hl h).1 _
  · rw [if_pos h]; simp
theorem foot_pars {l : Lis} (hl : l.Ok) : ∀ e ∈ (footR l).1, e.Ok := by
  unfold footR
  by_cases h : checkL order05 l = 0
  · rw [if_neg (by simp [h])]
    exact fun p hp => (moved_par (rightT_of hl h) p hp).1
  · rw [if_pos h]; simp
theorem sameSheet_ok : Contract Tryz.prog 62 fun args K => ∃ (a : List (List Ent)), (∀ x ∈ a, ∀ e ∈ x, e.Ok) ∧ args = [.slice (a.map enS), .slice (a.map enS)] ∧ K [.d (.bool true)] := by
  refine .of c62 t62_ok ?_
  rintro _ K ⟨a, ha, rfl, hK⟩ hsm
  refine ⟨[.slice (a.map enS), .slice (a.map enS)], rfl, ⟨sheet_has ha, sheet_has ha, trivial⟩, ?_⟩
  simp only [zz, RT.den, den, O1.eval, O2.eval, D.eqb, Ags.none, reduceCtorEq, forall_const, if_true, if_false, ite_true, ite_false, D.sub, D.cell, D.elem, D.cells, D.padd, D.list, D.push, t62, List.length_map]
  intro hcap _
  refine loop_go a (fun _ _ (_ : Unit) => ()) (fun i _ => [.int .i64 i]) () () rfl 0 (fun _ _ => rfl) rfl ?_ ?_
  · intro i hi _ _
    simp only [zz, RT.den, den, O1.eval, O2.eval, D.eqb, Ags.none, reduceCtorEq, forall_const, if_true, if_false, ite_true, ite_false, D.sub, D.cell, D.elem, D.cells, D.padd, D.list, D.push, List.length_map, hi, getD_map hi, enS]
    refine ⟨by omega, ?_⟩
    refine denR_call sameEnts_ok ⟨a[i], ha _ (List.getElem_mem hi), by simp only [zz, RT.den, den, O1.eval, O2.eval, D.eqb, Ags.none, reduceCtorEq, forall_const, if_true, if_false, ite_true, ite_false, D.sub, D.cell, D.elem, D.cells, D.padd, D.list, D.push, getD_map hi, enS], _, rfl, ?_⟩
    simp only [zz, RT.den, den, O1.eval, O2.eval, D.eqb, Ags.none, reduceCtorEq, forall_const, if_true, if_false, ite_true, ite_false, D.sub, D.cell, D.elem, D.cells, D.padd, D.list, D.push]
    exact ⟨(), by rw [wr64_eq] <;> omega⟩
  · intro _ _
    simp only [zz, RT.den, den, O1.eval, O2.eval, D.eqb, Ags.none, reduceCtorEq, forall_const, if_true, if_false, ite_true, ite_false, D.sub, D.cell, D.elem, D.cells, D.padd, D.list, D.push, List.length_map, Nat.lt_irrefl]
    exact hK
end Go.Sx.La
set_option maxRecDepth 100000
namespace Go.Sx.La
open Go Go.Sx Go.RowKit Go.Proofs
noncomputable def t10 : R := .call none (.fn 46) [.lcons (.var 0) (.lcons (.var 1) (.lcons (.var 2) .lnil))] [.cell .bool] (.fact (.ite (.o1 .not (.o1 .not (.var 4))) (.o2 .le (.o1 .len (.var 3)) (.int .i64 140737488355328)) (.bool true)) (.ite (.ite (.o1 .not (.var 4)) (.bool true) (.o2 .gt (.o1 .len (.var 3)) (.int .i64 40))) (.call none (.fn 47) [] [.cell .bool] (.ret [.d (.var 5)])) (.call none (.fn 55) [.lcons (.var 0) (.lcons (.var 1) (.lcons (.var 2) .lnil))] [.cell (.slice [.int .i64, .int .i64]), .cell (.int .i64)] (.call none (.fn 56) [.lcons (.var 0) (.lcons (.var 1) (.lcons (.var 2) .lnil))] [.cell (.slice [.int .i64, .int .i64]), .cell (.int .i64)] (.call none (.fn 57) [.lcons (.var 0) (.lcons (.var 1) (.lcons (.var 2) .lnil)), .var 3] [.cell (.slice [.int .i64, .int .i64, .int .i64, .int .i64]), .cell (.int .i64)] (.call none (.fn 58) [.lcons (.var 0) (.lcons (.var 1) (.lcons (.var 2) .lnil)), .var 3] [.cell (.slice [.int .i64, .int .i64, .int .i64, .int .i64]), .cell (.int .i64)] (.call none (.fn 59) [.lcons (.var 0) (.lcons (.var 1) (.lcons (.var 2) .lnil))] [.cell (.slice [.slice [.int .i64, .int .i64, .int .i64, .int .i64]]), .cell (.int .i64)] (.call none (.fn 60) [.lcons (.var 0) (.lcons (.var 1) (.lcons (.var 2) .lnil))] [.cell (.slice [.slice [.int .i64, .int .i64, .int .i64, .int .i64]]), .cell (.int .i64)] (.call none (.fn 61) [.var 5, .var 7] [.cell .bool] (.call (some (.ite (.var 17) (.o2 .eq (.var 6) (.var 8)) (.bool false))) (.fn 54) [.var 9, .var 11] [.cell .bool] (.call (some (.ite (.ite (.ite (.var 17) (.o2 .eq (.var 6) (.var 8)) (.bool false)) (.var 18) (.bool false)) (.o2 .eq (.var 10) (.var 12)) (.bool false))) (.fn 62) [.var 13, .var 15] [.cell .bool] (.call (some (.ite (.ite (.ite (.ite (.ite (.var 17) (.o2 .eq (.var 6) (.var 8)) (.bool false)) (.var 18) (.bool false)) (.o2 .eq (.var 10) (.var 12)) (.bool false)) (.var 19) (.bool false)) (.o2 .eq (.var 14) (.var 16)) (.bool false))) (.fn 47) [] [.cell .bool] (.ret [.d (.ite (.ite (.ite (.ite (.ite (.ite (.var 17) (.o2 .eq (.var 6) (.var 8)) (.bool false)) (.var 18) (.bool false)) (.o2 .eq (.var 10) (.var 12)) (.bool false)) (.var 19) (.bool false)) (.o2 .eq (.var 14) (.var 16)) (.bool false)) (.var 20) (.bool false))])))))))))))))
theorem t10_ok : fnO Tryz.prog mdA 10 [.agg [.int .i64, .int .i64, .slice [.str, .str, .slice [.int .i64, .int .i64, .int .i64, .int .i64, .int .i64], .slice [.int .i64, .int .i64, .int .i64, .int .i64, .int .i64, .int .i64], .bool, .bool, .int .i64, .str, .int .i64]], .cell .str] = t10 := by kernel_rfl
theorem c10 : callable Tryz.prog 10 = true := by kernel_rfl
theorem law10_typed : Contract Tryz.prog 10 fun args K => ∃ (l : Lis) (s : List UInt8), l.Ok ∧ args = [.agg l.enc, .str s] ∧ K [.d (.bool true)] := by
  refine .of c10 t10_ok ?_
  rintro _ K ⟨l, s, hl, rfl, hK⟩ hsm
  refine ⟨l.enc ++ [.str s], rfl, by exact has_s hl, ?_⟩
  refine denR_call few18_ok ⟨l, hl, by simp only [zz, RT.den, den, O1.eval, O2.eval, D.eqb, Ags.none, reduceCtorEq, forall_const, if_true, if_false, ite_true, ite_false, D.sub, D.cell, D.elem, D.cells, D.padd, D.list, D.push, Lis.enc], fun b => ⟨[.bool b], rfl, ?_⟩⟩
  simp only [zz, RT.den, den, O1.eval, O2.eval, D.eqb, Ags.none, reduceCtorEq, forall_const, if_true, if_false, ite_true, ite_false, D.sub, D.cell, D.elem, D.cells, D.padd, D.list, D.push, Lis.enc]
  intro _
  refine ⟨fun _ => ?_, fun _ => ?_⟩
  · refine denR_call awake18_ok ⟨rfl, _, rfl, ?_⟩
    simp only [zz, RT.den, den, O1.eval, O2.eval, D.eqb, Ags.none, reduceCtorEq, forall_const, if_true, if_false, ite_true, ite_false, D.sub, D.cell, D.elem, D.cells, D.padd, D.list, D.push]
    exact hK
  · refine denR_call footC_ok ⟨l, hl, by simp only [zz, RT.den, den, O1.eval, O2.eval, D.eqb, Ags.none, reduceCtorEq, forall_const, if_true, if_false, ite_true, ite_false, D.sub, D.cell, D.elem, D.cells, D.padd, D.list, D.push, Lis.enc], _, rfl, ?_⟩
    refine denR_call footS_ok ⟨l, hl, by simp only [zz, RT.den, den, O1.eval, O2.eval, D.eqb, Ags.none, reduceCtorEq, forall_const, if_true, if_false, ite_true, ite_false, D.sub, D.cell, D.elem, D.cells, D.padd, D.list, D.push, Lis.enc], _, rfl, ?_⟩
    refine denR_call lookC_ok ⟨l, s, hl, by simp only [zz, RT.den, den, O1.eval, O2.eval, D.eqb, Ags.none, reduceCtorEq, forall_const, if_true, if_false, ite_true, ite_false, D.sub, D.cell, D.elem, D.cells, D.padd, D.list, D.push, Lis.enc], _, rfl, ?_⟩
    refine denR_call lookS_ok ⟨l, s, hl, by simp only [zz, RT.den, den, O1.eval, O2.eval, D.eqb, Ags.none, reduceCtorEq, forall_const, if_true, if_false, ite_true, ite_false, D.sub, D.cell, D.elem, D.cells, D.padd, D.list, D.push, Lis.enc], _, rfl, ?_⟩
    refine denR_call sheetC_ok ⟨l, hl, by simp only [zz, RT.den, den, O1.eval, O2.eval, D.eqb, Ags.none, reduceCtorEq, forall_const, if_true, if_false, ite_true, ite_false, D.sub, D.cell, D.elem, D.cells, D.padd, D.list, D.push, Lis.enc], fun rvs h => ⟨[.slice ((sheetR l).1.map enS), .int .i64 (sheetR l).2], by rcases h with rfl | rfl <;> rfl, ?_⟩⟩
    refine denR_call sheetS_ok ⟨l, hl, by simp only [zz, RT.den, den, O1.eval, O2.eval, D.eqb, Ags.none, reduceCtorEq, forall_const, if_true, if_false, ite_true, ite_false, D.sub, D.cell, D.elem, D.cells, D.padd, D.list, D.push, Lis.enc], fun rvs h => ⟨[.slice ((sheetR l).1.map enS), .int .i64 (sheetR l).2], by rcases h with rfl | rfl <;> rfl, ?_⟩⟩
    refine denR_call samePars_ok ⟨(footR l).1, foot_pars hl, by simp only [zz, RT.den, den, O1.eval, O2.eval, D.eqb, Ags.none, reduceCtorEq, forall_const, if_true, if_false, ite_true, ite_false, D.sub, D.cell, D.elem, D.cells, D.padd, D.list, D.push, Lis.enc], _, rfl, ?_⟩
    refine denR_gcall sameEnts_ok true [.bool true] (by simp only [zz, RT.den, den, O1.eval, O2.eval, D.eqb, Ags.none, reduceCtorEq, forall_const, if_true, if_false, ite_true, ite_false, D.sub, D.cell, D.elem, D.cells, D.padd, D.list, D.push] <;> simp) (fun _ => ⟨(lookR l s).1, look_ents hl s, by simp only [zz, RT.den, den, O1.eval, O2.eval, D.eqb, Ags.none, reduceCtorEq, forall_const, if_true, if_false, ite_true, ite_false, D.sub, D.cell, D.elem, D.cells, D.padd, D.list, D.push, Lis.enc], rfl⟩) (fun h => by cases h) ?_
    refine denR_gcall sameSheet_ok true [.bool true] (by simp only [zz, RT.den, den, O1.eval, O2.eval, D.eqb, Ags.none, reduceCtorEq, forall_const, if_true, if_false, ite_true, ite_false, D.sub, D.cell, D.elem, D.cells, D.padd, D.list, D.push] <;> simp) (fun _ => ⟨(sheetR l).1, sheet_ents hl, by simp only [zz, RT.den, den, O1.eval, O2.eval, D.eqb, Ags.none, reduceCtorEq, forall_const, if_true, if_false, ite_true, ite_false, D.sub, D.cell, D.elem, D.cells, D.padd, D.list, D.push, Lis.enc], rfl⟩) (fun h => by cases h) ?_
    refine denR_gcall awake18_ok true [.bool true] (by simp only [zz, RT.den, den, O1.eval, O2.eval, D.eqb, Ags.none, reduceCtorEq, forall_const, if_true, if_false, ite_true, ite_false, D.sub, D.cell, D.elem, D.cells, D.padd, D.list, D.push] <;> simp) (fun _ => ⟨rfl, rfl⟩) (fun h => by cases h) ?_
    simp only [zz, RT.den, den, O1.eval, O2.eval, D.eqb, Ags.none, reduceCtorEq, forall_const, if_true, if_false, ite_true, ite_false, D.sub, D.cell, D.elem, D.cells, D.padd, D.list, D.push]
    simpa using hK
theorem law10 : Contract Tryz.prog 10 (LawSpec Tryz.prog 10) :=
  law10_typed.weaken fun args K _ h => by
    obtain ⟨h1, h2, hK⟩ := lawArgs [.agg liKs, .cell .str] (by kernel_rfl) h
    match args, h1 with
    | [a, b], _ =>
      obtain ⟨l, hl, rfl⟩ := Lis.ofAgg (h2 0 _ _ rfl rfl)
      obtain ⟨s, rfl⟩ := str_of (h2 1 _ _ rfl rfl)
      exact ⟨l, s, hl, rfl, hK⟩
end Go.Sx.La
