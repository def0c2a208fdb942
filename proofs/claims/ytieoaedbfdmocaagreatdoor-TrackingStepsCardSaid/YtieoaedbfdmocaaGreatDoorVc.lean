/-
  A law as a contract (and what it needs).
-/
import Derived.Test.YtieoaedbfdmocaaGreatDoorVb
set_option linter.unusedSimpArgs false
set_option linter.unusedVariables false
set_option linter.unusedSectionVars false
set_option linter.defProp false
set_option maxRecDepth 100000
set_option maxRecDepth 100000
namespace Go.Sx.La
open Go Go.Sx Go.RowKit Go.Proofs
noncomputable def t70 : R := .call none (.fn 46) [.lcons (.var 0) (.lcons (.var 1) (.lcons (.var 2) .lnil))] [.cell .bool] (.call (some (.var 3)) (.fn 42) [.lcons (.var 0) (.lcons (.var 1) (.lcons (.var 2) .lnil))] [.cell (.int .i64)] (.ret [.d (.ite (.var 3) (.o2 .eq (.var 4) (.int .i64 0)) (.bool false))]))
theorem t70_ok : fnO Tryz.prog mdA 70 [.agg [.int .i64, .int .i64, .slice [.str, .str, .slice [.int .i64, .int .i64, .int .i64, .int .i64, .int .i64], .slice [.int .i64, .int .i64, .int .i64, .int .i64, .int .i64, .int .i64], .bool, .bool, .int .i64, .str, .int .i64]]] = t70 := by kernel_rfl
theorem c70 : callable Tryz.prog 70 = true := by kernel_rfl
noncomputable def t71 : R := .fact (.o2 .le (.o1 .len (.var 0)) (.int .i64 140737488355328)) (.loop 0 [.nils, .int .i64 0] [.slice [.int .i64, .int .i64, .int .i64, .int .i64], .int .i64] (.ite (.o2 .lt (.var 2) (.o1 .len (.var 0))) (.need (.o2 .le (.int .i64 0) (.var 2)) (.call none (.fn 77) [] [.agg [.int .i64, .int .i64]] (.need (.o2 .le (.o1 .len (.o2 .app (.var 1) (.push .nils (.lcons (.idx (.var 0) (.var 2) 0 (.int .i64)) (.lcons (.idx (.var 0) (.var 2) 1 (.int .i64)) (.lcons (.var 3) (.lcons (.var 4) .lnil))))))) (.int .i64 4398046511104)) (.again 0 [.o2 .app (.var 1) (.push .nils (.lcons (.idx (.var 0) (.var 2) 0 (.int .i64)) (.lcons (.idx (.var 0) (.var 2) 1 (.int .i64)) (.lcons (.var 3) (.lcons (.var 4) .lnil))))), .o2 (.add .i64) (.var 2) (.int .i64 1)])))) (.ret [.own 4 (.var 1)])))
theorem t71_ok : fnO Tryz.prog mdA 71 [.cell (.slice [.int .i64, .int .i64])] = t71 := by kernel_rfl
theorem c71 : callable Tryz.prog 71 = true := by kernel_rfl
noncomputable def t72 : R := .call none (.fn 94) [.lcons (.var 0) (.lcons (.var 1) (.lcons (.var 2) (.lcons (.var 3) (.lcons (.var 4) (.lcons (.var 5) (.lcons (.var 6) (.lcons (.var 7) (.lcons (.var 8) .lnil))))))))] [.cell (.int .i64)] (.ite (.o2 .ne (.var 9) (.int .i64 0)) (.ret [.d .nils, .d (.var 9)]) (.fact (.o2 .le (.o1 .len (.var 2)) (.int .i64 140737488355328)) (.loop 0 [.nils, .int .i64 0] [.slice [.int .i64, .int .i64, .int .i64, .int .i64], .int .i64] (.ite (.o2 .lt (.var 11) (.o1 .len (.var 2))) (.need (.o2 .le (.int .i64 0) (.var 11)) (.need (.o2 .le (.o1 .len (.o2 .app (.var 10) (.push .nils (.lcons (.idx (.var 2) (.var 11) 0 (.int .i64)) (.lcons (.idx (.var 2) (.var 11) 1 (.int .i64)) (.lcons (.idx (.var 2) (.var 11) 2 (.int .i64)) (.lcons (.idx (.var 2) (.var 11) 3 (.int .i64)) .lnil))))))) (.int .i64 4398046511104)) (.again 0 [.o2 .app (.var 10) (.push .nils (.lcons (.idx (.var 2) (.var 11) 0 (.int .i64)) (.lcons (.idx (.var 2) (.var 11) 1 (.int .i64)) (.lcons (.idx (.var 2) (.var 11) 2 (.int .i64)) (.lcons (.idx (.var 2) (.var 11) 3 (.int .i64)) .lnil))))), .o2 (.add .i64) (.var 11) (.int .i64 1)]))) (.ret [.own 4 (.var 10), .d (.int .i64 0)])))))
theorem t72_ok : fnO Tryz.prog mdA 72 [.agg [.str, .str, .slice [.int .i64, .int .i64, .int .i64, .int .i64, .int .i64], .slice [.int .i64, .int .i64, .int .i64, .int .i64, .int .i64, .int .i64], .bool, .bool, .int .i64, .str, .int .i64]] = t72 := by kernel_rfl
theorem c72 : callable Tryz.prog 72 = true := by kernel_rfl
noncomputable def t73 : R := .call none (.fn 139) [.var 0] [.own [.int .i64, .int .i64, .int .i64, .int .i64]] (.fact (.o2 .le (.o1 .len (.var 1)) (.int .i64 140737488355328)) (.loop 0 [.int .i64 0, .var 2] [.int .i64, .slice [.int .i64, .int .i64, .int .i64, .int .i64]] (.ite (.o2 .lt (.var 3) (.o1 .len (.var 1))) (.need (.o2 .le (.int .i64 0) (.var 3)) (.fact (.o2 .le (.o1 .len (.var 4)) (.int .i64 140737488355328)) (.loop 1 [.int .i64 0, .var 4] [.int .i64, .slice [.int .i64, .int .i64, .int .i64, .int .i64]] (.ite (.o2 .lt (.var 5) (.o1 .len (.var 4))) (.need (.o2 .le (.int .i64 0) (.var 5)) (.need (.o2 .lt (.var 5) (.o1 .len (.var 6))) (.lets [.ite (.o2 .band (.o2 .eq (.idx (.var 6) (.var 5) 0 (.int .i64)) (.idx (.var 1) (.var 3) 0 (.int .i64))) (.o2 .band (.o2 .eq (.idx (.var 6) (.var 5) 1 (.int .i64)) (.idx (.var 1) (.var 3) 1 (.int .i64))) (.bool true))) (.upd (.var 6) (.var 5) 0 (.lcons (.idx (.var 1) (.var 3) 0 (.int .i64)) (.lcons (.idx (.var 1) (.var 3) 1 (.int .i64)) (.lcons (.idx (.var 1) (.var 3) 2 (.int .i64)) (.lcons (.idx (.var 1) (.var 3) 3 (.int .i64)) .lnil))))) (.var 6)] (.again 1 [.o2 (.add .i64) (.var 5) (.int .i64 1), .var 7])))) (.again 0 [.o2 (.add .i64) (.var 3) (.int .i64 1), .var 6]))))) (.ret [.own 4 (.var 4)]))))
theorem t73_ok : fnO Tryz.prog mdA 73 [.cell (.slice [.int .i64, .int .i64, .int .i64, .int .i64]), .cell (.slice [.int .i64, .int .i64, .int .i64, .int .i64])] = t73 := by kernel_rfl
theorem c73 : callable Tryz.prog 73 = true := by kernel_rfl
noncomputable def t74 : R := .fact (.o2 .le (.o1 .len (.var 0)) (.int .i64 140737488355328)) (.fact (.o2 .le (.o1 .len (.var 1)) (.int .i64 140737488355328)) (.ite (.o2 .ne (.o1 .len (.var 0)) (.o1 .len (.var 1))) (.ret [.d (.bool false)]) (.loop 0 [.int .i64 0] [.int .i64] (.ite (.o2 .lt (.var 2) (.o1 .len (.var 0))) (.need (.o2 .le (.int .i64 0) (.var 2)) (.need (.o2 .lt (.var 2) (.o1 .len (.var 1))) (.ite (.o1 .not (.o2 .band (.o2 .band (.o2 .eq (.idx (.var 0) (.var 2) 0 (.int .i64)) (.idx (.var 1) (.var 2) 0 (.int .i64))) (.o2 .band (.o2 .eq (.idx (.var 0) (.var 2) 1 (.int .i64)) (.idx (.var 1) (.var 2) 1 (.int .i64))) (.bool true))) (.o2 .band (.o2 .band (.o2 .eq (.idx (.var 0) (.var 2) 2 (.int .i64)) (.idx (.var 1) (.var 2) 2 (.int .i64))) (.o2 .band (.o2 .eq (.idx (.var 0) (.var 2) 3 (.int .i64)) (.idx (.var 1) (.var 2) 3 (.int .i64))) (.bool true))) (.bool true)))) (.ret [.d (.bool false)]) (.again 0 [.o2 (.add .i64) (.var 2) (.int .i64 1)])))) (.ret [.d (.bool true)])))))
theorem t74_ok : fnO Tryz.prog mdA 74 [.cell (.slice [.int .i64, .int .i64, .int .i64, .int .i64]), .cell (.slice [.int .i64, .int .i64, .int .i64, .int .i64])] = t74 := by kernel_rfl
theorem c74 : callable Tryz.prog 74 = true := by kernel_rfl
noncomputable def t139 : R := .guess (.o2 .eq (.o1 .len (.var 0)) (.int .i64 0)) (.ite (.var 1) (.ret [.own 4 .nils]) (.need (.o2 .le (.o1 .len (.o2 .app .nils (.var 0))) (.int .i64 4398046511104)) (.ret [.own 4 (.o2 .app .nils (.var 0))])))
theorem t139_ok : fnO Tryz.prog mdA 139 [.cell (.slice [.int .i64, .int .i64, .int .i64, .int .i64])] = t139 := by kernel_rfl
theorem c139 : callable Tryz.prog 139 = true := by kernel_rfl
def homesL (ps : List Par) : List Ent := ps.map fun p => ⟨p, hval⟩
def entsOf (ms : List Mov) : List Ent := ms.map fun m => ⟨m.pa, m.va⟩
def put1 (a : List Ent) (x : Ent) : List Ent := a.map fun y => if y.pa = x.pa then x else y
def overL (a es : List Ent) : List Ent := es.foldl put1 a
def pickE (es : List Ent) (y : Ent) : Ent := (es.find? fun x => decide (x.pa = y.pa)).getD y
theorem overL_map : ∀ {es a : List Ent}, (es.map (·.pa)).Nodup → overL a es = a.map (pickE es)
  | [], a, _ => by
    have : pickE [] = id := by funext y; rfl
    rw [this]; simp [overL]
  | x :: es, a, h => by
    simp only [List.map_cons, List.nodup_cons] at h
    show overL (put1 a x) es = _
    rw [overL_map h.2, put1, List.map_map]
    refine List.map_congr_left fun y _ => ?_
    simp only [Function.comp]
    by_cases hy : y.pa = x.pa
    · rw [if_pos hy]
      have h1 : es.find? (fun z => decide (z.pa = x.pa)) = none := by
        rw [List.find?_eq_none]
        intro z hz he
        exact h.1 (List.mem_map.2 ⟨z, hz, by simpa using he⟩)
      simp [pickE, h1, hy]
    · rw [if_neg hy]
      have h2 : ¬ x.pa = y.pa := fun e => hy e.symm
      simp [pickE, List.find?_cons, h2]
theorem nodup_rising {ps : List Par} (h : RisingP ps) : ps.Nodup := h.imp fun {a b} hab e => by subst e; rw [before_irr] at hab; cases hab
theorem nodup_moves {ms : List Mov} (h : RisingM ms) : ((entsOf ms).map (·.pa)).Nodup := by
  simp only [entsOf, List.map_map]
  rw [List.Nodup, List.pairwise_map]
  exact h.imp fun {a b} hab e => by simp only [Function.comp] at e; rw [e, before_irr] at hab; cases hab
theorem pick_ents (ms : List Mov) (p : Par) (v : Val) : pickE (entsOf ms) ⟨p, v⟩ = ⟨p, ((mfind ms p).map (·.va)).getD v⟩ := by
  simp only [pickE, entsOf, List.find?_map, mfind]
  have : ((fun x : Ent => decide (x.pa = p)) ∘ fun m : Mov => (⟨m.pa, m.va⟩ : Ent)) = fun m => decide (m.pa = p) := rfl
  rw [this]
  cases hf : ms.find? fun m => decide (m.pa = p) with
  | none => rfl
  | some m =>
    have := List.find?_some hf
    simp only [decide_eq_true_eq] at this
    simp [← this]
theorem valued_succ {cs : List Cue} {n : Nat} (hn : n < cs.length) (p : Par) : valued cs p (n + 1) = ((mfind cs[n].moves p).map (·.va)).getD (if cs[n].block then hval else valued cs p n) := by
  have hb : backL cs (n + 1) = cs[n] :: if cs[n].block then [] else backL cs n := by simp [backL, hn]
  simp only [valued, lastM, hb, List.findSome?_cons]
  cases mfind cs[n].moves p with
  | some m => rfl
  | none =>
    by_cases h : cs[n].block = true
    · simp [h]
    · simp [h]
theorem look_runs {l : Lis} (hR : RightT l) {n : Nat} (hn : n < l.cues.length) :
    overL (if l.cues[n].block then homesL (movedL l.cues) else lookL l.cues n) (entsOf l.cues[n].moves) = lookL l.cues (n + 1) := by
  have e : (if l.cues[n].block then homesL (movedL l.cues) else lookL l.cues n) = (movedL l.cues).map fun p => ⟨p, if l.cues[n].block then hval else valued l.cues p n⟩ := by
    by_cases h : l.cues[n].block = true
    · simp [h, homesL]
    · simp [h, lookL]
  rw [e, overL_map (nodup_moves (hR.moves _ (List.getElem_mem hn)).rising), List.map_map, lookL]
  refine List.map_congr_left fun p _ => ?_
  simp only [Function.comp]
  rw [pick_ents, valued_succ hn]
theorem look_zero (cs : List Cue) : lookL cs 0 = homesL (movedL cs) := by simp [lookL, homesL, valued, lastM, backL]
theorem find_self {ps : List Par} {p : Par} (h : p ∈ ps) : (ps.find? fun q => decide (q = p)) = some p := by
  cases hf : ps.find? fun q => decide (q = p) with
  | none =>
    rw [List.find?_eq_none] at hf
    have := hf p h
    simp at this
  | some q =>
    have := List.find?_some hf
    simp only [decide_eq_true_eq] at this
    rw [this]
theorem diff_map (f g : Par → Val) : ∀ ps : List Par, diffE (ps.map fun p => ⟨p, f p⟩) (ps.map fun p => ⟨p, g p⟩) = (ps.filter fun p => decide (f p ≠ g p)).map fun p => ⟨p, g p⟩
  | [] => rfl
  | p :: ps => by
    simp only [List.map_cons, diffE]
    by_cases h : f p = g p
    · rw [if_pos h, diff_map f g ps]; simp [h]
    · rw [if_neg h, diff_map f g ps]; simp [h]
theorem look_steps (cs : List Cue) (n k : Nat) : overL (lookL cs n) (diffE (lookL cs n) (lookL cs k)) = lookL cs k := by
  have hnd := nodup_rising (rising_movedL cs)
  have e := diff_map (fun p => valued cs p n) (fun p => valued cs p k) (movedL cs)
  rw [show lookL cs n = (movedL cs).map fun p => ⟨p, valued cs p n⟩ from rfl, show lookL cs k = (movedL cs).map fun p => ⟨p, valued cs p k⟩ from rfl, e]
  rw [overL_map (by
    simp only [List.map_map]
    rw [List.Nodup, List.pairwise_map]
    exact (hnd.filter _).imp fun {a b} hab => hab), List.map_map]
  refine List.map_congr_left fun p hp => ?_
  simp only [Function.comp, pickE, List.find?_map]
  have e2 : ((fun x : Ent => decide (x.pa = p)) ∘ fun q : Par => (⟨q, valued cs q k⟩ : Ent)) = fun q => decide (q = p) := rfl
  rw [e2]
  by_cases h : valued cs p n = valued cs p k
  · have : ((movedL cs).filter fun p => decide (valued cs p n ≠ valued cs p k)).find? (fun q => decide (q = p)) = none := by
      rw [List.find?_eq_none]
      intro q hq he
      simp only [decide_eq_true_eq] at he
      subst he
      have := (List.mem_filter.1 hq).2
      simp [h] at this
    rw [this]; simp [h]
  · rw [find_self (List.mem_filter.2 ⟨hp, by simpa using h⟩)]; rfl
theorem over_put1_len (a : List Ent) (x : Ent) : (put1 a x).length = a.length := by simp [put1]
theorem good18_ok : Contract Tryz.prog 70 fun args K => ∃ (l : Lis), l.Ok ∧ args = [.agg l.enc] ∧ ∀ b : Bool, (b = true → checkL order05 l = 0) → K [.d (.bool b)] := by
  refine .of c70 t70_ok ?_
  rintro _ K ⟨l, hl, rfl, hK⟩ hsm
  refine ⟨l.enc, rfl, Lis.has hl, ?_⟩
  refine denR_call few18_ok ⟨l, hl, by simp only [zz, RT.den, den, O1.eval, O2.eval, D.eqb, Ags.none, reduceCtorEq, forall_const, if_true, if_false, ite_true, ite_false, D.sub, D.cell, D.elem, D.cells, D.padd, D.list, D.push, Lis.enc], fun b => ⟨[.bool b], rfl, ?_⟩⟩
  cases b with
  | true =>
    refine denR_gcall check17_ok true [.int .i64 (checkL order05 l)] rfl (fun _ => ⟨l, hl, by simp only [zz, RT.den, den, O1.eval, O2.eval, D.eqb, Ags.none, reduceCtorEq, forall_const, if_true, if_false, ite_true, ite_false, D.sub, D.cell, D.elem, D.cells, D.padd, D.list, D.push, Lis.enc], rfl⟩) (fun h => by cases h) ?_
    simp only [zz, RT.den, den, O1.eval, O2.eval, D.eqb, Ags.none, reduceCtorEq, forall_const, if_true, if_false, ite_true, ite_false, D.sub, D.cell, D.elem, D.cells, D.padd, D.list, D.push, Lis.enc]
    have := hK (decide (checkL order05 l = 0)) (by simp)
    simpa using this
  | false =>
    refine denR_gcall check17_ok false [.int .i64 0] rfl (fun h => by cases h) (fun _ => rfl) ?_
    simp only [zz, RT.den, den, O1.eval, O2.eval, D.eqb, Ags.none, reduceCtorEq, forall_const, if_true, if_false, ite_true, ite_false, D.sub, D.cell, D.elem, D.cells, D.padd, D.list, D.push, Lis.enc]
    simpa using hK false (by simp)
theorem homes_ok : Contract Tryz.prog 71 fun args K => ∃ (ps : List Par), (∀ p ∈ ps, p.Ok) ∧ ps.length ≤ 10000 ∧ args = [.slice (ps.map Par.enc)] ∧ K [.own 4 ((homesL ps).map Ent.enc)] := by
  refine .of c71 t71_ok ?_
  rintro _ K ⟨ps, hps, hlen, rfl, hK⟩ hsm
  refine ⟨[.slice (ps.map Par.enc)], rfl, ⟨pars_has hps, trivial⟩, ?_⟩
  simp only [zz, RT.den, den, O1.eval, O2.eval, D.eqb, Ags.none, reduceCtorEq, forall_const, if_true, if_false, ite_true, ite_false, D.sub, D.cell, D.elem, D.cells, D.padd, D.list, D.push, t71, List.length_map]
  intro hcap
  refine loop_goI ps (fun _ ps (acc : List Ent) => acc ++ homesL ps) (fun i acc => [.slice (acc.map Ent.enc), .int .i64 i]) (fun i acc => acc.length = i) [] (homesL ps) rfl rfl 1 (fun _ _ => rfl) rfl ?_ ?_
  · intro i hi acc hI hgo
    simp only [zz, RT.den, den, O1.eval, O2.eval, D.eqb, Ags.none, reduceCtorEq, forall_const, if_true, if_false, ite_true, ite_false, D.sub, D.cell, D.elem, D.cells, D.padd, D.list, D.push, List.length_map, hi, getD_map hi, Par.enc]
    refine ⟨by omega, ?_⟩
    refine denR_call home15_ok ⟨rfl, _, rfl, ?_⟩
    simp only [zz, RT.den, den, O1.eval, O2.eval, D.eqb, Ags.none, reduceCtorEq, forall_const, if_true, if_false, ite_true, ite_false, D.sub, D.cell, D.elem, D.cells, D.padd, D.list, D.push, getD_map hi, Par.enc, Val.enc, List.length_append, List.length_map]
    refine ⟨by simp; omega, acc ++ [⟨ps[i], hval⟩], ⟨by simp [Ent.enc], by rw [wr64_eq] <;> omega⟩, by simp [hI], by simp only [homesL, List.append_assoc, List.singleton_append, List.map_cons, List.map_drop] at hgo ⊢; exact hgo⟩
  · intro acc hI hgo
    simp only [zz, RT.den, den, O1.eval, O2.eval, D.eqb, Ags.none, reduceCtorEq, forall_const, if_true, if_false, ite_true, ite_false, D.sub, D.cell, D.elem, D.cells, D.padd, D.list, D.push, List.length_map, Nat.lt_irrefl]
    simp only [homesL, List.map_nil, List.append_nil] at hgo
    rw [hgo]; exact hK
theorem entries_ok : Contract Tryz.prog 72 fun args K => ∃ (c : Cue), c.Ok ∧ check16 c = 0 ∧ args = [.agg c.enc] ∧ K [.own 4 ((entsOf c.moves).map Ent.enc), .d (.int .i64 0)] := by
  refine .of c72 t72_ok ?_
  rintro _ K ⟨c, hc, hck, rfl, hK⟩ hsm
  refine ⟨c.enc, rfl, Cue.has hc, ?_⟩
  refine denR_call ccheck_ok ⟨c, hc, by simp only [zz, RT.den, den, O1.eval, O2.eval, D.eqb, Ags.none, reduceCtorEq, forall_const, if_true, if_false, ite_true, ite_false, D.sub, D.cell, D.elem, D.cells, D.padd, D.list, D.push, Cue.enc], _, rfl, ?_⟩
  have hlen := (rightM_of (check16_moves hck)).len
  simp only [zz, RT.den, den, O1.eval, O2.eval, D.eqb, Ags.none, reduceCtorEq, forall_const, if_true, if_false, ite_true, ite_false, D.sub, D.cell, D.elem, D.cells, D.padd, D.list, D.push, Cue.enc, hck, List.length_map]
  intro hcap
  refine loop_goI c.moves (fun _ ms (acc : List Ent) => acc ++ entsOf ms) (fun i acc => [.slice (acc.map Ent.enc), .int .i64 i]) (fun i acc => acc.length = i) [] (entsOf c.moves) rfl rfl 1 (fun _ _ => rfl) rfl ?_ ?_
  · intro i hi acc hI hgo
    simp only [zz, RT.den, den, O1.eval, O2.eval, D.eqb, Ags.none, reduceCtorEq, forall_const, if_true, if_false, ite_true, ite_false, D.sub, D.cell, D.elem, D.cells, D.padd, D.list, D.push, List.length_map, hi, getD_map hi, Mov.enc, List.length_append]
    refine ⟨by omega, by simp; omega, acc ++ [⟨c.moves[i].pa, c.moves[i].va⟩], ⟨by simp [Ent.enc], by rw [wr64_eq] <;> omega⟩, by simp [hI], by simp only [entsOf, List.append_assoc, List.singleton_append, List.map_cons, List.map_drop] at hgo ⊢; exact hgo⟩
  · intro acc hI hgo
    simp only [zz, RT.den, den, O1.eval, O2.eval, D.eqb, Ags.none, reduceCtorEq, forall_const, if_true, if_false, ite_true, ite_false, D.sub, D.cell, D.elem, D.cells, D.padd, D.list, D.push, List.length_map, Nat.lt_irrefl]
    simp only [entsOf, List.map_nil, List.append_nil] at hgo
    rw [hgo]; exact hK
theorem cloneE_ok : Contract Tryz.prog 139 fun args K => ∃ (a : List Ent), (∀ e ∈ a, e.Ok) ∧ a.length ≤ 10000 ∧ args = [.slice (a.map Ent.enc)] ∧ K [.own 4 (a.map Ent.enc)] := by
  refine .of c139 t139_ok ?_
  rintro _ K ⟨a, ha, hlen, rfl, hK⟩ hsm
  refine ⟨[.slice (a.map Ent.enc)], rfl, ⟨ents_has ha, trivial⟩, ?_⟩
  unfold t139
  simp only [denR]
  intro b hb
  simp only [zz, RT.den, den, O1.eval, O2.eval, D.eqb, Ags.none, reduceCtorEq, forall_const, if_true, if_false, ite_true, ite_false, D.sub, D.cell, D.elem, D.cells, D.padd, D.list, D.push, List.length_map]
  cases b with
  | true =>
    have := hb rfl
    simp only [zz, RT.den, den, O1.eval, O2.eval, D.eqb, Ags.none, reduceCtorEq, forall_const, if_true, if_false, ite_true, ite_false, D.sub, D.cell, D.elem, D.cells, D.padd, D.list, D.push, List.length_map] at this
    have h0 : a = [] := List.eq_nil_of_length_eq_zero (by omega)
    subst h0
    exact ⟨fun _ => hK, fun h => by simp at h⟩
  | false =>
    exact ⟨fun h => by simp at h, fun _ => ⟨by omega, hK⟩⟩
theorem setE {l : List Ent} {k : Nat} (hk : k < l.length) (e : Ent) : ((l.map Ent.enc).modify k fun x => setCells x 0 e.enc) = (l.set k e).map Ent.enc := by
  apply List.ext_getElem?
  intro i
  rw [List.getElem?_modify, List.getElem?_map, List.getElem?_map, List.getElem?_set]
  by_cases h : k = i
  · subst h
    simp [hk, setCells, Ent.enc]
  · simp [h]
theorem put1_step {a : List Ent} {x : Ent} {k : Nat} (hk : k < a.length) : (if a[k].pa = x.pa then ((put1 a x).take k ++ a.drop k).set k x else (put1 a x).take k ++ a.drop k) = (put1 a x).take (k + 1) ++ a.drop (k + 1) := by
  have hl : (put1 a x).length = a.length := over_put1_len a x
  have h1 : (put1 a x).take (k + 1) = (put1 a x).take k ++ [(put1 a x)[k]'(by omega)] := by rw [List.take_succ_eq_append_getElem (by omega)]
  have h2 : a.drop k = a[k] :: a.drop (k + 1) := List.drop_eq_getElem_cons hk
  have h3 : (put1 a x)[k]'(by omega) = if a[k].pa = x.pa then x else a[k] := by simp [put1]
  have h4 : ((put1 a x).take k).length = k := by simp; omega
  rw [h1, h2, h3]
  split
  · rw [List.set_append_right _ _ (by omega), h4, Nat.sub_self]; simp only [List.append_assoc, List.cons_append, List.nil_append]; congr 1
  · simp
theorem over_ok : Contract Tryz.prog 73 fun args K => ∃ (a b : List Ent), (∀ e ∈ a, e.Ok) ∧ (∀ e ∈ b, e.Ok) ∧ a.length ≤ 10000 ∧ args = [.slice (a.map Ent.enc), .slice (b.map Ent.enc)] ∧ K [.own 4 ((overL a b).map Ent.enc)] := by
  refine .of c73 t73_ok ?_
  rintro _ K ⟨a, b, ha, hb, hlen, rfl, hK⟩ hsm
  refine ⟨[.slice (a.map Ent.enc), .slice (b.map Ent.enc)], rfl, ⟨ents_has ha, ents_has hb, trivial⟩, ?_⟩
  refine denR_call cloneE_ok ⟨a, ha, hlen, by simp only [zz, RT.den, den, O1.eval, O2.eval, D.eqb, Ags.none, reduceCtorEq, forall_const, if_true, if_false, ite_true, ite_false, D.sub, D.cell, D.elem, D.cells, D.padd, D.list, D.push], _, rfl, ?_⟩
  simp only [zz, RT.den, den, O1.eval, O2.eval, D.eqb, Ags.none, reduceCtorEq, forall_const, if_true, if_false, ite_true, ite_false, D.sub, D.cell, D.elem, D.cells, D.padd, D.list, D.push, List.length_map]
  intro hcap
  refine loop_goI b (fun _ bs (acc : List Ent) => overL acc bs) (fun i acc => [.int .i64 i, .slice (acc.map Ent.enc)]) (fun i acc => acc.length = a.length) a (overL a b) rfl rfl 0 (fun _ _ => rfl) rfl ?_ ?_
  · intro i hi acc hI hgo
    simp only [zz, RT.den, den, O1.eval, O2.eval, D.eqb, Ags.none, reduceCtorEq, forall_const, if_true, if_false, ite_true, ite_false, D.sub, D.cell, D.elem, D.cells, D.padd, D.list, D.push, List.length_map, hi, getD_map hi, Ent.enc]
    refine ⟨by omega, fun hcap2 => ?_⟩
    refine loop_goI acc (fun _ _ (_ : List Ent) => ()) (fun k acc2 => [.int .i64 k, .slice (acc2.map Ent.enc)]) (fun k acc2 => acc2 = (put1 acc b[i]).take k ++ acc.drop k) acc () rfl (by simp) 0 (fun _ _ => rfl) (by simp only [zz, RT.den, den, O1.eval, O2.eval, D.eqb, Ags.none, reduceCtorEq, forall_const, if_true, if_false, ite_true, ite_false, D.sub, D.cell, D.elem, D.cells, D.padd, D.list, D.push]; rfl) ?_ ?_
    · rintro k hk acc2 hacc2 _
      have hl2 : acc2.length = acc.length := by rw [hacc2]; simp [over_put1_len]; omega
      have hk2 : k < acc2.length := by omega
      have hget : acc2[k] = acc[k] := by
        have h4 : ((put1 acc b[i]).take k).length = k := by simp [over_put1_len]; omega
        simp only [hacc2]
        rw [List.getElem_append_right (by omega)]
        simp [h4]
      have hst := put1_step (x := b[i]) hk
      rw [← hacc2] at hst
      have hset := setE hk2 b[i]
      simp only [Ent.enc] at hset
      simp only [zz, RT.den, den, O1.eval, O2.eval, D.eqb, Ags.none, reduceCtorEq, forall_const, if_true, if_false, ite_true, ite_false, D.sub, D.cell, D.elem, D.cells, D.padd, D.list, D.push, List.length_map, hk, hk2, getD_map hi, getD_map hk2, Ent.enc, hget, D.upd, hset]
      refine ⟨by omega, _, ⟨by rw [wr64_eq] <;> omega, ?_⟩, hst⟩
      by_cases hp : acc[k].pa = b[i].pa
      · rw [if_pos hp]; simp [hp]
      · rw [if_neg hp]
        have : ¬ (acc[k].pa.ch = b[i].pa.ch ∧ acc[k].pa.at_ = b[i].pa.at_) := fun e => hp (Par.ext' e.1 e.2)
        simp [this]
    · rintro acc2 hacc2 _
      simp only [zz, RT.den, den, O1.eval, O2.eval, D.eqb, Ags.none, reduceCtorEq, forall_const, if_true, if_false, ite_true, ite_false, D.sub, D.cell, D.elem, D.cells, D.padd, D.list, D.push, List.length_map, Nat.lt_irrefl]
      have e2 : acc2 = put1 acc b[i] := by
        rw [hacc2, List.drop_length, List.append_nil, List.take_of_length_le (by rw [over_put1_len]; exact Nat.le_refl _)]
      refine ⟨rfl, acc2, ?_, by rw [e2, over_put1_len]; exact hI, ?_⟩
      · rw [wr64_eq (by omega)]; rfl
      · rw [e2]; exact hgo
  · intro acc hI hgo
    simp only [zz, RT.den, den, O1.eval, O2.eval, D.eqb, Ags.none, reduceCtorEq, forall_const, if_true, if_false, ite_true, ite_false, D.sub, D.cell, D.elem, D.cells, D.padd, D.list, D.push, List.length_map, Nat.lt_irrefl]
    have hgo : acc = overL a b := hgo
    rw [hgo]; exact hK
theorem eqEnts_ok : Contract Tryz.prog 74 fun args K => ∃ (a : List Ent), (∀ e ∈ a, e.Ok) ∧ args = [.slice (a.map Ent.enc), .slice (a.map Ent.enc)] ∧ K [.d (.bool true)] := by
  refine .of c74 t74_ok ?_
  rintro _ K ⟨a, ha, rfl, hK⟩ hsm
  refine ⟨[.slice (a.map Ent.enc), .slice (a.map Ent.enc)], rfl, ⟨ents_has ha, ents_has ha, trivial⟩, ?_⟩
  simp only [zz, RT.den, den, O1.eval, O2.eval, D.eqb, Ags.none, reduceCtorEq, forall_const, if_true, if_false, ite_true, ite_false, D.sub, D.cell, D.elem, D.cells, D.padd, D.list, D.push, t74, List.length_map]
  intro hcap _
  refine loop_go a (fun _ _ (_ : Unit) => ()) (fun i _ => [.int .i64 i]) () () rfl 0 (fun _ _ => rfl) rfl ?_ ?_
  · intro i hi _ _
    simp only [zz, RT.den, den, O1.eval, O2.eval, D.eqb, Ags.none, reduceCtorEq, forall_const, if_true, if_false, ite_true, ite_false, D.sub, D.cell, D.elem, D.cells, D.padd, D.list, D.push, List.length_map, hi, getD_map hi, Ent.enc]
    refine ⟨by omega, fun h => by simp at h, ?_⟩
    exact ⟨(), by rw [wr64_eq] <;> omega⟩
  · intro _ _
    simp only [zz, RT.den, den, O1.eval, O2.eval, D.eqb, Ags.none, reduceCtorEq, forall_const, if_true, if_false, ite_true, ite_false, D.sub, D.cell, D.elem, D.cells, D.padd, D.list, D.push, List.length_map, Nat.lt_irrefl]
    exact hK
theorem cue18_at {l : Lis} (h : checkL order05 l = 0) {i : Nat} (hi : i < l.cues.length) : cue18 l l.cues[i].num = 0 ∧ upto l l.cues[i].num = i + 1 ∧ place l.cues l.cues[i].num = i := by
  have hR := rightL_of h
  have hp : ¬ place l.cues l.cues[i].num < 0 := fun hn => place_neg.1 hn _ (List.getElem_mem hi) rfl
  obtain ⟨j, hj, e1, e2, _⟩ := place_pos hp
  have hij : j = i := by
    rcases Nat.lt_trichotomy j i with h1 | h1 | h1
    · exact absurd (by simp [valOf, e2]) (rising_ne hR.rising hj hi (by omega))
    · exact h1
    · exact absurd (by simp [valOf, e2]) (rising_ne hR.rising hj hi (by omega))
  subst hij
  refine ⟨?_, by simp [upto, e1], e1⟩
  unfold cue18 numbered18
  rw [if_neg (by simp [h]), if_neg (by simp [hR.num _ (List.getElem_mem hi)]), if_neg hp]
end Go.Sx.La
set_option maxRecDepth 100000
namespace Go.Sx.La
open Go Go.Sx Go.RowKit Go.Proofs
noncomputable def t13 : R := .call none (.fn 70) [.lcons (.var 0) (.lcons (.var 1) (.lcons (.var 2) .lnil))] [.cell .bool] (.ite (.o1 .not (.var 3)) (.call none (.fn 47) [] [.cell .bool] (.ret [.d (.var 4)])) (.call none (.fn 55) [.lcons (.var 0) (.lcons (.var 1) (.lcons (.var 2) .lnil))] [.cell (.slice [.int .i64, .int .i64]), .cell (.int .i64)] (.ite (.o2 .ne (.var 5) (.int .i64 0)) (.ret [.d (.bool false)]) (.call none (.fn 71) [.var 4] [.cell (.slice [.int .i64, .int .i64, .int .i64, .int .i64])] (.fact (.o2 .le (.o1 .len (.var 2)) (.int .i64 140737488355328)) (.loop 0 [.var 6, .int .i64 0] [.slice [.int .i64, .int .i64, .int .i64, .int .i64], .int .i64] (.ite (.o2 .lt (.var 8) (.o1 .len (.var 2))) (.need (.o2 .le (.int .i64 0) (.var 8)) (.ite (.idx (.var 2) (.var 8) 4 .bool) (.call none (.fn 71) [.var 4] [.cell (.slice [.int .i64, .int .i64, .int .i64, .int .i64])] (.call none (.fn 72) [.lcons (.idx (.var 2) (.var 8) 0 .str) (.lcons (.idx (.var 2) (.var 8) 1 .str) (.lcons (.idx (.var 2) (.var 8) 2 (.slice [.int .i64, .int .i64, .int .i64, .int .i64, .int .i64])) (.lcons (.idx (.var 2) (.var 8) 3 (.slice [.int .i64, .int .i64, .int .i64, .int .i64, .int .i64, .int .i64])) (.lcons (.idx (.var 2) (.var 8) 4 .bool) (.lcons (.idx (.var 2) (.var 8) 5 .bool) (.lcons (.idx (.var 2) (.var 8) 6 (.int .i64)) (.lcons (.idx (.var 2) (.var 8) 7 .str) (.lcons (.idx (.var 2) (.var 8) 8 (.int .i64)) .lnil))))))))] [.cell (.slice [.int .i64, .int .i64, .int .i64, .int .i64]), .cell (.int .i64)] (.call none (.fn 57) [.lcons (.var 0) (.lcons (.var 1) (.lcons (.var 2) .lnil)), .idx (.var 2) (.var 8) 0 .str] [.cell (.slice [.int .i64, .int .i64, .int .i64, .int .i64]), .cell (.int .i64)] (.call none (.fn 73) [.var 9, .var 10] [.cell (.slice [.int .i64, .int .i64, .int .i64, .int .i64])] (.call (some (.o1 .not (.ite (.o2 .ne (.var 11) (.int .i64 0)) (.bool true) (.o2 .ne (.var 13) (.int .i64 0))))) (.fn 74) [.var 14, .var 12] [.cell .bool] (.ite (.ite (.ite (.o2 .ne (.var 11) (.int .i64 0)) (.bool true) (.o2 .ne (.var 13) (.int .i64 0))) (.bool true) (.o1 .not (.var 15))) (.ret [.d (.bool false)]) (.again 0 [.var 14, .o2 (.add .i64) (.var 8) (.int .i64 1)]))))))) (.call none (.fn 72) [.lcons (.idx (.var 2) (.var 8) 0 .str) (.lcons (.idx (.var 2) (.var 8) 1 .str) (.lcons (.idx (.var 2) (.var 8) 2 (.slice [.int .i64, .int .i64, .int .i64, .int .i64, .int .i64])) (.lcons (.idx (.var 2) (.var 8) 3 (.slice [.int .i64, .int .i64, .int .i64, .int .i64, .int .i64, .int .i64])) (.lcons (.idx (.var 2) (.var 8) 4 .bool) (.lcons (.idx (.var 2) (.var 8) 5 .bool) (.lcons (.idx (.var 2) (.var 8) 6 (.int .i64)) (.lcons (.idx (.var 2) (.var 8) 7 .str) (.lcons (.idx (.var 2) (.var 8) 8 (.int .i64)) .lnil))))))))] [.cell (.slice [.int .i64, .int .i64, .int .i64, .int .i64]), .cell (.int .i64)] (.call none (.fn 57) [.lcons (.var 0) (.lcons (.var 1) (.lcons (.var 2) .lnil)), .idx (.var 2) (.var 8) 0 .str] [.cell (.slice [.int .i64, .int .i64, .int .i64, .int .i64]), .cell (.int .i64)] (.call none (.fn 73) [.var 7, .var 9] [.cell (.slice [.int .i64, .int .i64, .int .i64, .int .i64])] (.call (some (.o1 .not (.ite (.o2 .ne (.var 10) (.int .i64 0)) (.bool true) (.o2 .ne (.var 12) (.int .i64 0))))) (.fn 74) [.var 13, .var 11] [.cell .bool] (.ite (.ite (.ite (.o2 .ne (.var 10) (.int .i64 0)) (.bool true) (.o2 .ne (.var 12) (.int .i64 0))) (.bool true) (.o1 .not (.var 14))) (.ret [.d (.bool false)]) (.again 0 [.var 13, .o2 (.add .i64) (.var 8) (.int .i64 1)])))))))) (.call none (.fn 47) [] [.cell .bool] (.ret [.d (.var 9)])))))))))
theorem t13_ok : fnO Tryz.prog mdA 13 [.agg [.int .i64, .int .i64, .slice [.str, .str, .slice [.int .i64, .int .i64, .int .i64, .int .i64, .int .i64], .slice [.int .i64, .int .i64, .int .i64, .int .i64, .int .i64, .int .i64], .bool, .bool, .int .i64, .str, .int .i64]]] = t13 := by kernel_rfl
theorem c13 : callable Tryz.prog 13 = true := by kernel_rfl
noncomputable def t14 : R := .call none (.fn 70) [.lcons (.var 0) (.lcons (.var 1) (.lcons (.var 2) .lnil))] [.cell .bool] (.ite (.o1 .not (.var 3)) (.call none (.fn 47) [] [.cell .bool] (.ret [.d (.var 4)])) (.call none (.fn 55) [.lcons (.var 0) (.lcons (.var 1) (.lcons (.var 2) .lnil))] [.cell (.slice [.int .i64, .int .i64]), .cell (.int .i64)] (.call none (.fn 59) [.lcons (.var 0) (.lcons (.var 1) (.lcons (.var 2) .lnil))] [.cell (.slice [.slice [.int .i64, .int .i64, .int .i64, .int .i64]]), .cell (.int .i64)] (.fact (.ite (.o1 .not (.ite (.o2 .ne (.var 5) (.int .i64 0)) (.bool true) (.o2 .ne (.var 7) (.int .i64 0)))) (.o2 .le (.o1 .len (.var 6)) (.int .i64 140737488355328)) (.bool true)) (.fact (.ite (.o1 .not (.ite (.o2 .ne (.var 5) (.int .i64 0)) (.bool true) (.o2 .ne (.var 7) (.int .i64 0)))) (.o2 .le (.o1 .len (.var 2)) (.int .i64 140737488355328)) (.bool true)) (.ite (.ite (.ite (.o2 .ne (.var 5) (.int .i64 0)) (.bool true) (.o2 .ne (.var 7) (.int .i64 0))) (.bool true) (.o2 .ne (.o1 .len (.var 6)) (.o1 .len (.var 2)))) (.ret [.d (.bool false)]) (.call none (.fn 71) [.var 4] [.cell (.slice [.int .i64, .int .i64, .int .i64, .int .i64])] (.fact (.o2 .le (.o1 .len (.var 2)) (.int .i64 140737488355328)) (.loop 0 [.var 8, .int .i64 0] [.slice [.int .i64, .int .i64, .int .i64, .int .i64], .int .i64] (.ite (.o2 .lt (.var 10) (.o1 .len (.var 2))) (.need (.o2 .le (.int .i64 0) (.var 10)) (.call none (.fn 52) [.lcons (.var 0) (.lcons (.var 1) (.lcons (.var 2) .lnil)), .idx (.var 2) (.var 10) 0 .str] [.cell (.slice [.int .i64, .int .i64, .int .i64, .int .i64]), .cell (.int .i64)] (.ite (.o2 .ne (.var 12) (.int .i64 0)) (.ret [.d (.bool false)]) (.call none (.fn 73) [.var 9, .var 11] [.cell (.slice [.int .i64, .int .i64, .int .i64, .int .i64])] (.fact (.o2 .le (.o1 .len (.var 13)) (.int .i64 140737488355328)) (.loop 1 [.int .i64 0, .int .i64 0] [.int .i64, .int .i64] (.ite (.o2 .lt (.var 15) (.o1 .len (.var 13))) (.need (.o2 .le (.int .i64 0) (.var 15)) (.need (.o2 .lt (.var 15) (.o1 .len (.var 9))) (.lets [.ite (.o1 .not (.o2 .band (.o2 .band (.o2 .eq (.idx (.var 13) (.var 15) 0 (.int .i64)) (.idx (.var 9) (.var 15) 0 (.int .i64))) (.o2 .band (.o2 .eq (.idx (.var 13) (.var 15) 1 (.int .i64)) (.idx (.var 9) (.var 15) 1 (.int .i64))) (.bool true))) (.o2 .band (.o2 .band (.o2 .eq (.idx (.var 13) (.var 15) 2 (.int .i64)) (.idx (.var 9) (.var 15) 2 (.int .i64))) (.o2 .band (.o2 .eq (.idx (.var 13) (.var 15) 3 (.int .i64)) (.idx (.var 9) (.var 15) 3 (.int .i64))) (.bool true))) (.bool true)))) (.o2 (.add .i64) (.var 14) (.int .i64 1)) (.var 14)] (.again 1 [.var 16, .o2 (.add .i64) (.var 15) (.int .i64 1)])))) (.fact (.o2 .le (.o1 .len (.var 11)) (.int .i64 140737488355328)) (.need (.ite (.o1 .not (.o2 .ne (.var 14) (.o1 .len (.var 11)))) (.o2 .lt (.var 10) (.o1 .len (.var 6))) (.bool true)) (.call (some (.o1 .not (.o2 .ne (.var 14) (.o1 .len (.var 11))))) (.fn 74) [.var 13, .idx (.var 6) (.var 10) 0 (.slice [.int .i64, .int .i64, .int .i64, .int .i64])] [.cell .bool] (.ite (.ite (.o2 .ne (.var 14) (.o1 .len (.var 11))) (.bool true) (.o1 .not (.var 16))) (.ret [.d (.bool false)]) (.again 0 [.var 13, .o2 (.add .i64) (.var 10) (.int .i64 1)])))))))))))) (.call none (.fn 47) [] [.cell .bool] (.ret [.d (.var 11)]))))))))))))
theorem t14_ok : fnO Tryz.prog mdA 14 [.agg [.int .i64, .int .i64, .slice [.str, .str, .slice [.int .i64, .int .i64, .int .i64, .int .i64, .int .i64], .slice [.int .i64, .int .i64, .int .i64, .int .i64, .int .i64, .int .i64], .bool, .bool, .int .i64, .str, .int .i64]]] = t14 := by kernel_rfl
theorem c14 : callable Tryz.prog 14 = true := by kernel_rfl
theorem lookR_at {l : Lis} (h : checkL order05 l = 0) {i : Nat} (hi : i < l.cues.length) : lookR l l.cues[i].num = (lookL l.cues (i + 1), 0) := by
  obtain ⟨h18, hup, hpl⟩ := cue18_at h hi
  unfold lookR; rw [if_neg (by simp [h18]), hup]
theorem stepsR_at {l : Lis} (h : checkL order05 l = 0) {i : Nat} (hi : i < l.cues.length) : stepsR l l.cues[i].num = (diffE (lookL l.cues i) (lookL l.cues (i + 1)), 0) := by
  obtain ⟨h18, hup, hpl⟩ := cue18_at h hi
  unfold stepsR; rw [if_neg (by simp [h18]), hup]; rfl
theorem ents_of_ok {ms : List Mov} (h : ∀ m ∈ ms, m.Ok) : ∀ e ∈ entsOf ms, e.Ok := by
  intro e he
  obtain ⟨m, hm, rfl⟩ := List.mem_map.1 he
  exact ⟨(h m hm).1, (h m hm).2.1⟩
theorem homes_Ok {ps : List Par} (h : ∀ p ∈ ps, p.Ok) : ∀ e ∈ homesL ps, e.Ok := by
  intro e he
  obtain ⟨p, hp, rfl⟩ := List.mem_map.1 he
  exact ⟨h p hp, ⟨show I64 (-1) from ⟨by decide, by decide⟩, show I64 0 from ⟨by decide, by decide⟩⟩⟩
theorem footR_right {l : Lis} (h : checkL order05 l = 0) : footR l = (movedL l.cues, 0) := by unfold footR; rw [if_neg (by simp [h])]
theorem sheetR_right {l : Lis} (h : checkL order05 l = 0) : sheetR l = (sheetL l.cues l.cues.length, 0) := by unfold sheetR; rw [if_neg (by simp [h])]
theorem law13_typed : Contract Tryz.prog 13 fun args K => ∃ (l : Lis), l.Ok ∧ args = [.agg l.enc] ∧ K [.d (.bool true)] := by
  refine .of c13 t13_ok ?_
  rintro _ K ⟨l, hl, rfl, hK⟩ hsm
  refine ⟨l.enc, rfl, Lis.has hl, ?_⟩
  refine denR_call good18_ok ⟨l, hl, by simp only [zz, RT.den, den, O1.eval, O2.eval, D.eqb, Ags.none, reduceCtorEq, forall_const, if_true, if_false, ite_true, ite_false, D.sub, D.cell, D.elem, D.cells, D.padd, D.list, D.push, Lis.enc], fun b hb => ⟨[.bool b], rfl, ?_⟩⟩
  simp only [zz, RT.den, den, O1.eval, O2.eval, D.eqb, Ags.none, reduceCtorEq, forall_const, if_true, if_false, ite_true, ite_false, D.sub, D.cell, D.elem, D.cells, D.padd, D.list, D.push, Lis.enc]
  refine ⟨fun _ => ?_, fun h => ?_⟩
  · refine denR_call awake18_ok ⟨rfl, _, rfl, ?_⟩
    simp only [zz, RT.den, den, O1.eval, O2.eval, D.eqb, Ags.none, reduceCtorEq, forall_const, if_true, if_false, ite_true, ite_false, D.sub, D.cell, D.elem, D.cells, D.padd, D.list, D.push]
    exact hK
  have hch := hb (by simpa using h)
  have hR := rightT_of hl hch
  have hmv : ∀ p ∈ movedL l.cues, p.Ok := fun p hp => (moved_par hR p hp).1
  have hml : (movedL l.cues).length ≤ 10000 := by have := moved_len hR; omega
  have hlen := hR.len
  refine denR_call footC_ok ⟨l, hl, by simp only [zz, RT.den, den, O1.eval, O2.eval, D.eqb, Ags.none, reduceCtorEq, forall_const, if_true, if_false, ite_true, ite_false, D.sub, D.cell, D.elem, D.cells, D.padd, D.list, D.push, Lis.enc], _, rfl, ?_⟩
  rw [footR_right hch]
  simp only [zz, RT.den, den, O1.eval, O2.eval, D.eqb, Ags.none, reduceCtorEq, forall_const, if_true, if_false, ite_true, ite_false, D.sub, D.cell, D.elem, D.cells, D.padd, D.list, D.push, Lis.enc]
  refine denR_call homes_ok ⟨movedL l.cues, hmv, hml, by simp only [zz, RT.den, den, O1.eval, O2.eval, D.eqb, Ags.none, reduceCtorEq, forall_const, if_true, if_false, ite_true, ite_false, D.sub, D.cell, D.elem, D.cells, D.padd, D.list, D.push, Lis.enc], _, rfl, ?_⟩
  simp only [zz, RT.den, den, O1.eval, O2.eval, D.eqb, Ags.none, reduceCtorEq, forall_const, if_true, if_false, ite_true, ite_false, D.sub, D.cell, D.elem, D.cells, D.padd, D.list, D.push, Lis.enc, List.length_map]
  intro hcap
  refine loop_goI l.cues (fun _ _ (_ : List Ent) => ()) (fun i now => [.slice (now.map Ent.enc), .int .i64 i]) (fun i now => now = lookL l.cues i) (homesL (movedL l.cues)) () rfl (look_zero _).symm 1 (fun _ _ => rfl) (by simp only [zz, RT.den, den, O1.eval, O2.eval, D.eqb, Ags.none, reduceCtorEq, forall_const, if_true, if_false, ite_true, ite_false, D.sub, D.cell, D.elem, D.cells, D.padd, D.list, D.push]; rfl) ?_ ?_
  · rintro i hi now rfl _
    have hcm := List.getElem_mem hi
    have hck := (rightL_of hch).cues _ hcm
    have hrun := look_runs hR hi
    have hlk := lookR_at hch hi
    have hee := ents_of_ok (hR.ok.cues _ hcm).moves
    simp only [zz, RT.den, den, O1.eval, O2.eval, D.eqb, Ags.none, reduceCtorEq, forall_const, if_true, if_false, ite_true, ite_false, D.sub, D.cell, D.elem, D.cells, D.padd, D.list, D.push, List.length_map, hi, getD_map hi, Cue.enc]
    refine ⟨by omega, fun hbk => ?_, fun hbk => ?_⟩
    · rw [hbk] at hrun
      simp only [if_true] at hrun
      refine denR_call homes_ok ⟨movedL l.cues, hmv, hml, by simp only [zz, RT.den, den, O1.eval, O2.eval, D.eqb, Ags.none, reduceCtorEq, forall_const, if_true, if_false, ite_true, ite_false, D.sub, D.cell, D.elem, D.cells, D.padd, D.list, D.push, Lis.enc], _, rfl, ?_⟩
      refine denR_call entries_ok ⟨l.cues[i], hR.ok.cues _ hcm, hck, by simp only [zz, RT.den, den, O1.eval, O2.eval, D.eqb, Ags.none, reduceCtorEq, forall_const, if_true, if_false, ite_true, ite_false, D.sub, D.cell, D.elem, D.cells, D.padd, D.list, D.push, getD_map hi, Cue.enc, Lis.enc], _, rfl, ?_⟩
      refine denR_call lookC_ok ⟨l, l.cues[i].num, hl, by simp only [zz, RT.den, den, O1.eval, O2.eval, D.eqb, Ags.none, reduceCtorEq, forall_const, if_true, if_false, ite_true, ite_false, D.sub, D.cell, D.elem, D.cells, D.padd, D.list, D.push, Lis.enc, getD_map hi, Cue.enc], _, rfl, ?_⟩
      rw [hlk]
      refine denR_call over_ok ⟨homesL (movedL l.cues), entsOf l.cues[i].moves, homes_Ok hmv, hee, by simp [homesL]; omega, by simp only [zz, RT.den, den, O1.eval, O2.eval, D.eqb, Ags.none, reduceCtorEq, forall_const, if_true, if_false, ite_true, ite_false, D.sub, D.cell, D.elem, D.cells, D.padd, D.list, D.push, Lis.enc], _, rfl, ?_⟩
      rw [hrun]
      refine denR_gcall eqEnts_ok true [.bool true] (by simp only [zz, RT.den, den, O1.eval, O2.eval, D.eqb, Ags.none, reduceCtorEq, forall_const, if_true, if_false, ite_true, ite_false, D.sub, D.cell, D.elem, D.cells, D.padd, D.list, D.push, Lis.enc] <;> simp) (fun _ => ⟨lookL l.cues (i + 1), lookL_ok hR _, by simp only [zz, RT.den, den, O1.eval, O2.eval, D.eqb, Ags.none, reduceCtorEq, forall_const, if_true, if_false, ite_true, ite_false, D.sub, D.cell, D.elem, D.cells, D.padd, D.list, D.push, Lis.enc], rfl⟩) (fun h => by cases h) ?_
      simp only [zz, RT.den, den, O1.eval, O2.eval, D.eqb, Ags.none, reduceCtorEq, forall_const, if_true, if_false, ite_true, ite_false, D.sub, D.cell, D.elem, D.cells, D.padd, D.list, D.push, Lis.enc]
      exact ⟨_, ⟨rfl, by rw [wr64_eq] <;> omega⟩, rfl⟩
    · rw [hbk] at hrun
      simp only [Bool.false_eq_true, if_false] at hrun
      refine denR_call entries_ok ⟨l.cues[i], hR.ok.cues _ hcm, hck, by simp only [zz, RT.den, den, O1.eval, O2.eval, D.eqb, Ags.none, reduceCtorEq, forall_const, if_true, if_false, ite_true, ite_false, D.sub, D.cell, D.elem, D.cells, D.padd, D.list, D.push, getD_map hi, Cue.enc, Lis.enc], _, rfl, ?_⟩
      refine denR_call lookC_ok ⟨l, l.cues[i].num, hl, by simp only [zz, RT.den, den, O1.eval, O2.eval, D.eqb, Ags.none, reduceCtorEq, forall_const, if_true, if_false, ite_true, ite_false, D.sub, D.cell, D.elem, D.cells, D.padd, D.list, D.push, Lis.enc, getD_map hi, Cue.enc], _, rfl, ?_⟩
      rw [hlk]
      refine denR_call over_ok ⟨lookL l.cues i, entsOf l.cues[i].moves, lookL_ok hR _, hee, lookL_len hR _, by simp only [zz, RT.den, den, O1.eval, O2.eval, D.eqb, Ags.none, reduceCtorEq, forall_const, if_true, if_false, ite_true, ite_false, D.sub, D.cell, D.elem, D.cells, D.padd, D.list, D.push, Lis.enc], _, rfl, ?_⟩
      rw [hrun]
      refine denR_gcall eqEnts_ok true [.bool true] (by simp only [zz, RT.den, den, O1.eval, O2.eval, D.eqb, Ags.none, reduceCtorEq, forall_const, if_true, if_false, ite_true, ite_false, D.sub, D.cell, D.elem, D.cells, D.padd, D.list, D.push, Lis.enc] <;> simp) (fun _ => ⟨lookL l.cues (i + 1), lookL_ok hR _, by simp only [zz, RT.den, den, O1.eval, O2.eval, D.eqb, Ags.none, reduceCtorEq, forall_const, if_true, if_false, ite_true, ite_false, D.sub, D.cell, D.elem, D.cells, D.padd, D.list, D.push, Lis.enc], rfl⟩) (fun h => by cases h) ?_
      simp only [zz, RT.den, den, O1.eval, O2.eval, D.eqb, Ags.none, reduceCtorEq, forall_const, if_true, if_false, ite_true, ite_false, D.sub, D.cell, D.elem, D.cells, D.padd, D.list, D.push, Lis.enc]
      exact ⟨_, ⟨rfl, by rw [wr64_eq] <;> omega⟩, rfl⟩
  · rintro now rfl _
    simp only [zz, RT.den, den, O1.eval, O2.eval, D.eqb, Ags.none, reduceCtorEq, forall_const, if_true, if_false, ite_true, ite_false, D.sub, D.cell, D.elem, D.cells, D.padd, D.list, D.push, List.length_map, Nat.lt_irrefl]
    refine denR_call awake18_ok ⟨rfl, _, rfl, ?_⟩
    simp only [zz, RT.den, den, O1.eval, O2.eval, D.eqb, Ags.none, reduceCtorEq, forall_const, if_true, if_false, ite_true, ite_false, D.sub, D.cell, D.elem, D.cells, D.padd, D.list, D.push]
    exact hK
theorem law13 : Contract Tryz.prog 13 (LawSpec Tryz.prog 13) :=
  law13_typed.weaken fun args K _ h => by
    obtain ⟨h1, h2, hK⟩ := lawArgs [.agg liKs] (by kernel_rfl) h
    match args, h1 with
    | [a], _ =>
      obtain ⟨l, hl, rfl⟩ := Lis.ofAgg (h2 0 _ _ rfl rfl)
      exact ⟨l, hl, rfl, hK⟩
theorem sheetL_get {cs : List Cue} {n i : Nat} (hi : i < n) (h : i < (sheetL cs n).length) : (sheetL cs n)[i] = lookL cs (i + 1) := by simp [sheetL]
theorem law14_typed : Contract Tryz.prog 14 fun args K => ∃ (l : Lis), l.Ok ∧ args = [.agg l.enc] ∧ K [.d (.bool true)] := by
  refine .of c14 t14_ok ?_
  rintro _ K ⟨l, hl, rfl, hK⟩ hsm
  refine ⟨l.enc, rfl, Lis.has hl, ?_⟩
  refine denR_call good18_ok ⟨l, hl, by simp only [zz, RT.den, den, O1.eval, O2.eval, D.eqb, Ags.none, reduceCtorEq, forall_const, if_true, if_false, ite_true, ite_false, D.sub, D.cell, D.elem, D.cells, D.padd, D.list, D.push, Lis.enc], fun b hb => ⟨[.bool b], rfl, ?_⟩⟩
  simp only [zz, RT.den, den, O1.eval, O2.eval, D.eqb, Ags.none, reduceCtorEq, forall_const, if_true, if_false, ite_true, ite_false, D.sub, D.cell, D.elem, D.cells, D.padd, D.list, D.push, Lis.enc]
  refine ⟨fun _ => ?_, fun h => ?_⟩
  · refine denR_call awake18_ok ⟨rfl, _, rfl, ?_⟩
    simp only [zz, RT.den, den, O1.eval, O2.eval, D.eqb, Ags.none, reduceCtorEq, forall_const, if_true, if_false, ite_true, ite_false, D.sub, D.cell, D.elem, D.cells, D.padd, D.list, D.push]
    exact hK
  have hch := hb (by simpa using h)
  have hR := rightT_of hl hch
  have hmv : ∀ p ∈ movedL l.cues, p.Ok := fun p hp => (moved_par hR p hp).1
  have hml : (movedL l.cues).length ≤ 10000 := by have := moved_len hR; omega
  have hlen := hR.len
  have hsl := sheetL_len l.cues l.cues.length
  refine denR_call footC_ok ⟨l, hl, by simp only [zz, RT.den, den, O1.eval, O2.eval, D.eqb, Ags.none, reduceCtorEq, forall_const, if_true, if_false, ite_true, ite_false, D.sub, D.cell, D.elem, D.cells, D.padd, D.list, D.push, Lis.enc], _, rfl, ?_⟩
  rw [footR_right hch]
  refine denR_call sheetC_ok ⟨l, hl, by simp only [zz, RT.den, den, O1.eval, O2.eval, D.eqb, Ags.none, reduceCtorEq, forall_const, if_true, if_false, ite_true, ite_false, D.sub, D.cell, D.elem, D.cells, D.padd, D.list, D.push, Lis.enc], fun rvs h => ⟨[.slice ((sheetR l).1.map enS), .int .i64 (sheetR l).2], by rcases h with rfl | rfl <;> rfl, ?_⟩⟩
  rw [sheetR_right hch]
  simp only [zz, RT.den, den, O1.eval, O2.eval, D.eqb, Ags.none, reduceCtorEq, forall_const, if_true, if_false, ite_true, ite_false, D.sub, D.cell, D.elem, D.cells, D.padd, D.list, D.push, Lis.enc, List.length_map, hsl]
  refine fun _ _ => ?_
  refine denR_call homes_ok ⟨movedL l.cues, hmv, hml, by simp only [zz, RT.den, den, O1.eval, O2.eval, D.eqb, Ags.none, reduceCtorEq, forall_const, if_true, if_false, ite_true, ite_false, D.sub, D.cell, D.elem, D.cells, D.padd, D.list, D.push, Lis.enc], _, rfl, ?_⟩
  simp only [zz, RT.den, den, O1.eval, O2.eval, D.eqb, Ags.none, reduceCtorEq, forall_const, if_true, if_false, ite_true, ite_false, D.sub, D.cell, D.elem, D.cells, D.padd, D.list, D.push, Lis.enc, List.length_map]
  intro hcap
  refine loop_goI l.cues (fun _ _ (_ : List Ent) => ()) (fun i now => [.slice (now.map Ent.enc), .int .i64 i]) (fun i now => now = lookL l.cues i) (homesL (movedL l.cues)) () rfl (look_zero _).symm 1 (fun _ _ => rfl) (by simp only [zz, RT.den, den, O1.eval, O2.eval, D.eqb, Ags.none, reduceCtorEq, forall_const, if_true, if_false, ite_true, ite_false, D.sub, D.cell, D.elem, D.cells, D.padd, D.list, D.push]; rfl) ?_ ?_
  · rintro i hi now rfl _
    have hst := stepsR_at hch hi
    have hov := look_steps l.cues i (i + 1)
    have hsame := look_same l.cues i (i + 1)
    have hll := hsame.len
    have hdl := steps_ents hl l.cues[i].num
    rw [hst] at hdl
    have hll2 := lookL_len hR (i + 1)
    have hse := sheetL_get (cs := l.cues) hi (by rw [hsl]; exact hi)
    have his : i < (sheetL l.cues l.cues.length).length := by rw [hsl]; exact hi
    have hLok := lookL_ok hR (i + 1)
    simp only [zz, RT.den, den, O1.eval, O2.eval, D.eqb, Ags.none, reduceCtorEq, forall_const, if_true, if_false, ite_true, ite_false, D.sub, D.cell, D.elem, D.cells, D.padd, D.list, D.push, List.length_map, hi, getD_map hi, Cue.enc]
    refine ⟨by omega, ?_⟩
    refine denR_call stepsC_ok ⟨l, l.cues[i].num, hl, by simp only [zz, RT.den, den, O1.eval, O2.eval, D.eqb, Ags.none, reduceCtorEq, forall_const, if_true, if_false, ite_true, ite_false, D.sub, D.cell, D.elem, D.cells, D.padd, D.list, D.push, Lis.enc, getD_map hi, Cue.enc], _, rfl, ?_⟩
    rw [hst]
    simp only [zz, RT.den, den, O1.eval, O2.eval, D.eqb, Ags.none, reduceCtorEq, forall_const, if_true, if_false, ite_true, ite_false, D.sub, D.cell, D.elem, D.cells, D.padd, D.list, D.push, Lis.enc]
    refine denR_call over_ok ⟨lookL l.cues i, _, lookL_ok hR _, hdl, lookL_len hR _, by simp only [zz, RT.den, den, O1.eval, O2.eval, D.eqb, Ags.none, reduceCtorEq, forall_const, if_true, if_false, ite_true, ite_false, D.sub, D.cell, D.elem, D.cells, D.padd, D.list, D.push, Lis.enc], _, rfl, ?_⟩
    rw [hov]
    simp only [zz, RT.den, den, O1.eval, O2.eval, D.eqb, Ags.none, reduceCtorEq, forall_const, if_true, if_false, ite_true, ite_false, D.sub, D.cell, D.elem, D.cells, D.padd, D.list, D.push, Lis.enc, List.length_map]
    intro hcap2
    generalize hA : lookL l.cues i = A at *
    generalize hB : lookL l.cues (i + 1) = B at *
    refine loop_goI B (fun _ _ (_ : Nat) => ()) (fun k c => [.int .i64 (c : Nat), .int .i64 k]) (fun k c => c ≤ k ∧ c + (diffE (A.drop k) (B.drop k)).length = (diffE A B).length) 0 () rfl ⟨Nat.le_refl _, by simp⟩ 1 (fun _ _ => rfl) rfl ?_ ?_
    · rintro k hk c ⟨hck, hcd⟩ _
      have hka : k < A.length := by omega
      rw [diffE_drop hka hk] at hcd
      have hpe := hsame.get hka hk
      have p1 : B[k].pa.ch = A[k].pa.ch := by rw [hpe]
      have p2 : B[k].pa.at_ = A[k].pa.at_ := by rw [hpe]
      have hv := val_eq A[k].va B[k].va
      simp only [zz, RT.den, den, O1.eval, O2.eval, D.eqb, Ags.none, reduceCtorEq, forall_const, if_true, if_false, ite_true, ite_false, D.sub, D.cell, D.elem, D.cells, D.padd, D.list, D.push, List.length_map, hk, hka, getD_map hk, getD_map hka, Ent.enc, p1, p2]
      refine ⟨by omega, ?_⟩
      by_cases h : A[k].va = B[k].va
      · rw [if_pos h] at hcd
        have h' := hv.1 h
        have e1 : B[k].va.pal = A[k].va.pal := h'.1.symm
        have e2 : B[k].va.lev = A[k].va.lev := h'.2.symm
        refine ⟨c, ⟨by simp [e1, e2], by rw [wr64_eq] <;> omega⟩, ⟨by omega, hcd⟩⟩
      · rw [if_neg h] at hcd
        simp only [List.length_cons] at hcd
        have h' : ¬ (B[k].va.pal = A[k].va.pal ∧ B[k].va.lev = A[k].va.lev) := fun e => h (hv.2 ⟨e.1.symm, e.2.symm⟩)
        refine ⟨c + 1, ⟨?_, by rw [wr64_eq] <;> omega⟩, ⟨by omega, by omega⟩⟩
        have : wr64 ((c : Int) + 1) = ((c + 1 : Nat) : Int) := by rw [wr64_eq (by omega)]; omega
        simp [h', this]
    · rintro c ⟨hck, hcd⟩ _
      have e : (diffE (A.drop B.length) (B.drop B.length)).length = 0 := by
        rw [List.drop_length]; cases A.drop B.length <;> rfl
      have hc : c = (diffE A B).length := by omega
      subst hc
      simp only [zz, RT.den, den, O1.eval, O2.eval, D.eqb, Ags.none, reduceCtorEq, forall_const, if_true, if_false, ite_true, ite_false, D.sub, D.cell, D.elem, D.cells, D.padd, D.list, D.push, List.length_map, Nat.lt_irrefl, his, hsl, hi]
      intro hcap3
      refine denR_gcall eqEnts_ok true [.bool true] (by simp only [zz, RT.den, den, O1.eval, O2.eval, D.eqb, Ags.none, reduceCtorEq, forall_const, if_true, if_false, ite_true, ite_false, D.sub, D.cell, D.elem, D.cells, D.padd, D.list, D.push, Lis.enc, List.length_map] <;> simp) (fun _ => ⟨B, hLok, by simp only [zz, RT.den, den, O1.eval, O2.eval, D.eqb, Ags.none, reduceCtorEq, forall_const, if_true, if_false, ite_true, ite_false, D.sub, D.cell, D.elem, D.cells, D.padd, D.list, D.push, Lis.enc, getD_map his, hse, enS], rfl⟩) (fun h => by cases h) ?_
      simp only [zz, RT.den, den, O1.eval, O2.eval, D.eqb, Ags.none, reduceCtorEq, forall_const, if_true, if_false, ite_true, ite_false, D.sub, D.cell, D.elem, D.cells, D.padd, D.list, D.push, Lis.enc, List.length_map]
      refine ⟨rfl, _, ?_, rfl⟩
      rw [wr64_eq (by omega)]; rfl
  · rintro now rfl _
    simp only [zz, RT.den, den, O1.eval, O2.eval, D.eqb, Ags.none, reduceCtorEq, forall_const, if_true, if_false, ite_true, ite_false, D.sub, D.cell, D.elem, D.cells, D.padd, D.list, D.push, List.length_map, Nat.lt_irrefl]
    refine denR_call awake18_ok ⟨rfl, _, rfl, ?_⟩
    simp only [zz, RT.den, den, O1.eval, O2.eval, D.eqb, Ags.none, reduceCtorEq, forall_const, if_true, if_false, ite_true, ite_false, D.sub, D.cell, D.elem, D.cells, D.padd, D.list, D.push]
    exact hK
theorem law14 : Contract Tryz.prog 14 (LawSpec Tryz.prog 14) :=
  law14_typed.weaken fun args K _ h => by
    obtain ⟨h1, h2, hK⟩ := lawArgs [.agg liKs] (by kernel_rfl) h
    match args, h1 with
    | [a], _ =>
      obtain ⟨l, hl, rfl⟩ := Lis.ofAgg (h2 0 _ _ rfl rfl)
      exact ⟨l, hl, rfl, hK⟩
end Go.Sx.La
