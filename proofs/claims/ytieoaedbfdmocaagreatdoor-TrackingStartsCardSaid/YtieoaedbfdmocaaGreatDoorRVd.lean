/-
  A law as a contract (and what it needs).
-/
import Derived.Test.YtieoaedbfdmocaaGreatDoorRVc
set_option linter.unusedSimpArgs false
set_option linter.unusedVariables false
set_option linter.unusedSectionVars false
set_option linter.defProp false
set_option maxRecDepth 100000
set_option maxRecDepth 100000
namespace Go.Sx.La
open Go Go.Sx Go.RowKit Go.Proofs
noncomputable def t186 : R := .call none (.fn 187) [.lcons (.var 0) (.lcons (.var 1) .lnil), .lcons (.var 5) (.lcons (.var 6) .lnil)] [.cell (.int .i64)] (.ret [.d (.var 7)])
theorem t186_ok : fnO Tryz.prog mdA 186 [.agg [.int .i64, .int .i64, .int .i64, .int .i64, .int .i64], .agg [.int .i64, .int .i64]] = t186 := by kernel_rfl
theorem c186 : callable Tryz.prog 186 = true := by kernel_rfl
noncomputable def t141 : R := .call none (.fn 172) [.var 0, .lcons (.var 1) (.lcons (.var 2) .lnil), .fn 186] [.cell (.int .i64), .cell .bool] (.ret [.d (.var 3), .d (.var 4)])
theorem t141_ok : fnO Tryz.prog mdA 141 [.cell (.slice [.int .i64, .int .i64, .int .i64, .int .i64, .int .i64]), .agg [.int .i64, .int .i64]] = t141 := by kernel_rfl
theorem c141 : callable Tryz.prog 141 = true := by kernel_rfl
noncomputable def t78 : R := .call none (.fn 94) [.lcons (.var 0) (.lcons (.var 1) (.lcons (.var 2) (.lcons (.var 3) (.lcons (.var 4) (.lcons (.var 5) (.lcons (.var 6) (.lcons (.var 7) (.lcons (.var 8) .lnil))))))))] [.cell (.int .i64)] (.ite (.o2 .ne (.var 11) (.int .i64 0)) (.ret [.d (.int .i64 0), .d (.bool false), .d (.var 11)]) (.call none (.fn 140) [.lcons (.var 9) (.lcons (.var 10) .lnil)] [.cell (.int .i64)] (.ite (.o2 .ne (.var 12) (.int .i64 0)) (.ret [.d (.int .i64 0), .d (.bool false), .d (.var 12)]) (.call none (.fn 141) [.var 2, .lcons (.var 9) (.lcons (.var 10) .lnil)] [.cell (.int .i64), .cell .bool] (.ite (.var 14) (.ret [.d (.var 13), .d (.bool true), .d (.int .i64 0)]) (.ret [.d (.int .i64 0), .d (.bool false), .d (.int .i64 0)]))))))
theorem t78_ok : fnO Tryz.prog mdA 78 [.agg [.str, .str, .slice [.int .i64, .int .i64, .int .i64, .int .i64, .int .i64], .slice [.int .i64, .int .i64, .int .i64, .int .i64, .int .i64, .int .i64], .bool, .bool, .int .i64, .str, .int .i64], .agg [.int .i64, .int .i64]] = t78 := by kernel_rfl
theorem c78 : callable Tryz.prog 78 = true := by kernel_rfl
noncomputable def t142 : R := .fact (.o2 .le (.o1 .len (.var 0)) (.int .i64 140737488355328)) (.loop 0 [.int .i64 0] [.int .i64] (.ite (.o2 .lt (.var 5) (.o1 .len (.var 0))) (.need (.o2 .le (.int .i64 0) (.var 5)) (.ite (.o2 .band (.o2 .band (.o2 .eq (.var 1) (.idx (.var 0) (.var 5) 0 (.int .i64))) (.o2 .band (.o2 .eq (.var 2) (.idx (.var 0) (.var 5) 1 (.int .i64))) (.bool true))) (.o2 .band (.o2 .band (.o2 .eq (.var 3) (.idx (.var 0) (.var 5) 2 (.int .i64))) (.o2 .band (.o2 .eq (.var 4) (.idx (.var 0) (.var 5) 3 (.int .i64))) (.bool true))) (.bool true))) (.ret [.d (.var 5)]) (.again 0 [.o2 (.add .i64) (.var 5) (.int .i64 1)]))) (.ret [.d (.int .i64 (-1))])))
theorem t142_ok : fnO Tryz.prog mdA 142 [.cell (.slice [.int .i64, .int .i64, .int .i64, .int .i64]), .agg [.int .i64, .int .i64, .int .i64, .int .i64]] = t142 := by kernel_rfl
theorem c142 : callable Tryz.prog 142 = true := by kernel_rfl
noncomputable def t79 : R := .call none (.fn 142) [.var 0, .lcons (.var 1) (.lcons (.var 2) (.lcons (.var 3) (.lcons (.var 4) .lnil)))] [.cell (.int .i64)] (.ret [.d (.o2 .ge (.var 5) (.int .i64 0))])
theorem t79_ok : fnO Tryz.prog mdA 79 [.cell (.slice [.int .i64, .int .i64, .int .i64, .int .i64]), .agg [.int .i64, .int .i64, .int .i64, .int .i64]] = t79 := by kernel_rfl
theorem c79 : callable Tryz.prog 79 = true := by kernel_rfl
noncomputable def t15 : R := .call none (.fn 70) [.lcons (.var 0) (.lcons (.var 1) (.lcons (.var 2) .lnil))] [.cell .bool] (.call (some (.o1 .not (.o1 .not (.var 4)))) (.fn 23) [.var 3] [.cell (.int .i64)] (.call (some (.o1 .not (.ite (.o1 .not (.var 4)) (.bool true) (.o2 .ne (.var 5) (.int .i64 0))))) (.fn 75) [.lcons (.var 0) (.lcons (.var 1) (.lcons (.var 2) .lnil)), .var 3] [.cell (.int .i64)] (.ite (.ite (.ite (.o1 .not (.var 4)) (.bool true) (.o2 .ne (.var 5) (.int .i64 0))) (.bool true) (.o2 .lt (.var 6) (.int .i64 0))) (.call none (.fn 47) [] [.cell .bool] (.ret [.d (.var 7)])) (.call none (.fn 57) [.lcons (.var 0) (.lcons (.var 1) (.lcons (.var 2) .lnil)), .var 3] [.cell (.slice [.int .i64, .int .i64, .int .i64, .int .i64]), .cell (.int .i64)] (.call none (.fn 75) [.lcons (.var 0) (.lcons (.var 1) (.lcons (.var 2) .lnil)), .var 3] [.cell (.int .i64)] (.need (.o2 .le (.int .i64 0) (.o2 (.add .i64) (.var 9) (.int .i64 1))) (.need (.o2 .le (.o2 (.add .i64) (.var 9) (.int .i64 1)) (.o1 .len (.var 2))) (.call none (.fn 76) [.lcons (.var 0) (.lcons (.var 1) (.lcons (.var 2) .lnil)), .sub (.var 2) (.int .i64 0) (.o2 (.add .i64) (.var 9) (.int .i64 1))] [.agg [.int .i64, .int .i64, .slice [.str, .str, .slice [.int .i64, .int .i64, .int .i64, .int .i64, .int .i64], .slice [.int .i64, .int .i64, .int .i64, .int .i64, .int .i64, .int .i64], .bool, .bool, .int .i64, .str, .int .i64]]] (.call none (.fn 57) [.lcons (.var 10) (.lcons (.var 11) (.lcons (.var 12) .lnil)), .var 3] [.cell (.slice [.int .i64, .int .i64, .int .i64, .int .i64]), .cell (.int .i64)] (.ite (.ite (.o2 .ne (.var 8) (.int .i64 0)) (.bool true) (.o2 .ne (.var 14) (.int .i64 0))) (.ret [.d (.bool false)]) (.fact (.o2 .le (.o1 .len (.var 7)) (.int .i64 140737488355328)) (.loop 0 [.int .i64 0] [.int .i64] (.ite (.o2 .lt (.var 15) (.o1 .len (.var 7))) (.need (.o2 .le (.int .i64 0) (.var 15)) (.call none (.fn 48) [.lcons (.var 0) (.lcons (.var 1) (.lcons (.var 2) .lnil)), .var 3, .lcons (.idx (.var 7) (.var 15) 0 (.int .i64)) (.lcons (.idx (.var 7) (.var 15) 1 (.int .i64)) .lnil)] [.cell .str, .cell .bool, .cell (.int .i64)] (.call none (.fn 28) [.lcons (.var 0) (.lcons (.var 1) (.lcons (.var 2) .lnil)), .var 16] [.cell (.int .i64), .cell .bool, .cell (.int .i64)] (.call (some (.o2 .band (.o1 .not (.ite (.o2 .ne (.var 18) (.int .i64 0)) (.bool true) (.ite (.var 17) (.ite (.ite (.ite (.o2 .ne (.var 21) (.int .i64 0)) (.bool true) (.o1 .not (.var 20))) (.bool true) (.o2 .lt (.var 19) (.int .i64 0))) (.bool true) (.o2 .gt (.var 19) (.var 9))) (.bool false)))) (.o1 .not (.var 17)))) (.fn 77) [] [.agg [.int .i64, .int .i64]] (.ite (.ite (.ite (.o2 .ne (.var 18) (.int .i64 0)) (.bool true) (.ite (.var 17) (.ite (.ite (.ite (.o2 .ne (.var 21) (.int .i64 0)) (.bool true) (.o1 .not (.var 20))) (.bool true) (.o2 .lt (.var 19) (.int .i64 0))) (.bool true) (.o2 .gt (.var 19) (.var 9))) (.bool false))) (.bool true) (.ite (.o1 .not (.var 17)) (.o1 .not (.o2 .band (.o2 .eq (.idx (.var 7) (.var 15) 2 (.int .i64)) (.var 22)) (.o2 .band (.o2 .eq (.idx (.var 7) (.var 15) 3 (.int .i64)) (.var 23)) (.bool true)))) (.bool false))) (.ret [.d (.bool false)]) (.ite (.o1 .not (.var 17)) (.again 0 [.o2 (.add .i64) (.var 15) (.int .i64 1)]) (.need (.o2 .le (.int .i64 0) (.var 19)) (.need (.o2 .lt (.var 19) (.o1 .len (.var 2))) (.call none (.fn 78) [.lcons (.idx (.var 2) (.var 19) 0 .str) (.lcons (.idx (.var 2) (.var 19) 1 .str) (.lcons (.idx (.var 2) (.var 19) 2 (.slice [.int .i64, .int .i64, .int .i64, .int .i64, .int .i64])) (.lcons (.idx (.var 2) (.var 19) 3 (.slice [.int .i64, .int .i64, .int .i64, .int .i64, .int .i64, .int .i64])) (.lcons (.idx (.var 2) (.var 19) 4 .bool) (.lcons (.idx (.var 2) (.var 19) 5 .bool) (.lcons (.idx (.var 2) (.var 19) 6 (.int .i64)) (.lcons (.idx (.var 2) (.var 19) 7 .str) (.lcons (.idx (.var 2) (.var 19) 8 (.int .i64)) .lnil)))))))), .lcons (.idx (.var 7) (.var 15) 0 (.int .i64)) (.lcons (.idx (.var 7) (.var 15) 1 (.int .i64)) .lnil)] [.cell (.int .i64), .cell .bool, .cell (.int .i64)] (.fact (.ite (.o1 .not (.ite (.ite (.o1 .not (.var 25)) (.bool true) (.o2 .ne (.var 26) (.int .i64 0))) (.bool true) (.o2 .lt (.var 24) (.int .i64 0)))) (.o2 .le (.o1 .len (.idx (.var 2) (.var 19) 2 (.slice [.int .i64, .int .i64, .int .i64, .int .i64, .int .i64]))) (.int .i64 140737488355328)) (.bool true)) (.need (.ite (.o1 .not (.ite (.ite (.ite (.o1 .not (.var 25)) (.bool true) (.o2 .ne (.var 26) (.int .i64 0))) (.bool true) (.o2 .lt (.var 24) (.int .i64 0))) (.bool true) (.o2 .ge (.var 24) (.o1 .len (.idx (.var 2) (.var 19) 2 (.slice [.int .i64, .int .i64, .int .i64, .int .i64, .int .i64])))))) (.o2 .le (.int .i64 0) (.var 24)) (.bool true)) (.need (.ite (.o1 .not (.ite (.ite (.ite (.o1 .not (.var 25)) (.bool true) (.o2 .ne (.var 26) (.int .i64 0))) (.bool true) (.o2 .lt (.var 24) (.int .i64 0))) (.bool true) (.o2 .ge (.var 24) (.o1 .len (.idx (.var 2) (.var 19) 2 (.slice [.int .i64, .int .i64, .int .i64, .int .i64, .int .i64])))))) (.o2 .lt (.var 24) (.o1 .len (.idx (.var 2) (.var 19) 2 (.slice [.int .i64, .int .i64, .int .i64, .int .i64, .int .i64])))) (.bool true)) (.call (some (.o1 .not (.ite (.ite (.ite (.ite (.o1 .not (.var 25)) (.bool true) (.o2 .ne (.var 26) (.int .i64 0))) (.bool true) (.o2 .lt (.var 24) (.int .i64 0))) (.bool true) (.o2 .ge (.var 24) (.o1 .len (.idx (.var 2) (.var 19) 2 (.slice [.int .i64, .int .i64, .int .i64, .int .i64, .int .i64]))))) (.bool true) (.o1 .not (.o2 .band (.o2 .eq (.idx (.idx (.var 2) (.var 19) 2 (.slice [.int .i64, .int .i64, .int .i64, .int .i64, .int .i64])) (.var 24) 2 (.int .i64)) (.idx (.var 7) (.var 15) 2 (.int .i64))) (.o2 .band (.o2 .eq (.idx (.idx (.var 2) (.var 19) 2 (.slice [.int .i64, .int .i64, .int .i64, .int .i64, .int .i64])) (.var 24) 3 (.int .i64)) (.idx (.var 7) (.var 15) 3 (.int .i64))) (.bool true))))))) (.fn 79) [.var 13, .lcons (.idx (.var 7) (.var 15) 0 (.int .i64)) (.lcons (.idx (.var 7) (.var 15) 1 (.int .i64)) (.lcons (.idx (.var 7) (.var 15) 2 (.int .i64)) (.lcons (.idx (.var 7) (.var 15) 3 (.int .i64)) .lnil)))] [.cell .bool] (.ite (.ite (.ite (.ite (.ite (.ite (.o1 .not (.var 25)) (.bool true) (.o2 .ne (.var 26) (.int .i64 0))) (.bool true) (.o2 .lt (.var 24) (.int .i64 0))) (.bool true) (.o2 .ge (.var 24) (.o1 .len (.idx (.var 2) (.var 19) 2 (.slice [.int .i64, .int .i64, .int .i64, .int .i64, .int .i64]))))) (.bool true) (.o1 .not (.o2 .band (.o2 .eq (.idx (.idx (.var 2) (.var 19) 2 (.slice [.int .i64, .int .i64, .int .i64, .int .i64, .int .i64])) (.var 24) 2 (.int .i64)) (.idx (.var 7) (.var 15) 2 (.int .i64))) (.o2 .band (.o2 .eq (.idx (.idx (.var 2) (.var 19) 2 (.slice [.int .i64, .int .i64, .int .i64, .int .i64, .int .i64])) (.var 24) 3 (.int .i64)) (.idx (.var 7) (.var 15) 3 (.int .i64))) (.bool true))))) (.bool true) (.o1 .not (.var 27))) (.ret [.d (.bool false)]) (.again 0 [.o2 (.add .i64) (.var 15) (.int .i64 1)]))))))))))))))) (.call none (.fn 47) [] [.cell .bool] (.ret [.d (.var 16)])))))))))))))))
theorem t15_ok : fnO Tryz.prog mdA 15 [.agg [.int .i64, .int .i64, .slice [.str, .str, .slice [.int .i64, .int .i64, .int .i64, .int .i64, .int .i64], .slice [.int .i64, .int .i64, .int .i64, .int .i64, .int .i64, .int .i64], .bool, .bool, .int .i64, .str, .int .i64]], .cell .str] = t15 := by kernel_rfl
theorem c15 : callable Tryz.prog 15 = true := by kernel_rfl
theorem cfind1_ok : Contract Tryz.prog 186 fun args K => ∃ (m : Mov) (q : Par), m.Ok ∧ q.Ok ∧ args = [.agg m.enc, .agg q.enc] ∧ K [.d (.int .i64 (pcmp m.pa q))] := by
  refine .of c186 t186_ok ?_
  rintro _ K ⟨m, q, hm, hq, rfl, hK⟩ hsm
  refine ⟨m.enc ++ q.enc, rfl, by exact (Mov.has hm).append (Par.has hq), ?_⟩
  refine denR_call pcmp_ok ⟨m.pa, q, hm.1, hq, rfl, _, rfl, ?_⟩
  simp only [zz, RT.den, den, O1.eval, O2.eval, D.eqb, Ags.none, reduceCtorEq, forall_const, if_true, if_false, ite_true, ite_false, D.sub, D.cell, D.elem, D.cells, D.padd, D.list, D.push, Mov.enc, Par.enc]
  exact hK
theorem cfind1_fv {m : Mov} {p : Par} (hm : m.Ok) (hp : p.Ok) : FvC Tryz.prog (.clo 186 []) fun as_ K => as_ = [.agg m.enc, .agg p.enc] ∧ K [.d (.int .i64 (pcmp m.pa p))] := by
  refine FvC.of c186 cfind1_ok ?_
  rintro _ K ⟨rfl, hK⟩
  refine ⟨⟨m, p, hm, hp, rfl, hK⟩, argsTyped_of [some (.agg mvKs), some (.agg paKs)] (by kernel_rfl) ?_⟩
  intro i rk d h1 h2
  match i, h1, h2 with
  | 0, h1, h2 => simp at h1 h2; subst h1 h2; exact Mov.has hm
  | 1, h1, h2 => simp at h1 h2; subst h1 h2; exact Par.has hp
theorem cfindI_ok : Contract Tryz.prog 141 fun args K => ∃ (ms : List Mov) (p : Par), (∀ m ∈ ms, m.Ok) ∧ p.Ok ∧ RightM ms ∧ param15 p = 0 ∧ args = [.slice (ms.map Mov.enc), .agg p.enc] ∧ K [.d (.int .i64 (low ms p)), .d (.bool (ms.any fun m => decide (m.pa = p)))] := by
  refine .of c141 t141_ok ?_
  rintro _ K ⟨ms, p, hms, hp, hR, hpp, rfl, hK⟩ hsm
  refine ⟨.slice (ms.map Mov.enc) :: p.enc, rfl, by exact (show HasKs (.slice mvKs :: paKs) _ from ⟨slice_has fun m hm => Mov.has (hms m hm), Par.has hp⟩), ?_⟩
  refine denR_call bsearchG_ok ⟨ms, p, 186, hms, hp, hR, hpp, fun m hm => cfind1_fv (hms m hm) hp, by simp only [zz, RT.den, den, O1.eval, O2.eval, D.eqb, Ags.none, reduceCtorEq, forall_const, if_true, if_false, ite_true, ite_false, D.sub, D.cell, D.elem, D.cells, D.padd, D.list, D.push, Par.enc], _, rfl, ?_⟩
  simp only [zz, RT.den, den, O1.eval, O2.eval, D.eqb, Ags.none, reduceCtorEq, forall_const, if_true, if_false, ite_true, ite_false, D.sub, D.cell, D.elem, D.cells, D.padd, D.list, D.push, Par.enc]
  exact hK
theorem cfind_ok : Contract Tryz.prog 78 fun args K => ∃ (c : Cue) (p : Par), c.Ok ∧ check16 c = 0 ∧ p.Ok ∧ param15 p = 0 ∧ args = [.agg c.enc, .agg p.enc] ∧
    K [.d (.int .i64 (if (mfind c.moves p).isSome then low c.moves p else 0)), .d (.bool (mfind c.moves p).isSome), .d (.int .i64 0)] := by
  refine .of c78 t78_ok ?_
  rintro _ K ⟨c, p, hc, hck, hp, hpp, rfl, hK⟩ hsm
  refine ⟨c.enc ++ p.enc, rfl, by exact (Cue.has hc).append (Par.has hp), ?_⟩
  refine denR_call ccheck_ok ⟨c, hc, by simp only [zz, RT.den, den, O1.eval, O2.eval, D.eqb, Ags.none, reduceCtorEq, forall_const, if_true, if_false, ite_true, ite_false, D.sub, D.cell, D.elem, D.cells, D.padd, D.list, D.push, Cue.enc, Par.enc], _, rfl, ?_⟩
  rw [hck]
  simp only [zz, RT.den, den, O1.eval, O2.eval, D.eqb, Ags.none, reduceCtorEq, forall_const, if_true, if_false, ite_true, ite_false, D.sub, D.cell, D.elem, D.cells, D.padd, D.list, D.push, Cue.enc, Par.enc]
  refine denR_call cparam_ok ⟨p, hp, by simp only [zz, RT.den, den, O1.eval, O2.eval, D.eqb, Ags.none, reduceCtorEq, forall_const, if_true, if_false, ite_true, ite_false, D.sub, D.cell, D.elem, D.cells, D.padd, D.list, D.push, Cue.enc, Par.enc], _, rfl, ?_⟩
  rw [hpp]
  simp only [zz, RT.den, den, O1.eval, O2.eval, D.eqb, Ags.none, reduceCtorEq, forall_const, if_true, if_false, ite_true, ite_false, D.sub, D.cell, D.elem, D.cells, D.padd, D.list, D.push, Cue.enc, Par.enc]
  refine denR_call cfindI_ok ⟨c.moves, p, hc.moves, hp, rightM_of (check16_moves hck), hpp, by simp only [zz, RT.den, den, O1.eval, O2.eval, D.eqb, Ags.none, reduceCtorEq, forall_const, if_true, if_false, ite_true, ite_false, D.sub, D.cell, D.elem, D.cells, D.padd, D.list, D.push, Cue.enc, Par.enc], _, rfl, ?_⟩
  rw [any_mfind]
  simp only [zz, RT.den, den, O1.eval, O2.eval, D.eqb, Ags.none, reduceCtorEq, forall_const, if_true, if_false, ite_true, ite_false, D.sub, D.cell, D.elem, D.cells, D.padd, D.list, D.push, Cue.enc, Par.enc]
  cases hs : (mfind c.moves p).isSome with
  | true =>
    rw [hs] at hK
    exact ⟨fun _ => hK, fun h => by simp at h⟩
  | false =>
    rw [hs] at hK
    exact ⟨fun h => by simp at h, fun _ => hK⟩
theorem indexE_ok : Contract Tryz.prog 142 fun args K => ∃ (a : List Ent) (e : Ent), (∀ x ∈ a, x.Ok) ∧ e.Ok ∧ args = [.slice (a.map Ent.enc), .agg e.enc] ∧ K [.d (.int .i64 (idxGo (fun x => decide (x = e)) 0 a))] := by
  refine .of c142 t142_ok ?_
  rintro _ K ⟨a, e, ha, he, rfl, hK⟩ hsm
  refine ⟨.slice (a.map Ent.enc) :: e.enc, rfl, by exact (show HasKs (.slice enKs :: enKs) _ from ⟨ents_has ha, Ent.has he⟩), ?_⟩
  simp only [zz, RT.den, den, O1.eval, O2.eval, D.eqb, Ags.none, reduceCtorEq, forall_const, if_true, if_false, ite_true, ite_false, D.sub, D.cell, D.elem, D.cells, D.padd, D.list, D.push, t142, List.length_map, Ent.enc]
  intro hcap
  refine loop_go a (fun i l (_ : Unit) => idxGo (fun x => decide (x = e)) i l) (fun i _ => [.int .i64 i]) () _ rfl 0 (fun _ _ => rfl) rfl ?_ ?_
  · intro i hi _ hgo
    simp only [idxGo] at hgo
    have heq : (e.pa.ch = a[i].pa.ch ∧ e.pa.at_ = a[i].pa.at_) ∧ e.va.pal = a[i].va.pal ∧ e.va.lev = a[i].va.lev ↔ a[i] = e := by
      constructor
      · rintro ⟨⟨h1, h2⟩, h3, h4⟩
        have e1 : a[i].pa = e.pa := Par.ext' h1.symm h2.symm
        have e2 : a[i].va = e.va := (val_eq _ _).2 ⟨h3.symm, h4.symm⟩
        cases hx : a[i]; cases e
        rw [hx] at e1 e2
        simp only at e1 e2
        rw [e1, e2]
      · rintro rfl; exact ⟨⟨rfl, rfl⟩, rfl, rfl⟩
    simp only [zz, RT.den, den, O1.eval, O2.eval, D.eqb, Ags.none, reduceCtorEq, forall_const, if_true, if_false, ite_true, ite_false, D.sub, D.cell, D.elem, D.cells, D.padd, D.list, D.push, List.length_map, hi, getD_map hi, Ent.enc]
    refine ⟨by omega, fun h => ?_, fun h => ?_⟩
    · have hx : a[i] = e := heq.1 (by simpa using h)
      rw [if_pos (by simp [hx])] at hgo
      rw [← hgo] at hK; exact hK
    · have hx : ¬ a[i] = e := fun hx => by
        have := heq.2 hx
        simp [this] at h
      rw [if_neg (by simp [hx])] at hgo
      exact ⟨(), by rw [wr64_eq] <;> omega, hgo⟩
  · intro _ hgo
    simp only [idxGo] at hgo
    simp only [zz, RT.den, den, O1.eval, O2.eval, D.eqb, Ags.none, reduceCtorEq, forall_const, if_true, if_false, ite_true, ite_false, D.sub, D.cell, D.elem, D.cells, D.padd, D.list, D.push, List.length_map, Nat.lt_irrefl]
    rw [← hgo] at hK; exact hK
theorem containsE_ok : Contract Tryz.prog 79 fun args K => ∃ (a : List Ent) (e : Ent), (∀ x ∈ a, x.Ok) ∧ e ∈ a ∧ args = [.slice (a.map Ent.enc), .agg e.enc] ∧ K [.d (.bool true)] := by
  refine .of c79 t79_ok ?_
  rintro _ K ⟨a, e, ha, he, rfl, hK⟩ hsm
  have heo := ha e he
  refine ⟨.slice (a.map Ent.enc) :: e.enc, rfl, by exact (show HasKs (.slice enKs :: enKs) _ from ⟨ents_has ha, Ent.has heo⟩), ?_⟩
  refine denR_call indexE_ok ⟨a, e, ha, heo, by simp only [zz, RT.den, den, O1.eval, O2.eval, D.eqb, Ags.none, reduceCtorEq, forall_const, if_true, if_false, ite_true, ite_false, D.sub, D.cell, D.elem, D.cells, D.padd, D.list, D.push, Ent.enc], _, rfl, ?_⟩
  simp only [zz, RT.den, den, O1.eval, O2.eval, D.eqb, Ags.none, reduceCtorEq, forall_const, if_true, if_false, ite_true, ite_false, D.sub, D.cell, D.elem, D.cells, D.padd, D.list, D.push, Ent.enc]
  rcases idxGo_spec (fun x => decide (x = e)) a 0 with ⟨h1, h2⟩ | ⟨j, hj, h1, h2, h3⟩
  · have := h2 e he; simp at this
  · rw [h1]
    have : (0 : Int) ≤ ((0 + j : Nat) : Int) := by omega
    simp only [this, decide_true]
    exact hK
theorem backL_take {cs : List Cue} {n : Nat} : ∀ {k : Nat}, k ≤ n → backL (cs.take n) k = backL cs k
  | 0, _ => rfl
  | k + 1, h => by
    simp only [backL]
    rw [List.getElem?_take, if_pos (by omega), backL_take (by omega)]
theorem valued_take {cs : List Cue} {n : Nat} (p : Par) : valued (cs.take n) p n = valued cs p n := by
  simp only [valued, lastM, backL_take (Nat.le_refl n)]
theorem place_take {cs : List Cue} {s : List UInt8} {k n : Nat} (h : place cs s = (k : Nat)) (hk : k < n) : place (cs.take n) s = (k : Nat) := by
  obtain ⟨j, hj, e1, e2, e3⟩ := place_pos (cs := cs) (s := s) (by omega)
  have : j = k := by omega
  subst this
  have hjt : j < (cs.take n).length := by simp; omega
  have hm : (cs.take n)[j] ∈ cs.take n := List.getElem_mem hjt
  have hneg : ¬ place (cs.take n) s < 0 := fun h => place_neg.1 h _ hm (by simp [e2])
  obtain ⟨i, hi, f1, f2, f3⟩ := place_pos hneg
  have hi' : i < n := by simp at hi; omega
  have hic : i < cs.length := by simp at hi; omega
  rcases Nat.lt_trichotomy i j with h1 | h1 | h1
  · exact absurd (by simpa using f2) (e3 i h1)
  · rw [f1, h1]
  · exact absurd (by simp [e2]) (f3 j h1)
structure Early (l : Lis) (s : List UInt8) (n : Nat) : Prop where
  ok : Lis.Ok { l with cues := l.cues.take n }
  look : lookR { l with cues := l.cues.take n } s = (lookL (l.cues.take n) n, 0)
theorem early_of {l : Lis} (hl : l.Ok) (h : checkL order05 l = 0) {s : List UInt8} (hs : check05 s = 0) {k : Nat} (hp : place l.cues s = (k : Nat)) : Early l s (k + 1) := by
  have hc := checkL_take h (k + 1)
  have hp2 := place_take hp (Nat.lt_succ_self k)
  refine ⟨⟨hl.num, hl.prio, fun c hc => hl.cues c (List.mem_of_mem_take hc)⟩, ?_⟩
  unfold lookR
  have e : cue18 { l with cues := l.cues.take (k + 1) } s = 0 := by
    unfold cue18 numbered18
    rw [if_neg (by simp [hc]), if_neg (by simp [hs]), if_neg (by simp only [hp2]; omega)]
  rw [if_neg (by simp [e])]
  simp only [upto, hp2]
  congr 2
theorem moved_take {cs : List Cue} {n i : Nat} (hi : i < cs.length) (hin : i < n) {p : Par} (h : moved? p cs[i] = true) : p ∈ movedL (cs.take n) := by
  rw [mem_movedL]
  unfold moved? at h
  cases hf : mfind cs[i].moves p with
  | none => rw [hf] at h; cases h
  | some m =>
    have hm := List.mem_of_find?_eq_some hf
    have hp := List.find?_some hf
    simp only [decide_eq_true_eq] at hp
    unfold pars
    refine List.mem_flatMap.2 ⟨cs[i], ?_, List.mem_map.2 ⟨m, hm, hp⟩⟩
    have hit : i < (cs.take n).length := by simp; omega
    have : (cs.take n)[i] = cs[i] := by simp
    rw [← this]; exact List.getElem_mem hit
theorem origin_at {l : Lis} (hl : l.Ok) (hch : checkL order05 l = 0) {s : List UInt8} (h18 : cue18 l s = 0) {p : Par} (hpp : param15 p = 0) :
    (origR l s p = ([], false, 0) ∧ valued l.cues p (upto l s) = hval) ∨
    ∃ (i : Nat) (hi : i < l.cues.length) (m : Mov), i < upto l s ∧ origR l s p = (l.cues[i].num, true, 0) ∧ findR l l.cues[i].num = ((i : Int), true, 0) ∧ moved? p l.cues[i] = true ∧ mfind l.cues[i].moves p = some m ∧ valued l.cues p (upto l s) = m.va := by
  obtain ⟨hR, h05, hpl, hup, hu0, hul⟩ := cue18_right hl h18
  have hv : valued l.cues p (upto l s) = (((((backL l.cues (upto l s)).find? (moved? p)).bind fun c => mfind c.moves p)).map (·.va)).getD hval := by
    rw [← lastM_eq]; rfl
  rcases src_spec (p := p) hul with ⟨h1, h2⟩ | ⟨i, hi, h1, h2, h3, h4⟩
  · left
    refine ⟨?_, ?_⟩
    · unfold origR; rw [if_neg (by simp [h18]), if_neg (by simp [hpp]), h2]
    · rw [hv, h2]; rfl
  · right
    have hm4 := h4
    unfold moved? at hm4
    cases hf : mfind l.cues[i].moves p with
    | none => rw [hf] at hm4; cases hm4
    | some m =>
      refine ⟨i, hi, m, h2, ?_, ?_, h4, hf, ?_⟩
      · unfold origR; rw [if_neg (by simp [h18]), if_neg (by simp [hpp]), h3]
      · obtain ⟨_, _, hpi⟩ := cue18_at hch hi
        have hg : given17 l l.cues[i].num = 0 := by
          have := (rightL_of hch).num _ (List.getElem_mem hi)
          simp [given17, hch, this]
        unfold findR
        rw [if_neg (by simp [hg]), hpi, if_neg (by omega)]
        simp
      · rw [hv, h3]; simp [hf]
theorem law15_typed : Contract Tryz.prog 15 fun args K => ∃ (l : Lis) (s : List UInt8), l.Ok ∧ args = [.agg l.enc, .str s] ∧ K [.d (.bool true)] := by
  refine .of c15 t15_ok ?_
  rintro _ K ⟨l, s, hl, rfl, hK⟩ hsm
  refine ⟨l.enc ++ [.str s], rfl, by exact has_s hl, ?_⟩
  refine denR_call good18_ok ⟨l, hl, by simp only [zz, RT.den, den, O1.eval, O2.eval, D.eqb, Ags.none, reduceCtorEq, forall_const, if_true, if_false, ite_true, ite_false, D.sub, D.cell, D.elem, D.cells, D.padd, D.list, D.push, Lis.enc], fun b hb => ⟨[.bool b], rfl, ?_⟩⟩
  cases b with
  | false =>
    refine denR_gcall check05_ok false [.int .i64 0] (by simp only [zz, RT.den, den, O1.eval, O2.eval, D.eqb, Ags.none, reduceCtorEq, forall_const, if_true, if_false, ite_true, ite_false, D.sub, D.cell, D.elem, D.cells, D.padd, D.list, D.push, Lis.enc]) (fun h => by cases h) (fun _ => rfl) ?_
    refine denR_gcall place17_ok false [.int .i64 0] (by simp only [zz, RT.den, den, O1.eval, O2.eval, D.eqb, Ags.none, reduceCtorEq, forall_const, if_true, if_false, ite_true, ite_false, D.sub, D.cell, D.elem, D.cells, D.padd, D.list, D.push, Lis.enc] <;> simp) (fun h => by cases h) (fun _ => rfl) ?_
    simp only [zz, RT.den, den, O1.eval, O2.eval, D.eqb, Ags.none, reduceCtorEq, forall_const, if_true, if_false, ite_true, ite_false, D.sub, D.cell, D.elem, D.cells, D.padd, D.list, D.push, Lis.enc]
    refine denR_call awake18_ok ⟨rfl, _, rfl, ?_⟩
    simp only [zz, RT.den, den, O1.eval, O2.eval, D.eqb, Ags.none, reduceCtorEq, forall_const, if_true, if_false, ite_true, ite_false, D.sub, D.cell, D.elem, D.cells, D.padd, D.list, D.push]
    exact hK
  | true =>
  have hch := hb rfl
  have hR := rightT_of hl hch
  have hlen := hR.len
  refine denR_gcall check05_ok true [.int .i64 (check05 s)] (by simp only [zz, RT.den, den, O1.eval, O2.eval, D.eqb, Ags.none, reduceCtorEq, forall_const, if_true, if_false, ite_true, ite_false, D.sub, D.cell, D.elem, D.cells, D.padd, D.list, D.push, Lis.enc]) (fun _ => ⟨s, by simp only [zz, RT.den, den, O1.eval, O2.eval, D.eqb, Ags.none, reduceCtorEq, forall_const, if_true, if_false, ite_true, ite_false, D.sub, D.cell, D.elem, D.cells, D.padd, D.list, D.push, Lis.enc], rfl⟩) (fun h => by cases h) ?_
  by_cases h05 : check05 s = 0
  rotate_left
  · refine denR_gcall place17_ok false [.int .i64 0] (by simp only [zz, RT.den, den, O1.eval, O2.eval, D.eqb, Ags.none, reduceCtorEq, forall_const, if_true, if_false, ite_true, ite_false, D.sub, D.cell, D.elem, D.cells, D.padd, D.list, D.push, Lis.enc, h05] <;> simp [h05]) (fun h => by cases h) (fun _ => rfl) ?_
    simp only [zz, RT.den, den, O1.eval, O2.eval, D.eqb, Ags.none, reduceCtorEq, forall_const, if_true, if_false, ite_true, ite_false, D.sub, D.cell, D.elem, D.cells, D.padd, D.list, D.push, Lis.enc, h05]
    refine denR_call awake18_ok ⟨rfl, _, rfl, ?_⟩
    simp only [zz, RT.den, den, O1.eval, O2.eval, D.eqb, Ags.none, reduceCtorEq, forall_const, if_true, if_false, ite_true, ite_false, D.sub, D.cell, D.elem, D.cells, D.padd, D.list, D.push]
    exact hK
  refine denR_gcall place17_ok true [.int .i64 (place l.cues s)] (by simp only [zz, RT.den, den, O1.eval, O2.eval, D.eqb, Ags.none, reduceCtorEq, forall_const, if_true, if_false, ite_true, ite_false, D.sub, D.cell, D.elem, D.cells, D.padd, D.list, D.push, Lis.enc, h05] <;> simp [h05]) (fun _ => ⟨l, s, hl, by simp only [zz, RT.den, den, O1.eval, O2.eval, D.eqb, Ags.none, reduceCtorEq, forall_const, if_true, if_false, ite_true, ite_false, D.sub, D.cell, D.elem, D.cells, D.padd, D.list, D.push, Lis.enc], rfl⟩) (fun h => by cases h) ?_
  simp only [zz, RT.den, den, O1.eval, O2.eval, D.eqb, Ags.none, reduceCtorEq, forall_const, if_true, if_false, ite_true, ite_false, D.sub, D.cell, D.elem, D.cells, D.padd, D.list, D.push, Lis.enc, h05]
  refine ⟨fun _ => ?_, fun h => ?_⟩
  · refine denR_call awake18_ok ⟨rfl, _, rfl, ?_⟩
    simp only [zz, RT.den, den, O1.eval, O2.eval, D.eqb, Ags.none, reduceCtorEq, forall_const, if_true, if_false, ite_true, ite_false, D.sub, D.cell, D.elem, D.cells, D.padd, D.list, D.push]
    exact hK
  have hpl : ¬ place l.cues s < 0 := by omega
  obtain ⟨k, hk, hpk, hks, _⟩ := place_pos hpl
  have h18 : cue18 l s = 0 := by
    unfold cue18 numbered18
    rw [if_neg (by simp [hch]), if_neg (by simp [h05]), if_neg hpl]
  have hup : upto l s = k + 1 := by simp [upto, hpk]
  have hlk : lookR l s = (lookL l.cues (k + 1), 0) := by unfold lookR; rw [if_neg (by simp [h18]), hup]
  have hE := early_of hl hch h05 hpk
  have htk : ∀ c ∈ l.cues.take (k + 1), c.Ok := fun c hc => hl.cues c (List.mem_of_mem_take hc)
  have hw1 : wr64 ((k : Int) + 1) = ((k + 1 : Nat) : Int) := by rw [wr64_eq (by omega)]; omega
  refine denR_call lookC_ok ⟨l, s, hl, by simp only [zz, RT.den, den, O1.eval, O2.eval, D.eqb, Ags.none, reduceCtorEq, forall_const, if_true, if_false, ite_true, ite_false, D.sub, D.cell, D.elem, D.cells, D.padd, D.list, D.push, Lis.enc], _, rfl, ?_⟩
  rw [hlk]
  refine denR_call place17_ok ⟨l, s, hl, by simp only [zz, RT.den, den, O1.eval, O2.eval, D.eqb, Ags.none, reduceCtorEq, forall_const, if_true, if_false, ite_true, ite_false, D.sub, D.cell, D.elem, D.cells, D.padd, D.list, D.push, Lis.enc], _, rfl, ?_⟩
  rw [hpk]
  simp only [zz, RT.den, den, O1.eval, O2.eval, D.eqb, Ags.none, reduceCtorEq, forall_const, if_true, if_false, ite_true, ite_false, D.sub, D.cell, D.elem, D.cells, D.padd, D.list, D.push, Lis.enc, hw1, List.length_map]
  refine ⟨by omega, by omega, ?_⟩
  refine denR_call with17_ok ⟨l, l.cues.take (k + 1), hl, htk, by simp only [zz, RT.den, den, O1.eval, O2.eval, D.eqb, Ags.none, reduceCtorEq, forall_const, if_true, if_false, ite_true, ite_false, D.sub, D.cell, D.elem, D.cells, D.padd, D.list, D.push, Lis.enc, hw1, List.map_take], _, rfl, ?_⟩
  refine denR_call lookC_ok ⟨{ l with cues := l.cues.take (k + 1) }, s, hE.ok, by simp only [zz, RT.den, den, O1.eval, O2.eval, D.eqb, Ags.none, reduceCtorEq, forall_const, if_true, if_false, ite_true, ite_false, D.sub, D.cell, D.elem, D.cells, D.padd, D.list, D.push, Lis.enc], _, rfl, ?_⟩
  rw [hE.look]
  simp only [zz, RT.den, den, O1.eval, O2.eval, D.eqb, Ags.none, reduceCtorEq, forall_const, if_true, if_false, ite_true, ite_false, D.sub, D.cell, D.elem, D.cells, D.padd, D.list, D.push, Lis.enc, List.length_map]
  intro hcap
  have hLen := lookL_len hR (k + 1)
  have hEok := lookL_ok hR (k + 1)
  have hRe := rightT_of hE.ok (checkL_take hch (k + 1))
  have hEe := lookL_ok hRe (k + 1)
  simp only at hEe
  refine loop_go (lookL l.cues (k + 1)) (fun _ _ (_ : Unit) => ()) (fun i _ => [.int .i64 i]) () () rfl 0 (fun _ _ => rfl) rfl ?_ ?_
  · intro i hi _ _
    obtain ⟨p, hp, hx⟩ := List.mem_map.1 (List.getElem_mem hi)
    have hpo := moved_par hR p hp
    generalize hA : lookL l.cues (k + 1) = A at *
    have x1 : A[i].pa = p := by rw [← hx]
    have x2 : A[i].va = valued l.cues p (k + 1) := by rw [← hx]
    have hpv : ∀ v : Val, A[i].va = v → A[i].va.pal = v.pal ∧ A[i].va.lev = v.lev := fun v h => by rw [h]; exact ⟨rfl, rfl⟩
    simp only [zz, RT.den, den, O1.eval, O2.eval, D.eqb, Ags.none, reduceCtorEq, forall_const, if_true, if_false, ite_true, ite_false, D.sub, D.cell, D.elem, D.cells, D.padd, D.list, D.push, List.length_map, hi, getD_map hi, Ent.enc, x1]
    refine ⟨by omega, ?_⟩
    refine denR_call torigin_ok ⟨l, s, p, hl, hpo.1, by simp only [zz, RT.den, den, O1.eval, O2.eval, D.eqb, Ags.none, reduceCtorEq, forall_const, if_true, if_false, ite_true, ite_false, D.sub, D.cell, D.elem, D.cells, D.padd, D.list, D.push, Lis.enc, Par.enc, getD_map hi, Ent.enc, x1], _, rfl, ?_⟩
    rcases origin_at hl hch h18 hpo.2 with ⟨o1, o2⟩ | ⟨q, hq, m, hqk, o1, o2, o3, o4, o5⟩
    · rw [o1]
      rw [hup] at o2
      obtain ⟨v1, v2⟩ := hpv hval (by rw [x2, o2])
      refine denR_call findR_ok ⟨l, [], hl, by simp only [zz, RT.den, den, O1.eval, O2.eval, D.eqb, Ags.none, reduceCtorEq, forall_const, if_true, if_false, ite_true, ite_false, D.sub, D.cell, D.elem, D.cells, D.padd, D.list, D.push, Lis.enc], _, rfl, ?_⟩
      refine denR_gcall home15_ok true hval.enc (by simp only [zz, RT.den, den, O1.eval, O2.eval, D.eqb, Ags.none, reduceCtorEq, forall_const, if_true, if_false, ite_true, ite_false, D.sub, D.cell, D.elem, D.cells, D.padd, D.list, D.push, Lis.enc] <;> simp) (fun _ => ⟨rfl, rfl⟩) (fun h => by cases h) ?_
      simp only [zz, RT.den, den, O1.eval, O2.eval, D.eqb, Ags.none, reduceCtorEq, forall_const, if_true, if_false, ite_true, ite_false, D.sub, D.cell, D.elem, D.cells, D.padd, D.list, D.push, Lis.enc, List.length_map, hi, getD_map hi, Ent.enc, v1, v2, Val.enc]
      exact ⟨fun h => by simp at h, (), by rw [wr64_eq] <;> omega⟩
    · rw [o1]
      rw [hup] at o5 hqk
      obtain ⟨v1, v2⟩ := hpv m.va (by rw [x2, o5])
      refine denR_call findR_ok ⟨l, l.cues[q].num, hl, by simp only [zz, RT.den, den, O1.eval, O2.eval, D.eqb, Ags.none, reduceCtorEq, forall_const, if_true, if_false, ite_true, ite_false, D.sub, D.cell, D.elem, D.cells, D.padd, D.list, D.push, Lis.enc], _, rfl, ?_⟩
      rw [o2]
      have hck := (rightL_of hch).cues _ (List.getElem_mem hq)
      have hqo := hl.cues _ (List.getElem_mem hq)
      obtain ⟨hlow, hlm⟩ := low_mfind (hR.moves _ (List.getElem_mem hq)) o4
      have hmem : A[i] ∈ lookL (l.cues.take (k + 1)) (k + 1) := by
        rw [← hx]
        refine List.mem_map.2 ⟨p, moved_take hq hqk o3, ?_⟩
        rw [valued_take]
      have hqk' : ¬ (k : Int) < q := by omega
      have hq0 : ¬ (q : Int) < 0 := by omega
      have hsome : (mfind l.cues[q].moves p).isSome = true := by rw [o4]; rfl
      refine denR_gcall home15_ok false [.int .i64 0, .int .i64 0] (by simp only [zz, RT.den, den, O1.eval, O2.eval, D.eqb, Ags.none, reduceCtorEq, forall_const, if_true, if_false, ite_true, ite_false, D.sub, D.cell, D.elem, D.cells, D.padd, D.list, D.push, Lis.enc, hq0, hqk'] <;> simp) (fun h => by cases h) (fun _ => rfl) ?_
      simp only [zz, RT.den, den, O1.eval, O2.eval, D.eqb, Ags.none, reduceCtorEq, forall_const, if_true, if_false, ite_true, ite_false, D.sub, D.cell, D.elem, D.cells, D.padd, D.list, D.push, Lis.enc, List.length_map, hi, getD_map hi, Ent.enc, hq, hq0, hqk', x1, v1, v2]
      refine ⟨by omega, ?_⟩
      refine denR_call cfind_ok ⟨l.cues[q], p, hqo, hck, hpo.1, hpo.2, by simp only [zz, RT.den, den, O1.eval, O2.eval, D.eqb, Ags.none, reduceCtorEq, forall_const, if_true, if_false, ite_true, ite_false, D.sub, D.cell, D.elem, D.cells, D.padd, D.list, D.push, Lis.enc, getD_map hi, Ent.enc, getD_map hq, Cue.enc, Par.enc, x1], _, rfl, ?_⟩
      rw [hsome]
      generalize hW : low l.cues[q].moves p = w at *
      have hw0 : ¬ (w : Int) < 0 := by omega
      have hw1 : ¬ (l.cues[q].moves.length ≤ w) := by omega
      have hme : l.cues[q].moves[w].va = m.va := by rw [hlm]
      simp only [zz, RT.den, den, O1.eval, O2.eval, D.eqb, Ags.none, reduceCtorEq, forall_const, if_true, if_false, ite_true, ite_false, D.sub, D.cell, D.elem, D.cells, D.padd, D.list, D.push, Lis.enc, List.length_map, hi, getD_map hi, Ent.enc, getD_map hq, Cue.enc, hlow, getD_map hlow, Mov.enc, hlm, hw0, hw1, x1, v1, v2]
      intro _
      refine ⟨by omega, ?_⟩
      refine denR_gcall containsE_ok true [.bool true] (by simp only [zz, RT.den, den, O1.eval, O2.eval, D.eqb, Ags.none, reduceCtorEq, forall_const, if_true, if_false, ite_true, ite_false, D.sub, D.cell, D.elem, D.cells, D.padd, D.list, D.push, Lis.enc, List.length_map, hi, getD_map hi, Ent.enc, getD_map hq, Cue.enc, hlow, getD_map hlow, Mov.enc, hlm, hw0, hw1, x1, v1, v2] <;> simp) (fun _ => ⟨lookL (l.cues.take (k + 1)) (k + 1), A[i], hEe, hmem, by simp only [zz, RT.den, den, O1.eval, O2.eval, D.eqb, Ags.none, reduceCtorEq, forall_const, if_true, if_false, ite_true, ite_false, D.sub, D.cell, D.elem, D.cells, D.padd, D.list, D.push, Lis.enc, getD_map hi, Ent.enc, x1], rfl⟩) (fun h => by cases h) ?_
      simp only [zz, RT.den, den, O1.eval, O2.eval, D.eqb, Ags.none, reduceCtorEq, forall_const, if_true, if_false, ite_true, ite_false, D.sub, D.cell, D.elem, D.cells, D.padd, D.list, D.push, Lis.enc, List.length_map, hi, getD_map hi, Ent.enc, getD_map hq, Cue.enc, hlow, getD_map hlow, Mov.enc, hlm, hw0, hw1, x1, v1, v2]
      exact ⟨fun h => by simp at h, fun _ => ⟨(), by rw [wr64_eq] <;> omega⟩⟩
  · intro _ _
    simp only [zz, RT.den, den, O1.eval, O2.eval, D.eqb, Ags.none, reduceCtorEq, forall_const, if_true, if_false, ite_true, ite_false, D.sub, D.cell, D.elem, D.cells, D.padd, D.list, D.push, List.length_map, Nat.lt_irrefl]
    refine denR_call awake18_ok ⟨rfl, _, rfl, ?_⟩
    simp only [zz, RT.den, den, O1.eval, O2.eval, D.eqb, Ags.none, reduceCtorEq, forall_const, if_true, if_false, ite_true, ite_false, D.sub, D.cell, D.elem, D.cells, D.padd, D.list, D.push]
    exact hK
theorem law15 : Contract Tryz.prog 15 (LawSpec Tryz.prog 15) :=
  law15_typed.weaken fun args K _ h => by
    obtain ⟨h1, h2, hK⟩ := lawArgs [.agg liKs, .cell .str] (by kernel_rfl) h
    match args, h1 with
    | [a, b], _ =>
      obtain ⟨l, hl, rfl⟩ := Lis.ofAgg (h2 0 _ _ rfl rfl)
      obtain ⟨s, rfl⟩ := str_of (h2 1 _ _ rfl rfl)
      exact ⟨l, s, hl, rfl, hK⟩
end Go.Sx.La
