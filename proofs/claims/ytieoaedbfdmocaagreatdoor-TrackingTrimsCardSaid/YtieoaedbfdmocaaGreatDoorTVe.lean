/-
 A law as a contract (and what it needs).
-/
import Derived.Test.YtieoaedbfdmocaaGreatDoorTVd
set_option linter.unusedSimpArgs false
set_option linter.unusedVariables false
set_option linter.unusedSectionVars false
set_option linter.defProp false
set_option maxRecDepth 100000
set_option maxRecDepth 100000
namespace Go.Sx.La
open Go Go.Sx Go.RowKit Go.Proofs
noncomputable def t188 : R := .fact (.o2 .le (.o1 .len (.var 0)) (.int .i64 140737488355328)) (.loop 0 [.int .i64 0] [.int .i64] (.ite (.o2 .lt (.var 3) (.o1 .len (.var 0))) (.need (.o2 .le (.int .i64 0) (.var 3)) (.ite (.o2 .band (.o2 .eq (.var 1) (.idx (.var 0) (.var 3) 0 (.int .i64))) (.o2 .band (.o2 .eq (.var 2) (.idx (.var 0) (.var 3) 1 (.int .i64))) (.bool true))) (.ret [.d (.var 3)]) (.again 0 [.o2 (.add .i64) (.var 3) (.int .i64 1)]))) (.ret [.d (.int .i64 (-1))])))
theorem t188_ok : fnO Tryz.prog mdA 188 [.cell (.slice [.int .i64, .int .i64]), .agg [.int .i64, .int .i64]] = t188 := by kernel_rfl
theorem c188 : callable Tryz.prog 188 = true := by kernel_rfl
noncomputable def t147 : R := .call none (.fn 188) [.var 0, .lcons (.var 1) (.lcons (.var 2) .lnil)] [.cell (.int .i64)] (.ret [.d (.o2 .ge (.var 3) (.int .i64 0))])
theorem t147_ok : fnO Tryz.prog mdA 147 [.cell (.slice [.int .i64, .int .i64]), .agg [.int .i64, .int .i64]] = t147 := by kernel_rfl
theorem c147 : callable Tryz.prog 147 = true := by kernel_rfl
noncomputable def t146 : R := .call none (.fn 147) [.fld (.var 5) 0 (.slice [.int .i64, .int .i64]), .lcons (.var 0) (.lcons (.var 1) .lnil)] [.cell .bool] (.ret [.d (.var 6)])
theorem t146_ok : fnO Tryz.prog mdA 146 ([.agg [.int .i64, .int .i64, .int .i64, .int .i64, .int .i64]] ++ [.cell (.ptr [.slice paKs])]) = t146 := by kernel_rfl
theorem c146 : callable Tryz.prog 146 = true := by kernel_rfl
noncomputable def t145 : R := .guess (.o2 .eq (.o1 .len (.var 0)) (.int .i64 0)) (.ite (.var 1) (.ret [.own 5 .nils]) (.need (.o2 .le (.o1 .len (.o2 .app .nils (.var 0))) (.int .i64 3518437208883)) (.ret [.own 5 (.o2 .app .nils (.var 0))])))
theorem t145_ok : fnO Tryz.prog mdA 145 [.cell (.slice [.int .i64, .int .i64, .int .i64, .int .i64, .int .i64])] = t145 := by kernel_rfl
theorem c145 : callable Tryz.prog 145 = true := by kernel_rfl
noncomputable def t189 : R := .guess (.o2 .eq (.o1 .len (.var 0)) (.int .i64 0)) (.ite (.var 1) (.ret [.own 6 .nils]) (.need (.o2 .le (.o1 .len (.o2 .app .nils (.var 0))) (.int .i64 2932031007402)) (.ret [.own 6 (.o2 .app .nils (.var 0))])))
theorem t189_ok : fnO Tryz.prog mdA 189 [.cell (.slice [.int .i64, .int .i64, .int .i64, .int .i64, .int .i64, .int .i64])] = t189 := by kernel_rfl
theorem c189 : callable Tryz.prog 189 = true := by kernel_rfl
noncomputable def t148 : R := .call none (.fn 189) [.var 3] [.own [.int .i64, .int .i64, .int .i64, .int .i64, .int .i64, .int .i64]] (.ret [.box (.lcons (.var 0) (.lcons (.var 1) (.lcons (.var 2) (.lcons (.var 9) (.lcons (.var 4) (.lcons (.var 5) (.lcons (.var 6) (.lcons (.var 7) (.lcons (.var 8) .lnil)))))))))])
theorem t148_ok : fnUO Tryz.prog mdA 148 [.box cueKs] = t148 := by kernel_rfl
theorem c148 : callable Tryz.prog 148 = true := by kernel_rfl
noncomputable def t82 : R := .call none (.fn 94) [.lcons (.var 0) (.lcons (.var 1) (.lcons (.var 2) (.lcons (.var 3) (.lcons (.var 4) (.lcons (.var 5) (.lcons (.var 6) (.lcons (.var 7) (.lcons (.var 8) .lnil))))))))] [.cell (.int .i64)] (.ite (.o2 .ne (.var 10) (.int .i64 0)) (.ret [.d (.lcons (.str []) (.lcons (.str []) (.lcons .nils (.lcons .nils (.lcons (.bool false) (.lcons (.bool false) (.lcons (.int .i64 0) (.lcons (.str []) (.lcons (.int .i64 0) .lnil))))))))), .d (.var 10)]) (.fact (.o2 .le (.o1 .len (.var 9)) (.int .i64 140737488355328)) (.ite (.o2 .gt (.o1 .len (.var 9)) (.int .i64 4096)) (.ret [.d (.lcons (.str []) (.lcons (.str []) (.lcons .nils (.lcons .nils (.lcons (.bool false) (.lcons (.bool false) (.lcons (.int .i64 0) (.lcons (.str []) (.lcons (.int .i64 0) .lnil))))))))), .d (.int .i64 5)]) (.loop 0 [.int .i64 0] [.int .i64] (.ite (.o2 .lt (.var 11) (.o1 .len (.var 9))) (.need (.o2 .le (.int .i64 0) (.var 11)) (.call none (.fn 140) [.lcons (.idx (.var 9) (.var 11) 0 (.int .i64)) (.lcons (.idx (.var 9) (.var 11) 1 (.int .i64)) .lnil)] [.cell (.int .i64)] (.ite (.o2 .ne (.var 12) (.int .i64 0)) (.ret [.d (.lcons (.str []) (.lcons (.str []) (.lcons .nils (.lcons .nils (.lcons (.bool false) (.lcons (.bool false) (.lcons (.int .i64 0) (.lcons (.str []) (.lcons (.int .i64 0) .lnil))))))))), .d (.var 12)]) (.again 0 [.o2 (.add .i64) (.var 11) (.int .i64 1)])))) (.call none (.fn 145) [.var 2] [.own [.int .i64, .int .i64, .int .i64, .int .i64, .int .i64]] (.callX false 144 [.own 5 (.var 12), .d (.clo 146 (.lcons (.ptr (.lcons (.var 9) .lnil)) .lnil))] [.own [.int .i64, .int .i64, .int .i64, .int .i64, .int .i64]] (.callX true 148 [.box (.lcons (.var 0) (.lcons (.var 1) (.lcons (.var 13) (.lcons (.var 3) (.lcons (.var 4) (.lcons (.var 5) (.lcons (.var 6) (.lcons (.var 7) (.lcons (.var 8) .lnil)))))))))] [.box [.str, .str, .slice [.int .i64, .int .i64, .int .i64, .int .i64, .int .i64], .slice [.int .i64, .int .i64, .int .i64, .int .i64, .int .i64, .int .i64], .bool, .bool, .int .i64, .str, .int .i64]] (.ret [.d (.lcons (.var 14) (.lcons (.var 15) (.lcons (.var 16) (.lcons (.var 17) (.lcons (.var 18) (.lcons (.var 19) (.lcons (.var 20) (.lcons (.var 21) (.lcons (.var 22) .lnil))))))))), .d (.int .i64 0)])))))))))
theorem t82_ok : fnO Tryz.prog mdA 82 [.agg [.str, .str, .slice [.int .i64, .int .i64, .int .i64, .int .i64, .int .i64], .slice [.int .i64, .int .i64, .int .i64, .int .i64, .int .i64, .int .i64], .bool, .bool, .int .i64, .str, .int .i64], .cell (.slice [.int .i64, .int .i64])] = t82 := by kernel_rfl
theorem c82 : callable Tryz.prog 82 = true := by kernel_rfl
theorem idxGo_any {X : Type} (p : X → Bool) : ∀ (xs : List X) (i : Nat), decide (0 ≤ idxGo p i xs) = xs.any p
 | [], i => by simp [idxGo]
 | x :: xs, i => by
   simp only [idxGo, List.any_cons]
   by_cases hx : p x = true
   · simp [hx]
   · simp only [hx, if_false, Bool.false_or]; simpa [hx] using idxGo_any p xs (i + 1)
theorem indexP_ok : Contract Tryz.prog 188 fun args K => ∃ (a : List Par) (e : Par), (∀ x ∈ a, x.Ok) ∧ e.Ok ∧ args = [.slice (a.map Par.enc), .agg e.enc] ∧ K [.d (.int .i64 (idxGo (fun x => decide (x = e)) 0 a))] := by
 refine .of c188 t188_ok ?_
 rintro _ K ⟨a, e, ha, he, rfl, hK⟩ hsm
 refine ⟨.slice (a.map Par.enc) :: e.enc, rfl, by exact (show HasKs (.slice paKs :: paKs) _ from ⟨pars_has ha, Par.has he⟩), ?_⟩
 simp only [zz, RT.den, den, O1.eval, O2.eval, D.eqb, reduceCtorEq, D.sub, D.cell, D.elem, D.cells, D.padd, D.list, D.push, t188, List.length_map, Par.enc]
 intro hcap
 refine loop_go a (fun i l (_ : Unit) => idxGo (fun x => decide (x = e)) i l) (fun i _ => [.int .i64 i]) () _ rfl 0 (fun _ _ => rfl) rfl ?_ ?_
 · intro i hi _ hgo
   simp only [idxGo] at hgo
   have heq : (e.ch = a[i].ch ∧ e.at_ = a[i].at_) ↔ a[i] = e := by
     constructor
     · rintro ⟨h1, h2⟩
       exact Par.ext' h1.symm h2.symm
     · rintro rfl; exact ⟨rfl, rfl⟩
   simp only [zz, RT.den, den, O1.eval, O2.eval, D.eqb, reduceCtorEq, D.sub, D.cell, D.elem, D.cells, D.padd, D.list, D.push, List.length_map, hi, getD_map hi, Par.enc]
   refine ⟨by omega, fun h => ?_, fun h => ?_⟩
   · have hx : a[i] = e := heq.1 (by simpa using h)
     rw [if_pos (by simp [hx])] at hgo
     rw [← hgo] at hK; exact hK
   · have hx : ¬ a[i] = e := fun hx => by
       have := heq.2 hx
       simp [this] at h
     rw [if_neg (by simp [hx])] at hgo
     exact ⟨(), by rw [wr64_eq] <;> omega, hgo⟩
 · intro _ hgo
   simp only [idxGo] at hgo
   simp only [zz, RT.den, den, O1.eval, O2.eval, D.eqb, reduceCtorEq, D.sub, D.cell, D.elem, D.cells, D.padd, D.list, D.push, List.length_map, Nat.lt_irrefl]
   rw [← hgo] at hK; exact hK
theorem containsP_ok : Contract Tryz.prog 147 fun args K => ∃ (a : List Par) (e : Par), (∀ x ∈ a, x.Ok) ∧ e.Ok ∧ args = [.slice (a.map Par.enc), .agg e.enc] ∧ K [.d (.bool (a.any fun x => decide (x = e)))] := by
 refine .of c147 t147_ok ?_
 rintro _ K ⟨a, e, ha, he, rfl, hK⟩ hsm
 refine ⟨.slice (a.map Par.enc) :: e.enc, rfl, by exact (show HasKs (.slice paKs :: paKs) _ from ⟨pars_has ha, Par.has he⟩), ?_⟩
 refine denR_call indexP_ok ⟨a, e, ha, he, by simp only [zz, RT.den, den, O1.eval, O2.eval, D.eqb, reduceCtorEq, D.sub, D.cell, D.elem, D.cells, D.padd, D.list, D.push, Par.enc], _, rfl, ?_⟩
 simp only [zz, RT.den, den, O1.eval, O2.eval, D.eqb, reduceCtorEq, D.sub, D.cell, D.elem, D.cells, D.padd, D.list, D.push, Par.enc]
 rw [idxGo_any]
 exact hK
theorem drop1_ok : Contract Tryz.prog 146 fun args K => ∃ (m : Mov) (ps : List Par), m.Ok ∧ (∀ x ∈ ps, x.Ok) ∧ args = [.agg m.enc, .ptr [.slice (ps.map Par.enc)]] ∧ K [.d (.bool (ps.any fun x => decide (x = m.pa)))] := by
 refine .of c146 t146_ok ?_
 rintro _ K ⟨m, ps, hm, hps, rfl, hK⟩ hsm
 refine ⟨m.enc ++ [.ptr [.slice (ps.map Par.enc)]], rfl, by exact (Mov.has hm).append (show HasKs [.ptr [.slice paKs]] [.ptr [.slice (ps.map Par.enc)]] from ⟨⟨pars_has hps, trivial⟩, trivial⟩), ?_⟩
 refine denR_call containsP_ok ⟨ps, m.pa, hps, hm.1, by simp only [zz, RT.den, den, O1.eval, O2.eval, D.eqb, reduceCtorEq, D.sub, D.cell, D.elem, D.cells, D.padd, D.list, D.push, Mov.enc, Par.enc], _, rfl, ?_⟩
 simp only [zz, RT.den, den, O1.eval, O2.eval, D.eqb, reduceCtorEq, D.sub, D.cell, D.elem, D.cells, D.padd, D.list, D.push, Mov.enc]
 exact hK
theorem drop1_says (ms : List Mov) (hms : ∀ m ∈ ms, m.Ok) (ps : List Par) (hps : ∀ x ∈ ps, x.Ok) : SaysOf Tryz.prog (.clo 146 [.ptr [.slice (ps.map Par.enc)]]) Mov.enc ms (fun m => ps.any fun x => decide (x = m.pa)) := by
 refine ⟨fun as_ K => ∃ m : Mov, m.Ok ∧ as_ = [.agg m.enc] ∧ K [.d (.bool (ps.any fun x => decide (x = m.pa)))], FvC.of c146 drop1_ok ?_, fun m hm => ⟨m, hms m hm, rfl, rfl⟩⟩
 rintro _ K ⟨m, hm, rfl, hK⟩
 refine ⟨⟨m, ps, hm, hps, rfl, hK⟩, argsTyped_of [some (.agg mvKs)] (by kernel_rfl) ?_⟩
 intro i rk d h1 h2
 cases i with
 | zero => simp at h1 h2; subst h1 h2; exact Mov.has hm
 | succ i => simp at h1
theorem cloneM_ok : Contract Tryz.prog 145 fun args K => ∃ (ms : List Mov), (∀ m ∈ ms, m.Ok) ∧ ms.length ≤ 1000000 ∧ args = [.slice (ms.map Mov.enc)] ∧ K [.own 5 (ms.map Mov.enc)] := by
 refine .of c145 t145_ok ?_
 rintro _ K ⟨cs, hcs, hlen, rfl, hK⟩ hsm
 refine ⟨[.slice (cs.map Mov.enc)], rfl, ⟨slice_has fun m hm => Mov.has (hcs m hm), trivial⟩, ?_⟩
 unfold t145
 simp only [denR]
 intro b hb
 simp only [zz, RT.den, den, O1.eval, O2.eval, D.eqb, reduceCtorEq, D.sub, D.cell, D.elem, D.cells, D.padd, D.list, D.push, List.length_map]
 cases b with
 | true =>
   have := hb rfl
   simp only [zz, RT.den, den, O1.eval, O2.eval, D.eqb, reduceCtorEq, D.sub, D.cell, D.elem, D.cells, D.padd, D.list, D.push, List.length_map] at this
   have h0 : cs = [] := List.eq_nil_of_length_eq_zero (by omega)
   subst h0
   exact ⟨fun _ => hK, fun h => by simp at h⟩
 | false => exact ⟨fun h => by simp at h, fun _ => ⟨by omega, hK⟩⟩
theorem cloneT_ok : Contract Tryz.prog 189 fun args K => ∃ (ts : List Tim), (∀ m ∈ ts, m.Ok) ∧ ts.length ≤ 1000000 ∧ args = [.slice (ts.map Tim.enc)] ∧ K [.own 6 (ts.map Tim.enc)] := by
 refine .of c189 t189_ok ?_
 rintro _ K ⟨cs, hcs, hlen, rfl, hK⟩ hsm
 refine ⟨[.slice (cs.map Tim.enc)], rfl, ⟨slice_has fun m hm => Tim.has (hcs m hm), trivial⟩, ?_⟩
 unfold t189
 simp only [denR]
 intro b hb
 simp only [zz, RT.den, den, O1.eval, O2.eval, D.eqb, reduceCtorEq, D.sub, D.cell, D.elem, D.cells, D.padd, D.list, D.push, List.length_map]
 cases b with
 | true =>
   have := hb rfl
   simp only [zz, RT.den, den, O1.eval, O2.eval, D.eqb, reduceCtorEq, D.sub, D.cell, D.elem, D.cells, D.padd, D.list, D.push, List.length_map] at this
   have h0 : cs = [] := List.eq_nil_of_length_eq_zero (by omega)
   subst h0
   exact ⟨fun _ => hK, fun h => by simp at h⟩
 | false => exact ⟨fun h => by simp at h, fun _ => ⟨by omega, hK⟩⟩
theorem keep_ok : ContractX Tryz.prog 148 [.box cueKs] true fun args K => ∃ c : Cue, c.Ok ∧ c.parts.length ≤ 1000000 ∧ args = [.box c.enc] ∧ K [.box c.enc] := by
 refine .ofU c148 t148_ok ?_
 rintro _ K ⟨c, hc, hlen, rfl, hK⟩
 refine ⟨c.enc, rfl, by exact Cue.has hc, ?_⟩
 refine denR_call cloneT_ok ⟨c.parts, hc.parts, hlen, by simp only [zz, RT.den, den, O1.eval, O2.eval, D.eqb, reduceCtorEq, D.sub, D.cell, D.elem, D.cells, D.padd, D.list, D.push, Cue.enc], _, rfl, ?_⟩
 simp only [zz, RT.den, den, O1.eval, O2.eval, D.eqb, reduceCtorEq, D.sub, D.cell, D.elem, D.cells, D.padd, D.list, D.push, Cue.enc]
 exact hK
def dropC (c : Cue) (ps : List Par) : Cue := { c with moves := c.moves.filter fun m => !ps.any fun x => decide (x = m.pa) }
theorem dropC_Ok {c : Cue} (h : c.Ok) (ps : List Par) : (dropC c ps).Ok := { h with moves := fun m hm => h.moves m (List.mem_filter.1 hm).1 }
theorem cdrop_ok : Contract Tryz.prog 82 fun args K => ∃ (c : Cue) (ps : List Par), c.Ok ∧ check16 c = 0 ∧ c.parts.length ≤ 1000000 ∧ c.moves.length ≤ 1000000 ∧ (∀ p ∈ ps, p.Ok ∧ param15 p = 0) ∧ ps.length ≤ 4096 ∧ args = [.agg c.enc, .slice (ps.map Par.enc)] ∧
   K [.d (.agg (dropC c ps).enc), .d (.int .i64 0)] := by
 refine .of c82 t82_ok ?_
 rintro _ K ⟨c, ps, hc, hck, hpl, hml, hps, hlen, rfl, hK⟩ hsm
 refine ⟨c.enc ++ [.slice (ps.map Par.enc)], rfl, by exact (Cue.has hc).append (show HasKs [.slice paKs] _ from ⟨pars_has fun p hp => (hps p hp).1, trivial⟩), ?_⟩
 refine denR_call ccheck_ok ⟨c, hc, by simp only [zz, RT.den, den, O1.eval, O2.eval, D.eqb, reduceCtorEq, D.sub, D.cell, D.elem, D.cells, D.padd, D.list, D.push, Cue.enc], _, rfl, ?_⟩
 rw [hck]
 simp only [zz, RT.den, den, O1.eval, O2.eval, D.eqb, reduceCtorEq, D.sub, D.cell, D.elem, D.cells, D.padd, D.list, D.push, Cue.enc, List.length_map]
 refine fun hcap => ⟨fun h => ?_, fun _ => ?_⟩
 · have : (4096 : Int) < ps.length := by simpa using h
   omega
 refine loop_goI ps (fun _ _ (_ : Unit) => ()) (fun i _ => [.int .i64 i]) (fun _ _ => True) () () rfl trivial 0 (fun _ _ => rfl) (by simp only [zz, RT.den, den, O1.eval, O2.eval, D.eqb, reduceCtorEq, D.sub, D.cell, D.elem, D.cells, D.padd, D.list, D.push]; rfl) ?_ ?_
 · rintro i hi _ _ _
   have hp := hps ps[i] (List.getElem_mem hi)
   simp only [zz, RT.den, den, O1.eval, O2.eval, D.eqb, reduceCtorEq, D.sub, D.cell, D.elem, D.cells, D.padd, D.list, D.push, List.length_map, hi, getD_map hi]
   refine ⟨by omega, denR_call cparam_ok ⟨ps[i], hp.1, by simp only [zz, RT.den, den, O1.eval, O2.eval, D.eqb, reduceCtorEq, D.sub, D.cell, D.elem, D.cells, D.padd, D.list, D.push, getD_map hi, Par.enc], _, rfl, ?_⟩⟩
   rw [hp.2]
   simp only [zz, RT.den, den, O1.eval, O2.eval, D.eqb, reduceCtorEq, D.sub, D.cell, D.elem, D.cells, D.padd, D.list, D.push]
   exact ⟨(), by rw [wr64_eq] <;> omega⟩
 · rintro _ _ _
   simp only [zz, RT.den, den, O1.eval, O2.eval, D.eqb, reduceCtorEq, D.sub, D.cell, D.elem, D.cells, D.padd, D.list, D.push, List.length_map, Nat.lt_irrefl]
   refine denR_call cloneM_ok ⟨c.moves, hc.moves, hml, by simp only [zz, RT.den, den, O1.eval, O2.eval, D.eqb, reduceCtorEq, D.sub, D.cell, D.elem, D.cells, D.padd, D.list, D.push, Cue.enc], _, rfl, ?_⟩
   refine denR_callX delMov_ok ⟨[.slice (c.moves.map Mov.enc), .clo 146 [.ptr [.slice (ps.map Par.enc)]]], rfl, ⟨slice_has fun m hm => Mov.has (hc.moves m hm), trivial, trivial⟩⟩ (fun h => by cases h) ?_
   refine ⟨c.moves, fun m => ps.any fun x => decide (x = m.pa), 146, [.ptr [.slice (ps.map Par.enc)]], hc.moves, hml, by simp only [zz, RT.den, den, O1.eval, O2.eval, D.eqb, reduceCtorEq, D.sub, D.cell, D.elem, D.cells, D.padd, D.list, D.push, Cue.enc], drop1_says c.moves hc.moves ps (fun p hp => (hps p hp).1), [.slice ((dropC c ps).moves.map Mov.enc)], rfl, ?_⟩
   have hd := dropC_Ok hc ps
   refine denR_callX keep_ok ⟨(dropC c ps).enc, by simp only [zz, RT.den, den, O1.eval, O2.eval, D.eqb, reduceCtorEq, D.sub, D.cell, D.elem, D.cells, D.padd, D.list, D.push, Cue.enc]; rfl, Cue.has hd⟩ (fun _ => by kernel_rfl) ?_
   refine ⟨dropC c ps, hd, hpl, by simp only [zz, RT.den, den, O1.eval, O2.eval, D.eqb, reduceCtorEq, D.sub, D.cell, D.elem, D.cells, D.padd, D.list, D.push, Cue.enc]; rfl, (dropC c ps).enc, rfl, ?_⟩
   simp only [zz, RT.den, den, O1.eval, O2.eval, D.eqb, reduceCtorEq, D.sub, D.cell, D.elem, D.cells, D.padd, D.list, D.push, Cue.enc]
   exact hK
end Go.Sx.La
set_option maxRecDepth 100000
namespace Go.Sx.La
open Go Go.Sx Go.RowKit Go.Proofs
theorem movesGo_all {xs : List Mov} : ∀ (ms : List Mov) (i : Nat), movesGo xs i ms = 0 → ∀ m ∈ ms, param15 m.pa = 0 ∧ value15 m.va = 0 ∧ ¬(m.part < 1 ∨ 4 < m.part)
 | [], i, _, m, hm => by simp at hm
 | x :: ms, i, h, m, hm => by
   simp only [movesGo] at h
   split at h
   · rename_i hc; exact absurd h hc
   rename_i h1
   split at h
   · rename_i hc; exact absurd h hc
   rename_i h2
   split at h
   · cases h
   rename_i h3
   split at h
   · cases h
   rcases List.mem_cons.1 hm with rfl | hm
   · exact ⟨by simpa using h1, by simpa using h2, h3⟩
   · exact movesGo_all ms (i + 1) h m hm
theorem movesGo_of {xs : List Mov} (hp : RisingM xs) : ∀ (ms : List Mov) (i : Nat), ms = xs.drop i → (∀ m ∈ ms, param15 m.pa = 0 ∧ value15 m.va = 0 ∧ ¬(m.part < 1 ∨ 4 < m.part)) → movesGo xs i ms = 0
 | [], i, _, _ => rfl
 | m :: ms, i, he, h => by
   have hlt : i < xs.length := by
     rcases Nat.lt_or_ge i xs.length with h | h
     · exact h
     · rw [List.drop_eq_nil_of_le h] at he; cases he
   rw [List.drop_eq_getElem_cons hlt] at he
   obtain ⟨rfl, rfl⟩ := List.cons.inj he
   obtain ⟨h1, h2, h3⟩ := h xs[i] List.mem_cons_self
   simp only [movesGo]
   rw [if_neg (by simp [h1]), if_neg (by simp [h2]), if_neg h3, if_neg]
   · exact movesGo_of hp _ (i + 1) rfl fun m hm => h m (List.mem_cons_of_mem _ hm)
   · rintro ⟨h0, hb⟩
     rw [getElem!_pos xs (i - 1) (by omega)] at hb
     have := List.pairwise_iff_getElem.1 hp (i - 1) i (by omega) hlt (by omega)
     rw [this] at hb; cases hb
theorem moves16_filter {ms : List Mov} (h : moves16 ms = 0) (f : Mov → Bool) : moves16 (ms.filter f) = 0 := by
 have hR := rightM_of h
 have hl : (ms.filter f).length ≤ 128 := Nat.le_trans (List.length_filter_le _ _) hR.len
 have hall := movesGo_all ms 0 (by unfold moves16 at h; split at h; cases h; exact h)
 unfold moves16
 rw [if_neg (by omega)]
 exact movesGo_of (hR.rising.filter _) _ 0 rfl fun m hm => hall m (List.mem_filter.1 hm).1
theorem partIn_iff {n : Nat} : ∀ {ms : List Mov}, partIn n ms = true ↔ ∀ m ∈ ms, ¬ (n : Int) < m.part
 | [] => by simp [partIn]
 | m :: ms => by
   simp only [partIn]
   split
   · rename_i h
     exact ⟨fun h' => (by cases h'), fun h' => absurd h (h' m List.mem_cons_self)⟩
   · rename_i h
     rw [partIn_iff]
     exact ⟨fun h' x hx => (List.mem_cons.1 hx).elim (fun e => e ▸ h) (h' x), fun h' x hx => h' x (List.mem_cons_of_mem _ hx)⟩
theorem check16_drop {c : Cue} (h : check16 c = 0) (ps : List Par) : check16 (dropC c ps) = 0 := by
 have e : check16 (dropC c ps) = if check05 c.num ≠ 0 then check05 c.num else if label16 c.label ≠ 0 then label16 c.label else if moves16 (dropC c ps).moves ≠ 0 then moves16 (dropC c ps).moves else if parts16 c.parts ≠ 0 then parts16 c.parts else if partIn c.parts.length (dropC c ps).moves = false then 6 else next16 c := rfl
 rw [e]
 have hm := moves16_filter (check16_moves h) (fun m => !ps.any fun x => decide (x = m.pa))
 have hm' : moves16 (dropC c ps).moves = 0 := hm
 unfold check16 at h
 split at h
 · rename_i h1; exact absurd h h1
 rename_i h1
 rw [if_neg h1]
 split at h
 · rename_i h1; exact absurd h h1
 rename_i h2
 rw [if_neg h2]
 split at h
 · rename_i h1; exact absurd h h1
 rw [if_neg (by simp [hm'])]
 split at h
 · rename_i h1; exact absurd h h1
 rename_i h4
 rw [if_neg h4]
 split at h
 · cases h
 rename_i h5
 have h5 : partIn c.parts.length c.moves = true := by simpa using h5
 have h6 : partIn c.parts.length (dropC c ps).moves = true := partIn_iff.2 fun m hm => partIn_iff.1 h5 m (List.mem_filter.1 hm).1
 rw [if_neg (by simp [h6])]
 exact h
theorem ins_mid {d : Cue} : ∀ {A B : List Cue}, (∀ x ∈ A, valOf x < valOf d) → (∀ y ∈ B, valOf d < valOf y) → ins d (A ++ B) = A ++ d :: B
 | [], [], _, _ => rfl
 | [], y :: B, _, h => by
   have := h y (by simp)
   simp only [List.nil_append, ins]
   rw [if_neg (by omega)]
 | x :: A, B, h, h' => by
   have := h x (by simp)
   simp only [List.cons_append, ins]
   rw [if_pos this, ins_mid (fun z hz => h z (List.mem_cons_of_mem _ hz)) h']
theorem put_same {cs : List Cue} (hr : Rising cs) {k : Nat} (hk : k < cs.length) {d : Cue} (hd : d.num = cs[k].num) : ins d (without cs d.num) = cs.take k ++ d :: cs.drop (k + 1) := by
 rw [without_at hr hk hd.symm]
 have e := split_at hk
 have hr' := hr
 unfold Rising at hr'
 rw [e, List.pairwise_append, List.pairwise_cons] at hr'
 have hv : valOf d = valOf cs[k] := by simp [valOf, hd]
 refine ins_mid (fun x hx => ?_) fun y hy => ?_
 · rw [hv]; exact hr'.2.2 x hx _ List.mem_cons_self
 · rw [hv]; exact hr'.2.1.1 y hy
theorem mfind_drop {c : Cue} {ps : List Par} (p : Par) : mfind (dropC c ps).moves p = if p ∈ ps then none else mfind c.moves p := by
 unfold mfind dropC
 simp only
 induction c.moves with
 | nil => simp
 | cons m ms ih =>
   rw [List.filter_cons]
   by_cases hm : m.pa = p
   · subst hm
     by_cases hp : m.pa ∈ ps
     · have : (!ps.any fun x => decide (x = m.pa)) = false := by simp [hp]
       rw [if_neg (by simp [this]), ih, if_pos hp, if_pos hp]
     · have : (!ps.any fun x => decide (x = m.pa)) = true := by simpa using fun x hx (e : x = m.pa) => hp (e ▸ hx)
       rw [if_pos this, if_neg hp]
       simp
   · by_cases hq : (!ps.any fun x => decide (x = m.pa)) = true
     · rw [if_pos hq]
       simp only [List.find?_cons, hm, decide_false]
       exact ih
     · rw [if_neg hq]
       simp only [List.find?_cons, hm, decide_false]
       exact ih
theorem trim_valued {cs : List Cue} {k : Nat} (hk : k < cs.length) (hb : cs[k].block = false) {ps : List Par} (hps : ∀ p ∈ ps, valued cs p (k + 1) = valued cs p k) :
   ∀ n, n ≤ cs.length → ∀ p, valued (cs.take k ++ dropC cs[k] ps :: cs.drop (k + 1)) p n = valued cs p n := by
 intro n
 have hlen : (cs.take k ++ dropC cs[k] ps :: cs.drop (k + 1)).length = cs.length := by simp; omega
 induction n with
 | zero => intro _ p; simp [valued, lastM, backL]
 | succ n ih =>
   intro hn p
   have ih := ih (by omega) p
   rw [valued_succ (by omega : n < cs.length), valued_succ (by rw [hlen]; omega), ih]
   rcases Nat.lt_trichotomy n k with h | h | h
   · have e : (cs.take k ++ dropC cs[k] ps :: cs.drop (k + 1))[n]'(by rw [hlen]; omega) = cs[n] := by
       rw [List.getElem_append_left (by simp; omega), List.getElem_take]
     rw [e]
   · subst h
     have e : (cs.take n ++ dropC cs[n] ps :: cs.drop (n + 1))[n]'(by rw [hlen]; omega) = dropC cs[n] ps := by
       rw [List.getElem_append_right (by simp; omega)]
       simp [Nat.min_eq_left (Nat.le_of_lt hk)]
     rw [e, mfind_drop]
     have hb' : (dropC cs[n] ps).block = false := hb
     rw [hb', hb]
     by_cases hp : p ∈ ps
     · have := hps p hp
       rw [valued_succ hk, hb] at this
       rw [if_pos hp, this]; rfl
     · rw [if_neg hp]
   · have e : (cs.take k ++ dropC cs[k] ps :: cs.drop (k + 1))[n]'(by rw [hlen]; omega) = cs[n] := by
       rw [List.getElem_append_right (by simp; omega)]
       have e2 : n - (cs.take k).length = (n - (k + 1)) + 1 := by simp; omega
       simp only [e2, List.getElem_cons_succ, List.getElem_drop]
       congr 1; omega
     rw [e]
theorem trim_moved {cs : List Cue} {k : Nat} (hk : k < cs.length) {ps : List Par} {p : Par} (h : p ∈ movedL (cs.take k ++ dropC cs[k] ps :: cs.drop (k + 1))) : p ∈ movedL cs := by
 rw [mem_movedL] at h ⊢
 have e := split_at hk
 rw [e]
 unfold pars at h ⊢
 simp only [List.flatMap_append, List.flatMap_cons, List.mem_append] at h ⊢
 rcases h with h | h | h
 · exact .inl h
 · obtain ⟨m, hm, rfl⟩ := List.mem_map.1 h
   exact .inr (.inl (List.mem_map_of_mem (List.mem_filter.1 hm).1))
 · exact .inr (.inr h)
theorem trim_look {cs : List Cue} {k : Nat} (hk : k < cs.length) (hb : cs[k].block = false) {ps : List Par} (hps : ∀ p ∈ ps, valued cs p (k + 1) = valued cs p k) {n : Nat} (hn : n ≤ cs.length) :
   ∀ e ∈ lookL (cs.take k ++ dropC cs[k] ps :: cs.drop (k + 1)) n, e ∈ lookL cs n := by
 intro e he
 unfold lookL at he ⊢
 obtain ⟨p, hp, rfl⟩ := List.mem_map.1 he
 rw [trim_valued hk hb hps n hn p]
 exact List.mem_map_of_mem (f := fun p => (⟨p, valued cs p n⟩ : Ent)) (trim_moved hk hp)
def idleGo (steps : List Ent) (ms : List Mov) : List Par := (ms.filter fun m => !steps.any fun x => decide (x.pa = m.pa)).map (·.pa)
theorem idle_still {cs : List Cue} {k : Nat} (hk : k < cs.length) : ∀ p ∈ idleGo (diffE (lookL cs k) (lookL cs (k + 1))) cs[k].moves, valued cs p (k + 1) = valued cs p k := by
 intro p hp
 unfold idleGo at hp
 obtain ⟨m, hm, rfl⟩ := List.mem_map.1 hp
 obtain ⟨hmem, hno⟩ := List.mem_filter.1 hm
 have hmv : m.pa ∈ movedL cs := mem_movedL.2 (List.mem_flatMap.2 ⟨cs[k], List.getElem_mem hk, List.mem_map_of_mem hmem⟩)
 by_cases he : valued cs m.pa (k + 1) = valued cs m.pa k
 · exact he
 · exfalso
   have : (⟨m.pa, valued cs m.pa (k + 1)⟩ : Ent) ∈ diffE (lookL cs k) (lookL cs (k + 1)) := by
     unfold lookL
     rw [diff_map]
     exact List.mem_map_of_mem (f := fun p => (⟨p, valued cs p (k + 1)⟩ : Ent)) (List.mem_filter.2 ⟨hmv, by simpa using fun e => he e.symm⟩)
   simp only [Bool.not_eq_true', List.any_eq_false, decide_eq_true_eq] at hno
   exact hno _ this rfl
end Go.Sx.La
set_option maxRecDepth 100000
namespace Go.Sx.La
open Go Go.Sx Go.RowKit Go.Proofs
noncomputable def t81 : R := .ret [.d (.o2 .band (.o2 .eq (.var 0) (.fld (.padd (.var 4) 0) 0 (.int .i64))) (.o2 .band (.o2 .eq (.var 1) (.fld (.padd (.var 4) 0) 1 (.int .i64))) (.bool true)))]
theorem t81_ok : fnO Tryz.prog mdA 81 ([.agg [.int .i64, .int .i64, .int .i64, .int .i64]] ++ [.cell (.ptr mvKs)]) = t81 := by kernel_rfl
theorem c81 : callable Tryz.prog 81 = true := by kernel_rfl
noncomputable def t143 : R := .fact (.o2 .le (.o1 .len (.var 0)) (.int .i64 140737488355328)) (.loop 0 [.int .i64 0] [.int .i64] (.ite (.o2 .lt (.var 2) (.o1 .len (.var 0))) (.need (.o2 .le (.int .i64 0) (.var 2)) (.call none (.val (.var 1)) [.lcons (.idx (.var 0) (.var 2) 0 (.int .i64)) (.lcons (.idx (.var 0) (.var 2) 1 (.int .i64)) (.lcons (.idx (.var 0) (.var 2) 2 (.int .i64)) (.lcons (.idx (.var 0) (.var 2) 3 (.int .i64)) .lnil)))] [.cell .bool] (.ite (.var 3) (.ret [.d (.var 2)]) (.again 0 [.o2 (.add .i64) (.var 2) (.int .i64 1)])))) (.ret [.d (.int .i64 (-1))])))
theorem t143_ok : fnO Tryz.prog mdA 143 [.cell (.slice [.int .i64, .int .i64, .int .i64, .int .i64]), .cell .fn] = t143 := by kernel_rfl
theorem c143 : callable Tryz.prog 143 = true := by kernel_rfl
noncomputable def t80 : R := .call none (.fn 143) [.var 0, .var 1] [.cell (.int .i64)] (.ret [.d (.o2 .ge (.var 2) (.int .i64 0))])
theorem t80_ok : fnO Tryz.prog mdA 80 [.cell (.slice [.int .i64, .int .i64, .int .i64, .int .i64]), .cell .fn] = t80 := by kernel_rfl
theorem c80 : callable Tryz.prog 80 = true := by kernel_rfl
noncomputable def t16 : R := .call none (.fn 70) [.lcons (.var 0) (.lcons (.var 1) (.lcons (.var 2) .lnil))] [.cell .bool] (.fact (.ite (.o1 .not (.o1 .not (.var 4))) (.o2 .le (.o1 .len (.var 2)) (.int .i64 140737488355328)) (.bool true)) (.ite (.ite (.o1 .not (.var 4)) (.bool true) (.o2 .eq (.o1 .len (.var 2)) (.int .i64 0))) (.call none (.fn 47) [] [.cell .bool] (.ret [.d (.var 5)])) (.fact (.o2 .le (.o1 .len (.var 2)) (.int .i64 140737488355328)) (.need (.o2 .ne (.o1 .len (.var 2)) (.int .i64 0)) (.need (.o2 .le (.int .i64 0) (.o2 (.rem .i64) (.o1 (.conv .i64) (.var 3)) (.o1 .len (.var 2)))) (.need (.o2 .lt (.o2 (.rem .i64) (.o1 (.conv .i64) (.var 3)) (.o1 .len (.var 2))) (.o1 .len (.var 2))) (.call none (.fn 52) [.lcons (.var 0) (.lcons (.var 1) (.lcons (.var 2) .lnil)), .idx (.var 2) (.o2 (.rem .i64) (.o1 (.conv .i64) (.var 3)) (.o1 .len (.var 2))) 0 .str] [.cell (.slice [.int .i64, .int .i64, .int .i64, .int .i64]), .cell (.int .i64)] (.ite (.ite (.o2 .ne (.var 6) (.int .i64 0)) (.bool true) (.idx (.var 2) (.o2 (.rem .i64) (.o1 (.conv .i64) (.var 3)) (.o1 .len (.var 2))) 4 .bool)) (.call (some (.o2 .eq (.var 6) (.int .i64 0))) (.fn 47) [] [.cell .bool] (.ret [.d (.ite (.o2 .eq (.var 6) (.int .i64 0)) (.var 7) (.bool false))])) (.fact (.o2 .le (.o1 .len (.idx (.var 2) (.o2 (.rem .i64) (.o1 (.conv .i64) (.var 3)) (.o1 .len (.var 2))) 2 (.slice [.int .i64, .int .i64, .int .i64, .int .i64, .int .i64]))) (.int .i64 140737488355328)) (.loop 0 [.nils, .int .i64 0] [.slice [.int .i64, .int .i64], .int .i64] (.ite (.o2 .lt (.var 8) (.o1 .len (.idx (.var 2) (.o2 (.rem .i64) (.o1 (.conv .i64) (.var 3)) (.o1 .len (.var 2))) 2 (.slice [.int .i64, .int .i64, .int .i64, .int .i64, .int .i64])))) (.need (.o2 .le (.int .i64 0) (.var 8)) (.call none (.fn 80) [.var 5, .clo 81 (.lcons (.ptr (.lcons (.idx (.idx (.var 2) (.o2 (.rem .i64) (.o1 (.conv .i64) (.var 3)) (.o1 .len (.var 2))) 2 (.slice [.int .i64, .int .i64, .int .i64, .int .i64, .int .i64])) (.var 8) 0 (.int .i64)) (.lcons (.idx (.idx (.var 2) (.o2 (.rem .i64) (.o1 (.conv .i64) (.var 3)) (.o1 .len (.var 2))) 2 (.slice [.int .i64, .int .i64, .int .i64, .int .i64, .int .i64])) (.var 8) 1 (.int .i64)) (.lcons (.idx (.idx (.var 2) (.o2 (.rem .i64) (.o1 (.conv .i64) (.var 3)) (.o1 .len (.var 2))) 2 (.slice [.int .i64, .int .i64, .int .i64, .int .i64, .int .i64])) (.var 8) 2 (.int .i64)) (.lcons (.idx (.idx (.var 2) (.o2 (.rem .i64) (.o1 (.conv .i64) (.var 3)) (.o1 .len (.var 2))) 2 (.slice [.int .i64, .int .i64, .int .i64, .int .i64, .int .i64])) (.var 8) 3 (.int .i64)) (.lcons (.idx (.idx (.var 2) (.o2 (.rem .i64) (.o1 (.conv .i64) (.var 3)) (.o1 .len (.var 2))) 2 (.slice [.int .i64, .int .i64, .int .i64, .int .i64, .int .i64])) (.var 8) 4 (.int .i64)) .lnil)))))) .lnil)] [.cell .bool] (.need (.ite (.o1 .not (.var 9)) (.o2 .le (.o1 .len (.o2 .app (.var 7) (.push .nils (.lcons (.idx (.idx (.var 2) (.o2 (.rem .i64) (.o1 (.conv .i64) (.var 3)) (.o1 .len (.var 2))) 2 (.slice [.int .i64, .int .i64, .int .i64, .int .i64, .int .i64])) (.var 8) 0 (.int .i64)) (.lcons (.idx (.idx (.var 2) (.o2 (.rem .i64) (.o1 (.conv .i64) (.var 3)) (.o1 .len (.var 2))) 2 (.slice [.int .i64, .int .i64, .int .i64, .int .i64, .int .i64])) (.var 8) 1 (.int .i64)) .lnil))))) (.int .i64 8796093022208)) (.bool true)) (.lets [.ite (.o1 .not (.var 9)) (.o2 .app (.var 7) (.push .nils (.lcons (.idx (.idx (.var 2) (.o2 (.rem .i64) (.o1 (.conv .i64) (.var 3)) (.o1 .len (.var 2))) 2 (.slice [.int .i64, .int .i64, .int .i64, .int .i64, .int .i64])) (.var 8) 0 (.int .i64)) (.lcons (.idx (.idx (.var 2) (.o2 (.rem .i64) (.o1 (.conv .i64) (.var 3)) (.o1 .len (.var 2))) 2 (.slice [.int .i64, .int .i64, .int .i64, .int .i64, .int .i64])) (.var 8) 1 (.int .i64)) .lnil)))) (.var 7)] (.again 0 [.var 10, .o2 (.add .i64) (.var 8) (.int .i64 1)]))))) (.call none (.fn 82) [.lcons (.idx (.var 2) (.o2 (.rem .i64) (.o1 (.conv .i64) (.var 3)) (.o1 .len (.var 2))) 0 .str) (.lcons (.idx (.var 2) (.o2 (.rem .i64) (.o1 (.conv .i64) (.var 3)) (.o1 .len (.var 2))) 1 .str) (.lcons (.idx (.var 2) (.o2 (.rem .i64) (.o1 (.conv .i64) (.var 3)) (.o1 .len (.var 2))) 2 (.slice [.int .i64, .int .i64, .int .i64, .int .i64, .int .i64])) (.lcons (.idx (.var 2) (.o2 (.rem .i64) (.o1 (.conv .i64) (.var 3)) (.o1 .len (.var 2))) 3 (.slice [.int .i64, .int .i64, .int .i64, .int .i64, .int .i64, .int .i64])) (.lcons (.idx (.var 2) (.o2 (.rem .i64) (.o1 (.conv .i64) (.var 3)) (.o1 .len (.var 2))) 4 .bool) (.lcons (.idx (.var 2) (.o2 (.rem .i64) (.o1 (.conv .i64) (.var 3)) (.o1 .len (.var 2))) 5 .bool) (.lcons (.idx (.var 2) (.o2 (.rem .i64) (.o1 (.conv .i64) (.var 3)) (.o1 .len (.var 2))) 6 (.int .i64)) (.lcons (.idx (.var 2) (.o2 (.rem .i64) (.o1 (.conv .i64) (.var 3)) (.o1 .len (.var 2))) 7 .str) (.lcons (.idx (.var 2) (.o2 (.rem .i64) (.o1 (.conv .i64) (.var 3)) (.o1 .len (.var 2))) 8 (.int .i64)) .lnil)))))))), .var 7] [.agg [.str, .str, .slice [.int .i64, .int .i64, .int .i64, .int .i64, .int .i64], .slice [.int .i64, .int .i64, .int .i64, .int .i64, .int .i64, .int .i64], .bool, .bool, .int .i64, .str, .int .i64], .cell (.int .i64)] (.call none (.fn 64) [.lcons (.var 0) (.lcons (.var 1) (.lcons (.var 2) .lnil)), .lcons (.var 9) (.lcons (.var 10) (.lcons (.var 11) (.lcons (.var 12) (.lcons (.var 13) (.lcons (.var 14) (.lcons (.var 15) (.lcons (.var 16) (.lcons (.var 17) .lnil))))))))] [.agg [.int .i64, .int .i64, .slice [.str, .str, .slice [.int .i64, .int .i64, .int .i64, .int .i64, .int .i64], .slice [.int .i64, .int .i64, .int .i64, .int .i64, .int .i64, .int .i64], .bool, .bool, .int .i64, .str, .int .i64]], .cell (.int .i64)] (.call none (.fn 59) [.lcons (.var 0) (.lcons (.var 1) (.lcons (.var 2) .lnil))] [.cell (.slice [.slice [.int .i64, .int .i64, .int .i64, .int .i64]]), .cell (.int .i64)] (.call none (.fn 59) [.lcons (.var 19) (.lcons (.var 20) (.lcons (.var 21) .lnil))] [.cell (.slice [.slice [.int .i64, .int .i64, .int .i64, .int .i64]]), .cell (.int .i64)] (.fact (.ite (.o1 .not (.ite (.ite (.ite (.o2 .ne (.var 18) (.int .i64 0)) (.bool true) (.o2 .ne (.var 22) (.int .i64 0))) (.bool true) (.o2 .ne (.var 24) (.int .i64 0))) (.bool true) (.o2 .ne (.var 26) (.int .i64 0)))) (.o2 .le (.o1 .len (.var 23)) (.int .i64 140737488355328)) (.bool true)) (.fact (.ite (.o1 .not (.ite (.ite (.ite (.o2 .ne (.var 18) (.int .i64 0)) (.bool true) (.o2 .ne (.var 22) (.int .i64 0))) (.bool true) (.o2 .ne (.var 24) (.int .i64 0))) (.bool true) (.o2 .ne (.var 26) (.int .i64 0)))) (.o2 .le (.o1 .len (.var 25)) (.int .i64 140737488355328)) (.bool true)) (.ite (.ite (.ite (.ite (.ite (.o2 .ne (.var 18) (.int .i64 0)) (.bool true) (.o2 .ne (.var 22) (.int .i64 0))) (.bool true) (.o2 .ne (.var 24) (.int .i64 0))) (.bool true) (.o2 .ne (.var 26) (.int .i64 0))) (.bool true) (.o2 .ne (.o1 .len (.var 23)) (.o1 .len (.var 25)))) (.ret [.d (.bool false)]) (.fact (.o2 .le (.o1 .len (.var 25)) (.int .i64 140737488355328)) (.loop 1 [.int .i64 0] [.int .i64] (.ite (.o2 .lt (.var 27) (.o1 .len (.var 25))) (.need (.o2 .le (.int .i64 0) (.var 27)) (.fact (.o2 .le (.o1 .len (.idx (.var 25) (.var 27) 0 (.slice [.int .i64, .int .i64, .int .i64, .int .i64]))) (.int .i64 140737488355328)) (.loop 2 [.int .i64 0] [.int .i64] (.ite (.o2 .lt (.var 28) (.o1 .len (.idx (.var 25) (.var 27) 0 (.slice [.int .i64, .int .i64, .int .i64, .int .i64])))) (.need (.o2 .le (.int .i64 0) (.var 28)) (.need (.o2 .lt (.var 27) (.o1 .len (.var 23))) (.call none (.fn 79) [.idx (.var 23) (.var 27) 0 (.slice [.int .i64, .int .i64, .int .i64, .int .i64]), .lcons (.idx (.idx (.var 25) (.var 27) 0 (.slice [.int .i64, .int .i64, .int .i64, .int .i64])) (.var 28) 0 (.int .i64)) (.lcons (.idx (.idx (.var 25) (.var 27) 0 (.slice [.int .i64, .int .i64, .int .i64, .int .i64])) (.var 28) 1 (.int .i64)) (.lcons (.idx (.idx (.var 25) (.var 27) 0 (.slice [.int .i64, .int .i64, .int .i64, .int .i64])) (.var 28) 2 (.int .i64)) (.lcons (.idx (.idx (.var 25) (.var 27) 0 (.slice [.int .i64, .int .i64, .int .i64, .int .i64])) (.var 28) 3 (.int .i64)) .lnil)))] [.cell .bool] (.ite (.o1 .not (.var 29)) (.ret [.d (.bool false)]) (.again 2 [.o2 (.add .i64) (.var 28) (.int .i64 1)]))))) (.again 1 [.o2 (.add .i64) (.var 27) (.int .i64 1)]))))) (.call none (.fn 47) [] [.cell .bool] (.ret [.d (.var 28)])))))))))))))))))))))))
theorem t16_ok : fnO Tryz.prog mdA 16 [.agg [.int .i64, .int .i64, .slice [.str, .str, .slice [.int .i64, .int .i64, .int .i64, .int .i64, .int .i64], .slice [.int .i64, .int .i64, .int .i64, .int .i64, .int .i64, .int .i64], .bool, .bool, .int .i64, .str, .int .i64]], .cell (.int .u8)] = t16 := by kernel_rfl
theorem c16 : callable Tryz.prog 16 = true := by kernel_rfl
theorem same1_ok : Contract Tryz.prog 81 fun args K => ∃ (x : Ent) (m : Mov), x.Ok ∧ m.Ok ∧ args = [.agg x.enc, .ptr m.enc] ∧ K [.d (.bool (decide (x.pa = m.pa)))] := by
 refine .of c81 t81_ok ?_
 rintro _ K ⟨x, m, hx, hm, rfl, hK⟩ hsm
 refine ⟨x.enc ++ [.ptr m.enc], rfl, by exact (Ent.has hx).append (show HasKs [.ptr mvKs] [.ptr m.enc] from ⟨Mov.has hm, trivial⟩), ?_⟩
 simp only [zz, RT.den, den, O1.eval, O2.eval, D.eqb, reduceCtorEq, D.sub, D.cell, D.elem, D.cells, D.padd, D.list, D.push, t81, Ent.enc, Mov.enc]
 have e : (decide (x.pa.ch = m.pa.ch) && decide (x.pa.at_ = m.pa.at_)) = decide (x.pa = m.pa) := by
   rw [Bool.eq_iff_iff]; simp only [Bool.and_eq_true, decide_eq_true_eq]
   exact ⟨fun h => Par.ext' h.1 h.2, fun h => by rw [h]; exact ⟨rfl, rfl⟩⟩
 rw [← e] at hK
 simpa using hK
theorem same1_says (es : List Ent) (hes : ∀ e ∈ es, e.Ok) {m : Mov} (hm : m.Ok) : SaysOf Tryz.prog (.clo 81 [.ptr m.enc]) Ent.enc es (fun x => decide (x.pa = m.pa)) := by
 refine ⟨fun as_ K => ∃ x : Ent, x.Ok ∧ as_ = [.agg x.enc] ∧ K [.d (.bool (decide (x.pa = m.pa)))], FvC.of c81 same1_ok ?_, fun x hx => ⟨x, hes x hx, rfl, rfl⟩⟩
 rintro _ K ⟨x, hx, rfl, hK⟩
 refine ⟨⟨x, m, hx, hm, rfl, hK⟩, argsTyped_of [some (.agg enKs)] (by kernel_rfl) ?_⟩
 intro i rk d h1 h2
 cases i with
 | zero => simp at h1 h2; subst h1 h2; exact Ent.has hx
 | succ i => simp at h1
theorem indexEnt_ok : Contract Tryz.prog 143 fun args K => ∃ (l : List Ent) (p : Ent → Bool) (f : FuncId) (caps : List D), (∀ m ∈ l, m.Ok) ∧ args = [.slice (l.map Ent.enc), .clo f caps] ∧ SaysOf Tryz.prog (.clo f caps) Ent.enc l p ∧ K [.d (.int .i64 (idxGo p 0 l))] := by
 refine .of c143 t143_ok ?_
 rintro _ K ⟨l, p, f, caps, hl, rfl, ⟨sf, hf, hs⟩, hK⟩ hsm
 refine ⟨[.slice (l.map Ent.enc), .clo f caps], rfl, by exact ⟨ents_has hl, trivial, trivial⟩, ?_⟩
 simp only [zz, RT.den, den, O1.eval, O2.eval, D.eqb, reduceCtorEq, D.sub, D.cell, D.elem, D.cells, D.padd, D.list, D.push, t143, List.length_map]
 intro hcap
 refine loop_go l (fun i l' (_ : Unit) => idxGo p i l') (fun i _ => [.int .i64 i]) () _ rfl 0 (fun _ _ => rfl) rfl ?_ ?_
 · intro i hi _ hgo
   simp only [idxGo] at hgo
   simp only [zz, RT.den, den, O1.eval, O2.eval, D.eqb, reduceCtorEq, D.sub, D.cell, D.elem, D.cells, D.padd, D.list, D.push, hi, List.length_map]
   refine ⟨by omega, denR_fcall (FvC.up' (s := sf) (fv := .clo f caps) hf) ⟨fun rs => rs = [.d (.bool (p l[i]))], ?_, fun rs h => ⟨[.bool (p l[i])], by rw [h]; rfl, by simp [RK.all, RK.kinds, HasKs, HasK], ?_⟩⟩⟩
   · simp only [zz, RT.den, den, O1.eval, O2.eval, D.eqb, reduceCtorEq, D.sub, D.cell, D.elem, D.cells, D.padd, D.list, D.push, getD_map hi, Ent.enc]
     exact hs l[i] (List.getElem_mem hi)
   · simp only [zz, RT.den, den, O1.eval, O2.eval, D.eqb, reduceCtorEq, D.sub, D.cell, D.elem, D.cells, D.padd, D.list, D.push]
     grind [wr64_eq]
 · intro _ hgo
   simp only [idxGo] at hgo
   simp only [zz, RT.den, den, O1.eval, O2.eval, D.eqb, reduceCtorEq, D.sub, D.cell, D.elem, D.cells, D.padd, D.list, D.push, List.length_map]
   rw [← hgo] at hK; exact hK
theorem containsEnt_ok : Contract Tryz.prog 80 fun args K => ∃ (l : List Ent) (p : Ent → Bool) (f : FuncId) (caps : List D), (∀ m ∈ l, m.Ok) ∧ args = [.slice (l.map Ent.enc), .clo f caps] ∧ SaysOf Tryz.prog (.clo f caps) Ent.enc l p ∧ K [.d (.bool (l.any p))] := by
 refine .of c80 t80_ok ?_
 rintro _ K ⟨l, p, f, caps, hl, rfl, hs, hK⟩ hsm
 refine ⟨[.slice (l.map Ent.enc), .clo f caps], rfl, by exact ⟨ents_has hl, trivial, trivial⟩, ?_⟩
 refine denR_call indexEnt_ok ⟨l, p, f, caps, hl, rfl, hs, _, rfl, ?_⟩
 simp only [zz, RT.den, den, O1.eval, O2.eval, D.eqb, reduceCtorEq, D.sub, D.cell, D.elem, D.cells, D.padd, D.list, D.push]
 rw [idxGo_any]
 exact hK
theorem idle_snoc (st : List Ent) (ms : List Mov) {i : Nat} (hi : i < ms.length) : idleGo st (ms.take (i + 1)) = idleGo st (ms.take i) ++ if st.any (fun x => decide (x.pa = ms[i].pa)) then [] else [ms[i].pa] := by
 unfold idleGo
 rw [List.take_succ_eq_append_getElem hi, List.filter_append, List.map_append]
 congr 1
 by_cases h : st.any (fun x => decide (x.pa = ms[i].pa)) = true
 · simp [h]
 · simp [h]
theorem idle_len (st : List Ent) (ms : List Mov) : (idleGo st ms).length ≤ ms.length := by
 unfold idleGo; rw [List.length_map]; exact List.length_filter_le _ _
theorem idle_par {st : List Ent} {ms : List Mov} {p : Par} (h : p ∈ idleGo st ms) : ∃ m ∈ ms, m.pa = p := by
 unfold idleGo at h
 obtain ⟨m, hm, rfl⟩ := List.mem_map.1 h
 exact ⟨m, (List.mem_filter.1 hm).1, rfl⟩
theorem parts_len {c : Cue} (h : check16 c = 0) : c.parts.length ≤ 4 := by
 unfold check16 at h
 split at h
 · rename_i h1; exact absurd h h1
 split at h
 · rename_i h1; exact absurd h h1
 split at h
 · rename_i h1; exact absurd h h1
 split at h
 · rename_i h1; exact absurd h h1
 rename_i h4
 have h4 : parts16 c.parts = 0 := by simpa using h4
 unfold parts16 at h4
 split at h4
 · cases h4
 split at h4
 · cases h4
 · omega
theorem law16_typed : Contract Tryz.prog 16 fun args K => ∃ (l : Lis) (v : Nat), l.Ok ∧ v < 256 ∧ args = [.agg l.enc, .int .u8 v] ∧ K [.d (.bool true)] := by
 refine .of c16 t16_ok ?_
 rintro _ K ⟨l, v, hl, hv, rfl, hK⟩ hsm
 have m1 : IntKind.u8.min = 0 := by decide
 have m2 : IntKind.u8.max = 255 := by decide
 have hu8 : HasKs [.int .u8] [.int .u8 v] := ⟨⟨rfl, by omega, by omega⟩, trivial⟩
 refine ⟨l.enc ++ [.int .u8 v], rfl, by exact (Lis.has hl).append hu8, ?_⟩
 refine denR_call good18_ok ⟨l, hl, by simp only [zz, RT.den, den, O1.eval, O2.eval, D.eqb, reduceCtorEq, D.sub, D.cell, D.elem, D.cells, D.padd, D.list, D.push, Lis.enc], fun b hb => ⟨[.bool b], rfl, ?_⟩⟩
 cases b with
 | false =>
   simp only [zz, RT.den, den, O1.eval, O2.eval, D.eqb, reduceCtorEq, D.sub, D.cell, D.elem, D.cells, D.padd, D.list, D.push, Lis.enc, List.length_map]
   refine denR_call awake18_ok ⟨rfl, _, rfl, ?_⟩
   simp only [zz, RT.den, den, O1.eval, O2.eval, D.eqb, reduceCtorEq, D.sub, D.cell, D.elem, D.cells, D.padd, D.list, D.push]
   exact hK
 | true =>
   simp only [zz, RT.den, den, O1.eval, O2.eval, D.eqb, reduceCtorEq, D.sub, D.cell, D.elem, D.cells, D.padd, D.list, D.push, Lis.enc, List.length_map]
   refine fun hcap => ⟨fun h0 => ?_, fun h0 => ?_⟩
   · refine denR_call awake18_ok ⟨rfl, _, rfl, ?_⟩
     simp only [zz, RT.den, den, O1.eval, O2.eval, D.eqb, reduceCtorEq, D.sub, D.cell, D.elem, D.cells, D.padd, D.list, D.push]
     exact hK
   have hch := hb rfl
   have hR := rightT_of hl hch
   have hlen := hR.len
   have hpos : 0 < l.cues.length := by omega
   obtain ⟨k, hkd⟩ : ∃ k, k = v % l.cues.length := ⟨_, rfl⟩
   have hk : k < l.cues.length := by rw [hkd]; exact Nat.mod_lt _ hpos
   have hrem : wr64 ((wr64 (v : Int)).tmod (l.cues.length : Int)) = ((k : Nat) : Int) := by
     rw [wr64_eq (n := (v : Int)) (by omega)]
     have e : ((v : Int)).tmod (l.cues.length : Int) = ((v % l.cues.length : Nat) : Int) := rfl
     rw [e, ← hkd, wr64_eq (by omega)]
   rw [hrem]
   refine fun _ => ⟨h0, by omega, by omega, ?_⟩
   have hcm := List.getElem_mem hk
   have hcok := hR.ok.cues _ hcm
   have hck := (rightL_of hch).cues _ hcm
   refine denR_call stepsC_ok ⟨l, l.cues[k].num, hl, by simp only [zz, RT.den, den, O1.eval, O2.eval, D.eqb, reduceCtorEq, D.sub, D.cell, D.elem, D.cells, D.padd, D.list, D.push, Lis.enc, List.length_map, hrem, getD_map hk, Cue.enc], _, rfl, ?_⟩
   have hst := stepsR_at hch hk
   have hSok := steps_ents hl l.cues[k].num
   have hidle := idle_still (cs := l.cues) hk
   rw [hst] at hSok ⊢
   simp only at hSok
   generalize hS : diffE (lookL l.cues k) (lookL l.cues (k + 1)) = S at *
   cases hbk : l.cues[k].block with
   | true =>
     simp only [zz, RT.den, den, O1.eval, O2.eval, D.eqb, reduceCtorEq, D.sub, D.cell, D.elem, D.cells, D.padd, D.list, D.push, Lis.enc, List.length_map, hrem, getD_map hk, Cue.enc, hbk]
     refine denR_gcall awake18_ok true [.bool true] (by simp only [zz, RT.den, den, O1.eval, O2.eval, D.eqb, reduceCtorEq, D.sub, D.cell, D.elem, D.cells, D.padd, D.list, D.push, Lis.enc, List.length_map]) (fun _ => ⟨rfl, rfl⟩) (fun h => by cases h) ?_
     simp only [zz, RT.den, den, O1.eval, O2.eval, D.eqb, reduceCtorEq, D.sub, D.cell, D.elem, D.cells, D.padd, D.list, D.push, Lis.enc, List.length_map]
     exact hK
   | false =>
   simp only [zz, RT.den, den, O1.eval, O2.eval, D.eqb, reduceCtorEq, D.sub, D.cell, D.elem, D.cells, D.padd, D.list, D.push, Lis.enc, List.length_map, hrem, getD_map hk, Cue.enc, hbk]
   have hRM := rightM_of (check16_moves hck)
   have hml := hRM.len
   have hpl : l.cues[k].parts.length ≤ 4 := parts_len hck
   intro hcap2
   refine loop_goI l.cues[k].moves (fun _ _ (_ : List Par) => ()) (fun i a => [.slice (a.map Par.enc), .int .i64 i]) (fun i a => a = idleGo S (l.cues[k].moves.take i)) [] () rfl rfl 1 (fun _ _ => rfl) (by simp only [zz, RT.den, den, O1.eval, O2.eval, D.eqb, reduceCtorEq, D.sub, D.cell, D.elem, D.cells, D.padd, D.list, D.push]; rfl) ?_ ?_
   · rintro i hi a rfl _
     have hmo := hcok.moves _ (List.getElem_mem hi)
     have hil := idle_len S (l.cues[k].moves.take i)
     have hil2 : (l.cues[k].moves.take i).length ≤ 128 := by simp; omega
     simp only [zz, RT.den, den, O1.eval, O2.eval, D.eqb, reduceCtorEq, D.sub, D.cell, D.elem, D.cells, D.padd, D.list, D.push, Lis.enc, List.length_map, hrem, getD_map hk, Cue.enc, hi, getD_map hi, Mov.enc]
     refine ⟨by omega, denR_call containsEnt_ok ⟨S, _, 81, [.ptr l.cues[k].moves[i].enc], hSok, by simp only [zz, RT.den, den, O1.eval, O2.eval, D.eqb, reduceCtorEq, D.sub, D.cell, D.elem, D.cells, D.padd, D.list, D.push, Lis.enc, List.length_map, hrem, getD_map hk, Cue.enc, hi, getD_map hi, Mov.enc], same1_says S hSok hmo, _, rfl, ?_⟩⟩
     have hsn := idle_snoc S l.cues[k].moves hi
     cases hany : S.any (fun x => decide (x.pa = l.cues[k].moves[i].pa)) with
     | true =>
       rw [hany] at hsn
       simp only [if_true, List.append_nil] at hsn
       simp only [zz, RT.den, den, O1.eval, O2.eval, D.eqb, reduceCtorEq, D.sub, D.cell, D.elem, D.cells, D.padd, D.list, D.push, Lis.enc, List.length_map, hrem, getD_map hk, Cue.enc, hi, getD_map hi, Mov.enc]
       exact ⟨_, ⟨rfl, by rw [wr64_eq] <;> omega⟩, hsn.symm⟩
     | false =>
       rw [hany] at hsn
       simp only [Bool.false_eq_true, if_false] at hsn
       simp only [zz, RT.den, den, O1.eval, O2.eval, D.eqb, reduceCtorEq, D.sub, D.cell, D.elem, D.cells, D.padd, D.list, D.push, Lis.enc, List.length_map, hrem, getD_map hk, Cue.enc, hi, getD_map hi, Mov.enc, List.length_append, List.length_cons, List.length_nil]
       refine ⟨by omega, _, ⟨?_, by rw [wr64_eq] <;> omega⟩, rfl⟩
       rw [hsn]
       simp [Par.enc]
   · rintro a rfl _
     rw [List.take_length]
     generalize hps : idleGo S l.cues[k].moves = ps at *
     have hpsok : ∀ p ∈ ps, p.Ok ∧ param15 p = 0 := by
       intro p hp
       rw [← hps] at hp
       obtain ⟨m, hm, rfl⟩ := idle_par hp
       exact ⟨(hcok.moves m hm).1, hRM.par m hm⟩
     have hpsl : ps.length ≤ 128 := by rw [← hps]; exact Nat.le_trans (idle_len _ _) hml
     simp only [zz, RT.den, den, O1.eval, O2.eval, D.eqb, reduceCtorEq, D.sub, D.cell, D.elem, D.cells, D.padd, D.list, D.push, Lis.enc, List.length_map, hrem, getD_map hk, Cue.enc, Nat.lt_irrefl]
     refine denR_call cdrop_ok ⟨l.cues[k], ps, hcok, hck, by omega, by omega, hpsok, by omega, by simp only [zz, RT.den, den, O1.eval, O2.eval, D.eqb, reduceCtorEq, D.sub, D.cell, D.elem, D.cells, D.padd, D.list, D.push, Lis.enc, List.length_map, hrem, getD_map hk, Cue.enc], _, rfl, ?_⟩
     have hdok := dropC_Ok hcok ps
     have hdck := check16_drop hck ps
     have hRi := (rightL_of hch).rising
     have hsame := put_same hRi hk (d := dropC l.cues[k] ps) rfl
     have hMl : (l.cues.take k ++ dropC l.cues[k] ps :: l.cues.drop (k + 1)).length = l.cues.length := by simp; omega
     have hlim : ¬ 64 < (ins (dropC l.cues[k] ps) (without l.cues (dropC l.cues[k] ps).num)).length := by rw [hsame, hMl]; omega
     have hput : putR l (dropC l.cues[k] ps) = ({ l with cues := l.cues.take k ++ dropC l.cues[k] ps :: l.cues.drop (k + 1) }, 0) := by
       unfold putR
       rw [if_neg (by simp [hch]), if_neg (by simp [hdck]), if_neg hlim, hsame]
     have hright := (putd hch hdck hlim).right
     rw [hsame] at hright
     have hmOk : (putR l (dropC l.cues[k] ps)).1.Ok := putR_Ok hl hdok
     rw [hput] at hmOk
     simp only at hmOk
     have hlook := fun n (hn : n ≤ l.cues.length) => trim_look hk hbk hidle (n := n) hn
     generalize hd : dropC l.cues[k] ps = d at *
     simp only [zz, RT.den, den, O1.eval, O2.eval, D.eqb, reduceCtorEq, D.sub, D.cell, D.elem, D.cells, D.padd, D.list, D.push, Lis.enc, List.length_map, Cue.enc]
     refine denR_call put_ok17 ⟨l, d, hl, hdok, by simp only [zz, RT.den, den, O1.eval, O2.eval, D.eqb, reduceCtorEq, D.sub, D.cell, D.elem, D.cells, D.padd, D.list, D.push, Lis.enc, List.length_map, Cue.enc], _, rfl, ?_⟩
     rw [hput]
     generalize hM : l.cues.take k ++ d :: l.cues.drop (k + 1) = M at *
     simp only [zz, RT.den, den, O1.eval, O2.eval, D.eqb, reduceCtorEq, D.sub, D.cell, D.elem, D.cells, D.padd, D.list, D.push, Lis.enc, List.length_map, Cue.enc]
     refine denR_call sheetC_ok ⟨l, hl, by simp only [zz, RT.den, den, O1.eval, O2.eval, D.eqb, reduceCtorEq, D.sub, D.cell, D.elem, D.cells, D.padd, D.list, D.push, Lis.enc], fun rvs h => ⟨[.slice ((sheetR l).1.map enS), .int .i64 (sheetR l).2], by rcases h with rfl | rfl <;> rfl, ?_⟩⟩
     rw [sheetR_right hch]
     have hRl : RightT { l with cues := M } := rightT_of hmOk hright
     refine denR_call sheetC_ok ⟨{ l with cues := M }, hmOk, by simp only [zz, RT.den, den, O1.eval, O2.eval, D.eqb, reduceCtorEq, D.sub, D.cell, D.elem, D.cells, D.padd, D.list, D.push, Lis.enc], fun rvs h => ⟨[.slice ((sheetR { l with cues := M }).1.map enS), .int .i64 (sheetR { l with cues := M }).2], by rcases h with rfl | rfl <;> rfl, ?_⟩⟩
     rw [sheetR_right hright]
     have hsa := sheetL_len l.cues l.cues.length
     have hsb := sheetL_len M l.cues.length
     simp only [zz, RT.den, den, O1.eval, O2.eval, D.eqb, reduceCtorEq, D.sub, D.cell, D.elem, D.cells, D.padd, D.list, D.push, Lis.enc, List.length_map, Cue.enc, hsa, hsb, hMl]
     refine fun _ _ _ => ?_
     refine loop_goI (sheetL M l.cues.length) (fun _ _ (_ : Unit) => ()) (fun i _ => [.int .i64 i]) (fun _ _ => True) () () rfl trivial 0 (fun _ _ => rfl) rfl ?_ ?_
     · rintro i hi _ _ _
       have hin : i < l.cues.length := by rw [hsb] at hi; exact hi
       have hia : i < (sheetL l.cues l.cues.length).length := by rw [hsa]; exact hin
       have ga := sheetL_get (cs := l.cues) hin hia
       have gb := sheetL_get (cs := M) hin hi
       have hbl := lookL_len hRl (i + 1)
       have hsub := hlook (i + 1) (by omega)
       have hLok := lookL_ok hR (i + 1)
       simp only at hbl
       simp only [zz, RT.den, den, O1.eval, O2.eval, D.eqb, reduceCtorEq, D.sub, D.cell, D.elem, D.cells, D.padd, D.list, D.push, Lis.enc, List.length_map, Cue.enc, hsa, hsb, hMl, hi, hia, hin, getD_map hi, getD_map hia, ga, gb, enS]
       refine ⟨by omega, fun _ => ?_⟩
       refine loop_goI (lookL M (i + 1)) (fun _ _ (_ : Unit) => ()) (fun j _ => [.int .i64 j]) (fun _ _ => True) () () rfl trivial 0 (fun _ _ => rfl) (by simp only [zz, RT.den, den, O1.eval, O2.eval, D.eqb, reduceCtorEq, D.sub, D.cell, D.elem, D.cells, D.padd, D.list, D.push]; rfl) ?_ ?_
       · rintro j hj _ _ _
         simp only [zz, RT.den, den, O1.eval, O2.eval, D.eqb, reduceCtorEq, D.sub, D.cell, D.elem, D.cells, D.padd, D.list, D.push, Lis.enc, List.length_map, Cue.enc, hsa, hsb, hMl, hi, hia, hin, getD_map hi, getD_map hia, ga, gb, enS, hj, getD_map hj, Ent.enc]
         refine ⟨by omega, denR_call containsE_ok ⟨lookL l.cues (i + 1), (lookL M (i + 1))[j], hLok, hsub _ (List.getElem_mem hj), by simp only [zz, RT.den, den, O1.eval, O2.eval, D.eqb, reduceCtorEq, D.sub, D.cell, D.elem, D.cells, D.padd, D.list, D.push, Lis.enc, List.length_map, Cue.enc, hsa, hsb, hMl, hi, hia, hin, getD_map hi, getD_map hia, ga, gb, enS, hj, getD_map hj, Ent.enc], _, rfl, ?_⟩⟩
         simp only [zz, RT.den, den, O1.eval, O2.eval, D.eqb, reduceCtorEq, D.sub, D.cell, D.elem, D.cells, D.padd, D.list, D.push]
         exact ⟨(), by rw [wr64_eq] <;> omega⟩
       · rintro _ _ _
         simp only [zz, RT.den, den, O1.eval, O2.eval, D.eqb, reduceCtorEq, D.sub, D.cell, D.elem, D.cells, D.padd, D.list, D.push, Lis.enc, List.length_map, Cue.enc, hsa, hsb, hMl, hi, hia, hin, getD_map hi, getD_map hia, ga, gb, enS, Nat.lt_irrefl]
         refine ⟨rfl, (), ?_⟩
         rw [wr64_eq (by omega)]; rfl
     · rintro _ _ _
       simp only [zz, RT.den, den, O1.eval, O2.eval, D.eqb, reduceCtorEq, D.sub, D.cell, D.elem, D.cells, D.padd, D.list, D.push, Lis.enc, List.length_map, Cue.enc, hsa, hsb, hMl, Nat.lt_irrefl]
       refine denR_call awake18_ok ⟨rfl, _, rfl, ?_⟩
       simp only [zz, RT.den, den, O1.eval, O2.eval, D.eqb, reduceCtorEq, D.sub, D.cell, D.elem, D.cells, D.padd, D.list, D.push]
       exact hK
theorem law16 : Contract Tryz.prog 16 (LawSpec Tryz.prog 16) :=
 law16_typed.weaken fun args K _ h => by
   obtain ⟨h1, h2, hK⟩ := lawArgs [.agg liKs, .cell (.int .u8)] (by kernel_rfl) h
   match args, h1 with
   | [a, b], _ =>
     obtain ⟨l, hl, rfl⟩ := Lis.ofAgg (h2 0 _ _ rfl rfl)
     have hb := h2 1 _ _ rfl rfl
     obtain ⟨v, hv, rfl⟩ : ∃ v : Nat, v < 256 ∧ b = .int .u8 v := by
       cases b with
       | int k n =>
         simp only [RK.kind, HasK] at hb
         obtain ⟨rfl, h1, h2⟩ := hb
         have m1 : IntKind.u8.min = 0 := by decide
         have m2 : IntKind.u8.max = 255 := by decide
         exact ⟨n.toNat, by omega, by congr 1; omega⟩
       | _ => simp [RK.kind, HasK] at hb
     exact ⟨l, v, hl, hv, rfl, hK⟩
end Go.Sx.La
