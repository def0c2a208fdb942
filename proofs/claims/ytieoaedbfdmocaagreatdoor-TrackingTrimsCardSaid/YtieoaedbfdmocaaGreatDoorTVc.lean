/-
 A law as a contract (and what it needs).
-/
import Derived.Test.YtieoaedbfdmocaaGreatDoorTVb
set_option linter.unusedSimpArgs false
set_option linter.unusedVariables false
set_option linter.unusedSectionVars false
set_option linter.defProp false
set_option maxRecDepth 100000
set_option maxRecDepth 100000
namespace Go.Sx.La
open Go Go.Sx Go.RowKit Go.Proofs
noncomputable def t142 : R := .fact (.o2 .le (.o1 .len (.var 0)) (.int .i64 140737488355328)) (.loop 0 [.int .i64 0] [.int .i64] (.ite (.o2 .lt (.var 5) (.o1 .len (.var 0))) (.need (.o2 .le (.int .i64 0) (.var 5)) (.ite (.o2 .band (.o2 .band (.o2 .eq (.var 1) (.idx (.var 0) (.var 5) 0 (.int .i64))) (.o2 .band (.o2 .eq (.var 2) (.idx (.var 0) (.var 5) 1 (.int .i64))) (.bool true))) (.o2 .band (.o2 .band (.o2 .eq (.var 3) (.idx (.var 0) (.var 5) 2 (.int .i64))) (.o2 .band (.o2 .eq (.var 4) (.idx (.var 0) (.var 5) 3 (.int .i64))) (.bool true))) (.bool true))) (.ret [.d (.var 5)]) (.again 0 [.o2 (.add .i64) (.var 5) (.int .i64 1)]))) (.ret [.d (.int .i64 (-1))])))
theorem t142_ok : fnO Tryz.prog mdA 142 [.cell (.slice [.int .i64, .int .i64, .int .i64, .int .i64]), .agg [.int .i64, .int .i64, .int .i64, .int .i64]] = t142 := by kernel_rfl
theorem c142 : callable Tryz.prog 142 = true := by kernel_rfl
noncomputable def t79 : R := .call none (.fn 142) [.var 0, .lcons (.var 1) (.lcons (.var 2) (.lcons (.var 3) (.lcons (.var 4) .lnil)))] [.cell (.int .i64)] (.ret [.d (.o2 .ge (.var 5) (.int .i64 0))])
theorem t79_ok : fnO Tryz.prog mdA 79 [.cell (.slice [.int .i64, .int .i64, .int .i64, .int .i64]), .agg [.int .i64, .int .i64, .int .i64, .int .i64]] = t79 := by kernel_rfl
theorem c79 : callable Tryz.prog 79 = true := by kernel_rfl
theorem indexE_ok : Contract Tryz.prog 142 fun args K => ∃ (a : List Ent) (e : Ent), (∀ x ∈ a, x.Ok) ∧ e.Ok ∧ args = [.slice (a.map Ent.enc), .agg e.enc] ∧ K [.d (.int .i64 (idxGo (fun x => decide (x = e)) 0 a))] := by
 refine .of c142 t142_ok ?_
 rintro _ K ⟨a, e, ha, he, rfl, hK⟩ hsm
 refine ⟨.slice (a.map Ent.enc) :: e.enc, rfl, by exact (show HasKs (.slice enKs :: enKs) _ from ⟨ents_has ha, Ent.has he⟩), ?_⟩
 simp only [zz, RT.den, den, O1.eval, O2.eval, D.eqb, reduceCtorEq, D.sub, D.cell, D.elem, D.cells, D.padd, D.list, D.push, t142, List.length_map, Ent.enc]
 intro hcap
 refine loop_go a (fun i l (_ : Unit) => idxGo (fun x => decide (x = e)) i l) (fun i _ => [.int .i64 i]) () _ rfl 0 (fun _ _ => rfl) rfl ?_ ?_
 · intro i hi _ hgo
   simp only [idxGo] at hgo
   have heq : (e.pa.ch = a[i].pa.ch ∧ e.pa.at_ = a[i].pa.at_) ∧ e.va.pal = a[i].va.pal ∧ e.va.lev = a[i].va.lev ↔ a[i] = e := by
     constructor
     · rintro ⟨⟨h1, h2⟩, h3, h4⟩
       have e1 : a[i].pa = e.pa := Par.ext' h1.symm h2.symm
       have e2 : a[i].va = e.va := (val_eq _ _).2 ⟨h3.symm, h4.symm⟩
       cases hx : a[i]; cases e
       rw [hx] at e1 e2
       simp only at e1 e2
       rw [e1, e2]
     · rintro rfl; exact ⟨⟨rfl, rfl⟩, rfl, rfl⟩
   simp only [zz, RT.den, den, O1.eval, O2.eval, D.eqb, reduceCtorEq, D.sub, D.cell, D.elem, D.cells, D.padd, D.list, D.push, List.length_map, hi, getD_map hi, Ent.enc]
   refine ⟨by omega, fun h => ?_, fun h => ?_⟩
   · have hx : a[i] = e := heq.1 (by simpa using h)
     rw [if_pos (by simp [hx])] at hgo
     rw [← hgo] at hK; exact hK
   · have hx : ¬ a[i] = e := fun hx => by
       have := heq.2 hx
       simp [this] at h
     rw [if_neg (by simp [hx])] at hgo
     exact ⟨(), by rw [wr64_eq] <;> omega, hgo⟩
 · intro _ hgo
   simp only [idxGo] at hgo
   simp only [zz, RT.den, den, O1.eval, O2.eval, D.eqb, reduceCtorEq, D.sub, D.cell, D.elem, D.cells, D.padd, D.list, D.push, List.length_map, Nat.lt_irrefl]
   rw [← hgo] at hK; exact hK
theorem containsE_ok : Contract Tryz.prog 79 fun args K => ∃ (a : List Ent) (e : Ent), (∀ x ∈ a, x.Ok) ∧ e ∈ a ∧ args = [.slice (a.map Ent.enc), .agg e.enc] ∧ K [.d (.bool true)] := by
 refine .of c79 t79_ok ?_
 rintro _ K ⟨a, e, ha, he, rfl, hK⟩ hsm
 have heo := ha e he
 refine ⟨.slice (a.map Ent.enc) :: e.enc, rfl, by exact (show HasKs (.slice enKs :: enKs) _ from ⟨ents_has ha, Ent.has heo⟩), ?_⟩
 refine denR_call indexE_ok ⟨a, e, ha, heo, by simp only [zz, RT.den, den, O1.eval, O2.eval, D.eqb, reduceCtorEq, D.sub, D.cell, D.elem, D.cells, D.padd, D.list, D.push, Ent.enc], _, rfl, ?_⟩
 simp only [zz, RT.den, den, O1.eval, O2.eval, D.eqb, reduceCtorEq, D.sub, D.cell, D.elem, D.cells, D.padd, D.list, D.push, Ent.enc]
 rcases idxGo_spec (fun x => decide (x = e)) a 0 with ⟨h1, h2⟩ | ⟨j, hj, h1, h2, h3⟩
 · have := h2 e he; simp at this
 · rw [h1]
   have : (0 : Int) ≤ ((0 + j : Nat) : Int) := by omega
   simp only [this, decide_true]
   exact hK
structure Early (l : Lis) (s : List UInt8) (n : Nat) : Prop where
 ok : Lis.Ok { l with cues := l.cues.take n }
 look : lookR { l with cues := l.cues.take n } s = (lookL (l.cues.take n) n, 0)
end Go.Sx.La
