/-
  A law as a contract (and what it needs).
-/
import Derived.Test.YtieoaedbfdmocaaGreatDoorQWp
set_option linter.unusedSimpArgs false
set_option linter.unusedVariables false
set_option linter.unusedSectionVars false
set_option linter.defProp false
set_option maxRecDepth 100000
set_option maxRecDepth 100000
namespace Go.Sx.La
open Go Go.Sx Go.RowKit Go.Proofs
noncomputable def t22 : R := .call none (.fn 17) [.lcons (.var 0) (.lcons (.var 1) (.lcons (.var 2) .lnil))] [.cell .bool] (.call (some (.var 3)) (.fn 42) [.lcons (.var 0) (.lcons (.var 1) (.lcons (.var 2) .lnil))] [.cell (.int .i64)] (.ret [.d (.ite (.var 3) (.o2 .eq (.var 4) (.int .i64 0)) (.bool false))]))
theorem t22_ok : fnO Tryz.prog mdA 22 [.agg [.int .i64, .int .i64, .slice [.str, .str, .slice [.int .i64, .int .i64, .int .i64, .int .i64, .int .i64], .slice [.int .i64, .int .i64, .int .i64, .int .i64, .int .i64, .int .i64], .bool, .bool, .int .i64, .str, .int .i64]]] = t22 := by kernel_rfl
theorem c22 : callable Tryz.prog 22 = true := by kernel_rfl
noncomputable def t12 : R := .call none (.fn 22) [.lcons (.var 0) (.lcons (.var 1) (.lcons (.var 2) .lnil))] [.cell .bool] (.call (some (.o1 .not (.o1 .not (.var 12)))) (.fn 63) [.lcons (.var 3) (.lcons (.var 4) (.lcons (.var 5) (.lcons (.var 6) (.lcons (.var 7) (.lcons (.var 8) (.lcons (.var 9) (.lcons (.var 10) (.lcons (.var 11) .lnil))))))))] [.cell .bool] (.call (some (.o1 .not (.ite (.o1 .not (.var 12)) (.bool true) (.o1 .not (.var 13))))) (.fn 68) [.lcons (.var 3) (.lcons (.var 4) (.lcons (.var 5) (.lcons (.var 6) (.lcons (.var 7) (.lcons (.var 8) (.lcons (.var 9) (.lcons (.var 10) (.lcons (.var 11) .lnil))))))))] [.cell (.int .i64)] (.ite (.ite (.ite (.o1 .not (.var 12)) (.bool true) (.o1 .not (.var 13))) (.bool true) (.o2 .ne (.var 14) (.int .i64 0))) (.call none (.fn 18) [] [.cell .bool] (.ret [.d (.var 15)])) (.call none (.fn 64) [.lcons (.var 0) (.lcons (.var 1) (.lcons (.var 2) .lnil)), .lcons (.var 3) (.lcons (.var 4) (.lcons (.var 5) (.lcons (.var 6) (.lcons (.var 7) (.lcons (.var 8) (.lcons (.var 9) (.lcons (.var 10) (.lcons (.var 11) .lnil))))))))] [.agg [.int .i64, .int .i64, .slice [.str, .str, .slice [.int .i64, .int .i64, .int .i64, .int .i64, .int .i64], .slice [.int .i64, .int .i64, .int .i64, .int .i64, .int .i64, .int .i64], .bool, .bool, .int .i64, .str, .int .i64]], .cell (.int .i64)] (.ite (.o2 .ne (.var 18) (.int .i64 0)) (.fact (.ite (.o2 .eq (.var 18) (.int .i64 5)) (.o2 .le (.o1 .len (.var 2)) (.int .i64 140737488355328)) (.bool true)) (.call (some (.ite (.o2 .eq (.var 18) (.int .i64 5)) (.o2 .eq (.o1 .len (.var 2)) (.int .i64 64)) (.bool false))) (.fn 18) [] [.cell .bool] (.ret [.d (.ite (.ite (.o2 .eq (.var 18) (.int .i64 5)) (.o2 .eq (.o1 .len (.var 2)) (.int .i64 64)) (.bool false)) (.var 19) (.bool false))]))) (.call none (.fn 28) [.lcons (.var 15) (.lcons (.var 16) (.lcons (.var 17) .lnil)), .var 3] [.cell (.int .i64), .cell .bool, .cell (.int .i64)] (.fact (.ite (.o1 .not (.ite (.ite (.o1 .not (.var 20)) (.bool true) (.o2 .ne (.var 21) (.int .i64 0))) (.bool true) (.o2 .lt (.var 19) (.int .i64 0)))) (.o2 .le (.o1 .len (.var 17)) (.int .i64 140737488355328)) (.bool true)) (.need (.ite (.o1 .not (.ite (.ite (.ite (.o1 .not (.var 20)) (.bool true) (.o2 .ne (.var 21) (.int .i64 0))) (.bool true) (.o2 .lt (.var 19) (.int .i64 0))) (.bool true) (.o2 .ge (.var 19) (.o1 .len (.var 17))))) (.o2 .le (.int .i64 0) (.var 19)) (.bool true)) (.need (.ite (.o1 .not (.ite (.ite (.ite (.o1 .not (.var 20)) (.bool true) (.o2 .ne (.var 21) (.int .i64 0))) (.bool true) (.o2 .lt (.var 19) (.int .i64 0))) (.bool true) (.o2 .ge (.var 19) (.o1 .len (.var 17))))) (.o2 .lt (.var 19) (.o1 .len (.var 17))) (.bool true)) (.call (some (.o1 .not (.ite (.ite (.ite (.o1 .not (.var 20)) (.bool true) (.o2 .ne (.var 21) (.int .i64 0))) (.bool true) (.o2 .lt (.var 19) (.int .i64 0))) (.bool true) (.o2 .ge (.var 19) (.o1 .len (.var 17)))))) (.fn 69) [.lcons (.idx (.var 17) (.var 19) 0 .str) (.lcons (.idx (.var 17) (.var 19) 1 .str) (.lcons (.idx (.var 17) (.var 19) 2 (.slice [.int .i64, .int .i64, .int .i64, .int .i64, .int .i64])) (.lcons (.idx (.var 17) (.var 19) 3 (.slice [.int .i64, .int .i64, .int .i64, .int .i64, .int .i64, .int .i64])) (.lcons (.idx (.var 17) (.var 19) 4 .bool) (.lcons (.idx (.var 17) (.var 19) 5 .bool) (.lcons (.idx (.var 17) (.var 19) 6 (.int .i64)) (.lcons (.idx (.var 17) (.var 19) 7 .str) (.lcons (.idx (.var 17) (.var 19) 8 (.int .i64)) .lnil)))))))), .lcons (.var 3) (.lcons (.var 4) (.lcons (.var 5) (.lcons (.var 6) (.lcons (.var 7) (.lcons (.var 8) (.lcons (.var 9) (.lcons (.var 10) (.lcons (.var 11) .lnil))))))))] [.cell .bool] (.call (some (.o1 .not (.ite (.ite (.ite (.ite (.o1 .not (.var 20)) (.bool true) (.o2 .ne (.var 21) (.int .i64 0))) (.bool true) (.o2 .lt (.var 19) (.int .i64 0))) (.bool true) (.o2 .ge (.var 19) (.o1 .len (.var 17)))) (.bool true) (.o1 .not (.var 22))))) (.fn 25) [.lcons (.var 15) (.lcons (.var 16) (.lcons (.var 17) .lnil))] [.cell (.int .i64)] (.ite (.ite (.ite (.ite (.ite (.ite (.o1 .not (.var 20)) (.bool true) (.o2 .ne (.var 21) (.int .i64 0))) (.bool true) (.o2 .lt (.var 19) (.int .i64 0))) (.bool true) (.o2 .ge (.var 19) (.o1 .len (.var 17)))) (.bool true) (.o1 .not (.var 22))) (.bool true) (.o2 .ne (.var 23) (.int .i64 0))) (.ret [.d (.bool false)]) (.call none (.fn 66) [.lcons (.var 15) (.lcons (.var 16) (.lcons (.var 17) .lnil)), .var 3] [.agg [.int .i64, .int .i64, .slice [.str, .str, .slice [.int .i64, .int .i64, .int .i64, .int .i64, .int .i64], .slice [.int .i64, .int .i64, .int .i64, .int .i64, .int .i64, .int .i64], .bool, .bool, .int .i64, .str, .int .i64]], .cell .bool, .cell (.int .i64)] (.call none (.fn 66) [.lcons (.var 0) (.lcons (.var 1) (.lcons (.var 2) .lnil)), .var 3] [.agg [.int .i64, .int .i64, .slice [.str, .str, .slice [.int .i64, .int .i64, .int .i64, .int .i64, .int .i64], .slice [.int .i64, .int .i64, .int .i64, .int .i64, .int .i64, .int .i64], .bool, .bool, .int .i64, .str, .int .i64]], .cell .bool, .cell (.int .i64)] (.call (some (.ite (.ite (.var 27) (.o2 .eq (.var 28) (.int .i64 0)) (.bool false)) (.o2 .eq (.var 33) (.int .i64 0)) (.bool false))) (.fn 21) [.lcons (.var 24) (.lcons (.var 25) (.lcons (.var 26) .lnil)), .lcons (.var 29) (.lcons (.var 30) (.lcons (.var 31) .lnil))] [.cell .bool] (.call (some (.ite (.ite (.ite (.var 27) (.o2 .eq (.var 28) (.int .i64 0)) (.bool false)) (.o2 .eq (.var 33) (.int .i64 0)) (.bool false)) (.var 34) (.bool false))) (.fn 18) [] [.cell .bool] (.ret [.d (.ite (.ite (.ite (.ite (.var 27) (.o2 .eq (.var 28) (.int .i64 0)) (.bool false)) (.o2 .eq (.var 33) (.int .i64 0)) (.bool false)) (.var 34) (.bool false)) (.var 35) (.bool false))])))))))))))))))))
theorem t12_ok : fnO Tryz.prog mdA 12 [.agg [.int .i64, .int .i64, .slice [.str, .str, .slice [.int .i64, .int .i64, .int .i64, .int .i64, .int .i64], .slice [.int .i64, .int .i64, .int .i64, .int .i64, .int .i64, .int .i64], .bool, .bool, .int .i64, .str, .int .i64]], .agg [.str, .str, .slice [.int .i64, .int .i64, .int .i64, .int .i64, .int .i64], .slice [.int .i64, .int .i64, .int .i64, .int .i64, .int .i64, .int .i64], .bool, .bool, .int .i64, .str, .int .i64]] = t12 := by kernel_rfl
theorem c12 : callable Tryz.prog 12 = true := by kernel_rfl
theorem goodB_ok : Contract Tryz.prog 22 fun args K => ∃ (l : Lis), l.Ok ∧ args = [.agg l.enc] ∧ ∀ b : Bool, (b = true → checkL order05 l = 0) → K [.d (.bool b)] := by
  refine .of c22 t22_ok ?_
  rintro _ K ⟨l, hl, rfl, hK⟩ hsm
  refine ⟨l.enc, rfl, Lis.has hl, ?_⟩
  refine denR_call few17_ok ⟨l, hl, by simp only [zz, RT.den, den, O1.eval, O2.eval, D.eqb, Ags.none, reduceCtorEq, forall_const, if_true, if_false, ite_true, ite_false, D.sub, D.cell, D.elem, D.cells, D.padd, D.list, D.push, Lis.enc], _, rfl, ?_⟩
  cases hb : few17 l with
  | true =>
    refine denR_gcall check17_ok true [.int .i64 (checkL order05 l)] (by simp only [zz, RT.den, den, O1.eval, O2.eval, D.eqb, Ags.none, reduceCtorEq, forall_const, if_true, if_false, ite_true, ite_false, D.sub, D.cell, D.elem, D.cells, D.padd, D.list, D.push, Lis.enc]) (fun _ => ⟨l, hl, by simp only [zz, RT.den, den, O1.eval, O2.eval, D.eqb, Ags.none, reduceCtorEq, forall_const, if_true, if_false, ite_true, ite_false, D.sub, D.cell, D.elem, D.cells, D.padd, D.list, D.push, Lis.enc], rfl⟩) (fun h => by cases h) ?_
    simp only [zz, RT.den, den, O1.eval, O2.eval, D.eqb, Ags.none, reduceCtorEq, forall_const, if_true, if_false, ite_true, ite_false, D.sub, D.cell, D.elem, D.cells, D.padd, D.list, D.push, Lis.enc]
    have := hK (decide (checkL order05 l = 0)) (by simp)
    simpa using this
  | false =>
    refine denR_gcall check17_ok false [.int .i64 0] (by simp only [zz, RT.den, den, O1.eval, O2.eval, D.eqb, Ags.none, reduceCtorEq, forall_const, if_true, if_false, ite_true, ite_false, D.sub, D.cell, D.elem, D.cells, D.padd, D.list, D.push, Lis.enc]) (fun h => by cases h) (fun _ => rfl) ?_
    simp only [zz, RT.den, den, O1.eval, O2.eval, D.eqb, Ags.none, reduceCtorEq, forall_const, if_true, if_false, ite_true, ite_false, D.sub, D.cell, D.elem, D.cells, D.padd, D.list, D.push, Lis.enc]
    simpa using hK false (by simp)
theorem without_ins {c : Cue} : ∀ {W : List Cue}, (∀ x ∈ W, x.num ≠ c.num) → without (ins c W) c.num = W
  | [], _ => by simp [without, ins]
  | x :: xs, h => by
    have hx := h x (by simp)
    have hxs : ∀ y ∈ xs, y.num ≠ c.num := fun y hy => h y (by simp [hy])
    have hk : without (x :: xs) c.num = x :: xs := List.filter_eq_self.2 fun y hy => by simpa using h y hy
    simp only [ins]
    split
    · have ih := without_ins hxs
      simp only [without] at ih ⊢
      rw [List.filter_cons, ih]
      simp [hx]
    · simp only [without] at hk ⊢
      rw [List.filter_cons, hk]
      simp
structure Putd (l : Lis) (c : Cue) : Prop where
  right : checkL order05 { l with cues := ins c (without l.cues c.num) } = 0
  find : ∃ (i : Nat) (hi : i < (ins c (without l.cues c.num)).length), findR { l with cues := ins c (without l.cues c.num) } c.num = ((i : Int), true, 0) ∧ (ins c (without l.cues c.num))[i] = c
  drop : dropR { l with cues := ins c (without l.cues c.num) } c.num = ({ l with cues := without l.cues c.num }, true, 0)
  drop0 : ∃ b, dropR l c.num = ({ l with cues := without l.cues c.num }, b, 0)
theorem putd {l : Lis} {c : Cue} (h : checkL order05 l = 0) (h2 : check16 c = 0) (hlen : ¬ 64 < (ins c (without l.cues c.num)).length) : Putd l c := by
  have hR := rightL_of h
  have hnum := check16_num h2
  have hwn : ∀ x ∈ without l.cues c.num, check05 x.num = 0 := fun x hx => hR.num x (mem_without.1 hx).1
  have hwv : ∀ x ∈ without l.cues c.num, valOf x ≠ valOf c := fun x hx e => (mem_without.1 hx).2 (value05_inj (hwn x hx) hnum e)
  have hins := ins_rising (rising_without hR.rising c.num) hwv
  have hmem : ∀ {x}, x ∈ ins c (without l.cues c.num) ↔ x = c ∨ x ∈ without l.cues c.num := fun {x} => by rw [(ins_perm c _).mem_iff]; simp
  have hr : checkL order05 { l with cues := ins c (without l.cues c.num) } = 0 :=
    checkL_of (by exact head_of (l := l) h) (by simp only; omega) (fun x hx => by
      rcases hmem.1 hx with rfl | hx
      · exact h2
      · exact hR.cues x (mem_without.1 hx).1) hins
  have hp : ¬ place (ins c (without l.cues c.num)) c.num < 0 := fun hn => place_neg.1 hn c (hmem.2 (.inl rfl)) rfl
  have g1 : given17 { l with cues := ins c (without l.cues c.num) } c.num = 0 := by unfold given17; rw [if_neg (by simp [hr])]; exact hnum
  have g0 : given17 l c.num = 0 := by unfold given17; rw [if_neg (by simp [h])]; exact hnum
  obtain ⟨i, hi, hpi, hni, _⟩ := place_pos hp
  have hic : (ins c (without l.cues c.num))[i] = c := by
    rcases hmem.1 (List.getElem_mem hi) with e | hx
    · exact e
    · exact absurd hni (mem_without.1 hx).2
  have h0 : (0 : Int) ≤ (i : Int) := by omega
  refine ⟨hr, ⟨i, hi, ?_, hic⟩, ?_, ⟨_, by unfold dropR; rw [if_neg (by simp [g0])]⟩⟩
  · unfold findR
    rw [if_neg (by simp [g1])]
    simp only [hpi]
    rw [if_neg (by omega)]
    simp only [h0, decide_true]
  · unfold dropR
    rw [if_neg (by simp [g1])]
    simp only [hpi, h0, decide_true]
    rw [without_ins fun x hx => (mem_without.1 hx).2]
theorem law12_typed : Contract Tryz.prog 12 fun args K => ∃ (l : Lis) (c : Cue), l.Ok ∧ c.Ok ∧ args = [.agg l.enc, .agg c.enc] ∧ K [.d (.bool true)] := by
  refine .of c12 t12_ok ?_
  rintro _ K ⟨l, c, hl, hc, rfl, hK⟩ hsm
  refine ⟨l.enc ++ c.enc, rfl, by exact (Lis.has hl).append (Cue.has hc), ?_⟩
  have awk : ∀ {ρ : List D} {r : R}, denR Tryz.prog (fun _ rs => K rs) noK r .none (ρ ++ [.bool true]) → denR Tryz.prog (fun _ rs => K rs) noK (.call none (.fn 18) [] [.cell .bool] r) .none ρ := fun {ρ r} h =>
    denR_call awake_ok ⟨rfl, [.bool true], rfl, h⟩
  refine denR_call goodB_ok ⟨l, hl, by simp only [zz, RT.den, den, O1.eval, O2.eval, D.eqb, Ags.none, reduceCtorEq, forall_const, if_true, if_false, ite_true, ite_false, D.sub, D.cell, D.elem, D.cells, D.padd, D.list, D.push, Lis.enc, Cue.enc], fun b hb => ⟨[.bool b], rfl, ?_⟩⟩
  cases b with
  | false =>
    refine denR_gcall few16_ok false [.bool false] (by simp only [zz, RT.den, den, O1.eval, O2.eval, D.eqb, Ags.none, reduceCtorEq, forall_const, if_true, if_false, ite_true, ite_false, D.sub, D.cell, D.elem, D.cells, D.padd, D.list, D.push, Lis.enc, Cue.enc]) (fun h => by cases h) (fun _ => rfl) ?_
    refine denR_gcall check16_ok false [.int .i64 0] (by simp only [zz, RT.den, den, O1.eval, O2.eval, D.eqb, Ags.none, reduceCtorEq, forall_const, if_true, if_false, ite_true, ite_false, D.sub, D.cell, D.elem, D.cells, D.padd, D.list, D.push, Lis.enc, Cue.enc] <;> simp) (fun h => by cases h) (fun _ => rfl) ?_
    simp only [zz, RT.den, den, O1.eval, O2.eval, D.eqb, Ags.none, reduceCtorEq, forall_const, if_true, if_false, ite_true, ite_false, D.sub, D.cell, D.elem, D.cells, D.padd, D.list, D.push, Lis.enc, Cue.enc]
    refine awk ?_
    simp only [zz, RT.den, den, O1.eval, O2.eval, D.eqb, Ags.none, reduceCtorEq, forall_const, if_true, if_false, ite_true, ite_false, D.sub, D.cell, D.elem, D.cells, D.padd, D.list, D.push, Lis.enc, Cue.enc]
    exact hK
  | true =>
  have hch := hb rfl
  refine denR_gcall few16_ok true [.bool (few16 c)] (by simp only [zz, RT.den, den, O1.eval, O2.eval, D.eqb, Ags.none, reduceCtorEq, forall_const, if_true, if_false, ite_true, ite_false, D.sub, D.cell, D.elem, D.cells, D.padd, D.list, D.push, Lis.enc, Cue.enc]) (fun _ => ⟨c, hc, by simp only [zz, RT.den, den, O1.eval, O2.eval, D.eqb, Ags.none, reduceCtorEq, forall_const, if_true, if_false, ite_true, ite_false, D.sub, D.cell, D.elem, D.cells, D.padd, D.list, D.push, Lis.enc, Cue.enc], rfl⟩) (fun h => by cases h) ?_
  cases hf : few16 c with
  | false =>
    refine denR_gcall check16_ok false [.int .i64 0] (by simp only [zz, RT.den, den, O1.eval, O2.eval, D.eqb, Ags.none, reduceCtorEq, forall_const, if_true, if_false, ite_true, ite_false, D.sub, D.cell, D.elem, D.cells, D.padd, D.list, D.push, Lis.enc, Cue.enc] <;> simp) (fun h => by cases h) (fun _ => rfl) ?_
    simp only [zz, RT.den, den, O1.eval, O2.eval, D.eqb, Ags.none, reduceCtorEq, forall_const, if_true, if_false, ite_true, ite_false, D.sub, D.cell, D.elem, D.cells, D.padd, D.list, D.push, Lis.enc, Cue.enc]
    refine awk ?_
    simp only [zz, RT.den, den, O1.eval, O2.eval, D.eqb, Ags.none, reduceCtorEq, forall_const, if_true, if_false, ite_true, ite_false, D.sub, D.cell, D.elem, D.cells, D.padd, D.list, D.push, Lis.enc, Cue.enc]
    exact hK
  | true =>
  refine denR_gcall check16_ok true [.int .i64 (check16 c)] (by simp only [zz, RT.den, den, O1.eval, O2.eval, D.eqb, Ags.none, reduceCtorEq, forall_const, if_true, if_false, ite_true, ite_false, D.sub, D.cell, D.elem, D.cells, D.padd, D.list, D.push, Lis.enc, Cue.enc] <;> simp) (fun _ => ⟨c, hc, by simp only [zz, RT.den, den, O1.eval, O2.eval, D.eqb, Ags.none, reduceCtorEq, forall_const, if_true, if_false, ite_true, ite_false, D.sub, D.cell, D.elem, D.cells, D.padd, D.list, D.push, Lis.enc, Cue.enc], rfl⟩) (fun h => by cases h) ?_
  simp only [zz, RT.den, den, O1.eval, O2.eval, D.eqb, Ags.none, reduceCtorEq, forall_const, if_true, if_false, ite_true, ite_false, D.sub, D.cell, D.elem, D.cells, D.padd, D.list, D.push, Lis.enc, Cue.enc]
  refine ⟨fun _ => ?_, fun h2 => ?_⟩
  · refine awk ?_
    simp only [zz, RT.den, den, O1.eval, O2.eval, D.eqb, Ags.none, reduceCtorEq, forall_const, if_true, if_false, ite_true, ite_false, D.sub, D.cell, D.elem, D.cells, D.padd, D.list, D.push, Lis.enc, Cue.enc]
    exact hK
  have h2 : check16 c = 0 := by simpa using h2
  have hR := rightL_of hch
  have hlen := hR.len
  refine denR_call put_ok17 ⟨l, c, hl, hc, by simp only [zz, RT.den, den, O1.eval, O2.eval, D.eqb, Ags.none, reduceCtorEq, forall_const, if_true, if_false, ite_true, ite_false, D.sub, D.cell, D.elem, D.cells, D.padd, D.list, D.push, Lis.enc, Cue.enc], _, rfl, ?_⟩
  by_cases hm : 64 < (ins c (without l.cues c.num)).length
  · have e : putR l c = (zeroL, 5) := by unfold putR; rw [if_neg (by simp [hch]), if_neg (by simp [h2]), if_pos hm]
    have h64 : l.cues.length = 64 := by
      rw [ins_len] at hm
      have : (without l.cues c.num).length ≤ l.cues.length := List.length_filter_le _ _
      omega
    rw [e]
    simp only [zz, RT.den, den, O1.eval, O2.eval, D.eqb, Ags.none, reduceCtorEq, forall_const, if_true, if_false, ite_true, ite_false, D.sub, D.cell, D.elem, D.cells, D.padd, D.list, D.push, Lis.enc, Cue.enc, List.length_map, h64]
    refine ⟨fun _ _ => ?_, fun h => absurd h (by simp)⟩
    refine denR_gcall awake_ok true [.bool true] (by simp only [zz, RT.den, den, O1.eval, O2.eval, D.eqb, Ags.none, reduceCtorEq, forall_const, if_true, if_false, ite_true, ite_false, D.sub, D.cell, D.elem, D.cells, D.padd, D.list, D.push, Lis.enc, Cue.enc, List.length_map, h64] <;> simp) (fun _ => ⟨rfl, rfl⟩) (fun h => by cases h) ?_
    simp only [zz, RT.den, den, O1.eval, O2.eval, D.eqb, Ags.none, reduceCtorEq, forall_const, if_true, if_false, ite_true, ite_false, D.sub, D.cell, D.elem, D.cells, D.padd, D.list, D.push, Lis.enc, Cue.enc, List.length_map, h64]
    simpa using hK
  · have e : putR l c = ({ l with cues := ins c (without l.cues c.num) }, 0) := by unfold putR; rw [if_neg (by simp [hch]), if_neg (by simp [h2]), if_neg hm]
    obtain ⟨hr, ⟨i, hi, hfi, hic⟩, hdr, ⟨b0, hd0⟩⟩ := putd hch h2 hm
    have hmo : ({ l with cues := ins c (without l.cues c.num) } : Lis).Ok := by have := putR_Ok hl hc; rw [e] at this; exact this
    have hwo : ({ l with cues := without l.cues c.num } : Lis).Ok := by have := dropR_Ok hl c.num; rw [hd0] at this; exact this
    rw [e]
    generalize hM : ins c (without l.cues c.num) = M at *
    simp only [zz, RT.den, den, O1.eval, O2.eval, D.eqb, Ags.none, reduceCtorEq, forall_const, if_true, if_false, ite_true, ite_false, D.sub, D.cell, D.elem, D.cells, D.padd, D.list, D.push, Lis.enc, Cue.enc]
    refine denR_call findR_ok ⟨{ l with cues := M }, c.num, hmo, by simp only [zz, RT.den, den, O1.eval, O2.eval, D.eqb, Ags.none, reduceCtorEq, forall_const, if_true, if_false, ite_true, ite_false, D.sub, D.cell, D.elem, D.cells, D.padd, D.list, D.push, Lis.enc, Cue.enc], _, rfl, ?_⟩
    rw [hfi]
    have hi0 : ¬ (i : Int) < 0 := by omega
    have hge : ¬ M.length ≤ i := by omega
    have h0 : (0 : Int) ≤ (i : Int) := by omega
    have hs16 : same16 M[i] c = true := by rw [hic]; exact (same16_iff c c).2 rfl
    have hmi : M[i].Ok := by rw [hic]; exact hc
    have hic2 := congrArg Cue.enc hic
    simp only [Cue.enc] at hic2
    simp only [zz, RT.den, den, O1.eval, O2.eval, D.eqb, Ags.none, reduceCtorEq, forall_const, if_true, if_false, ite_true, ite_false, D.sub, D.cell, D.elem, D.cells, D.padd, D.list, D.push, Lis.enc, Cue.enc, List.length_map, hi0, hi, hge, h0]
    intro _
    refine denR_gcall same16_ok true [.bool true] (by simp only [zz, RT.den, den, O1.eval, O2.eval, D.eqb, Ags.none, reduceCtorEq, forall_const, if_true, if_false, ite_true, ite_false, D.sub, D.cell, D.elem, D.cells, D.padd, D.list, D.push, Lis.enc, Cue.enc, List.length_map, hi0, hi, hge, h0] <;> simp) (fun _ => ⟨M[i], c, hmi, hc, by simp only [zz, RT.den, den, O1.eval, O2.eval, D.eqb, Ags.none, reduceCtorEq, forall_const, if_true, if_false, ite_true, ite_false, D.sub, D.cell, D.elem, D.cells, D.padd, D.list, D.push, Lis.enc, Cue.enc, getD_map hi], by rw [hs16]; rfl⟩) (fun h => by cases h) ?_
    refine denR_gcall clCheck17_ok true [.int .i64 0] (by simp only [zz, RT.den, den, O1.eval, O2.eval, D.eqb, Ags.none, reduceCtorEq, forall_const, if_true, if_false, ite_true, ite_false, D.sub, D.cell, D.elem, D.cells, D.padd, D.list, D.push, Lis.enc, Cue.enc, List.length_map, hi0, hi, hge, h0] <;> simp) (fun _ => ⟨{ l with cues := M }, hmo, by simp only [zz, RT.den, den, O1.eval, O2.eval, D.eqb, Ags.none, reduceCtorEq, forall_const, if_true, if_false, ite_true, ite_false, D.sub, D.cell, D.elem, D.cells, D.padd, D.list, D.push, Lis.enc, Cue.enc], by rw [hr]; rfl⟩) (fun h => by cases h) ?_
    simp only [zz, RT.den, den, O1.eval, O2.eval, D.eqb, Ags.none, reduceCtorEq, forall_const, if_true, if_false, ite_true, ite_false, D.sub, D.cell, D.elem, D.cells, D.padd, D.list, D.push, Lis.enc, Cue.enc, List.length_map, hi0, hi, hge, h0]
    refine denR_call drop_ok17 ⟨{ l with cues := M }, c.num, hmo, by simp only [zz, RT.den, den, O1.eval, O2.eval, D.eqb, Ags.none, reduceCtorEq, forall_const, if_true, if_false, ite_true, ite_false, D.sub, D.cell, D.elem, D.cells, D.padd, D.list, D.push, Lis.enc, Cue.enc], _, rfl, ?_⟩
    rw [hdr]
    refine denR_call drop_ok17 ⟨l, c.num, hl, by simp only [zz, RT.den, den, O1.eval, O2.eval, D.eqb, Ags.none, reduceCtorEq, forall_const, if_true, if_false, ite_true, ite_false, D.sub, D.cell, D.elem, D.cells, D.padd, D.list, D.push, Lis.enc, Cue.enc], _, rfl, ?_⟩
    rw [hd0]
    refine denR_gcall same17_ok true [.bool true] (by simp only [zz, RT.den, den, O1.eval, O2.eval, D.eqb, Ags.none, reduceCtorEq, forall_const, if_true, if_false, ite_true, ite_false, D.sub, D.cell, D.elem, D.cells, D.padd, D.list, D.push, Lis.enc, Cue.enc] <;> simp) (fun _ => ⟨{ l with cues := without l.cues c.num }, { l with cues := without l.cues c.num }, hwo, hwo, by simp only [zz, RT.den, den, O1.eval, O2.eval, D.eqb, Ags.none, reduceCtorEq, forall_const, if_true, if_false, ite_true, ite_false, D.sub, D.cell, D.elem, D.cells, D.padd, D.list, D.push, Lis.enc, Cue.enc], by rw [same17_self]; rfl⟩) (fun h => by cases h) ?_
    refine denR_gcall awake_ok true [.bool true] (by simp only [zz, RT.den, den, O1.eval, O2.eval, D.eqb, Ags.none, reduceCtorEq, forall_const, if_true, if_false, ite_true, ite_false, D.sub, D.cell, D.elem, D.cells, D.padd, D.list, D.push, Lis.enc, Cue.enc] <;> simp) (fun _ => ⟨rfl, rfl⟩) (fun h => by cases h) ?_
    simp only [zz, RT.den, den, O1.eval, O2.eval, D.eqb, Ags.none, reduceCtorEq, forall_const, if_true, if_false, ite_true, ite_false, D.sub, D.cell, D.elem, D.cells, D.padd, D.list, D.push, Lis.enc, Cue.enc]
    simpa using hK
theorem law12 : Contract Tryz.prog 12 (LawSpec Tryz.prog 12) :=
  law12_typed.weaken fun args K _ h => by
    obtain ⟨h1, h2, hK⟩ := lawArgs [.agg liKs, .agg cueKs] (by kernel_rfl) h
    match args, h1 with
    | [a, b], _ =>
      obtain ⟨l, hl, rfl⟩ := Lis.ofAgg (h2 0 _ _ rfl rfl)
      obtain ⟨c, hc, rfl⟩ := Cue.ofAgg (h2 1 _ _ rfl rfl)
      exact ⟨l, c, hl, hc, rfl, hK⟩
end Go.Sx.La
