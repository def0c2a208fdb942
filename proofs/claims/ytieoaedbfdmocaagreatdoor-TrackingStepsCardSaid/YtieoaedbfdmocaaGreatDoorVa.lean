/-
  A law as a contract (and what it needs).
-/
import Derived.Test.YtieoaedbfdmocaaGreatDoorLc
set_option linter.unusedSimpArgs false
set_option linter.unusedVariables false
set_option linter.unusedSectionVars false
set_option linter.defProp false
set_option maxRecDepth 100000
set_option maxRecDepth 100000
namespace Go.Sx.La
open Go Go.Sx Go.RowKit Go.Proofs
noncomputable def t8 : R := .call none (.fn 46) [.lcons (.var 0) (.lcons (.var 1) (.lcons (.var 2) .lnil))] [.cell .bool] (.fact (.ite (.o1 .not (.o1 .not (.var 6))) (.o2 .le (.o1 .len (.var 3)) (.int .i64 140737488355328)) (.bool true)) (.ite (.ite (.o1 .not (.var 6)) (.bool true) (.o2 .gt (.o1 .len (.var 3)) (.int .i64 40))) (.call none (.fn 47) [] [.cell .bool] (.ret [.d (.var 7)])) (.call none (.fn 48) [.lcons (.var 0) (.lcons (.var 1) (.lcons (.var 2) .lnil)), .var 3, .lcons (.var 4) (.lcons (.var 5) .lnil)] [.cell .str, .cell .bool, .cell (.int .i64)] (.call none (.fn 49) [.lcons (.var 0) (.lcons (.var 1) (.lcons (.var 2) .lnil)), .var 3, .lcons (.var 4) (.lcons (.var 5) .lnil)] [.cell .str, .cell .bool, .cell (.int .i64)] (.call (some (.ite (.ite (.o2 .eq (.var 7) (.var 10)) (.o2 .eq (.var 8) (.var 11)) (.bool false)) (.o2 .eq (.var 9) (.var 12)) (.bool false))) (.fn 47) [] [.cell .bool] (.ret [.d (.ite (.ite (.ite (.o2 .eq (.var 7) (.var 10)) (.o2 .eq (.var 8) (.var 11)) (.bool false)) (.o2 .eq (.var 9) (.var 12)) (.bool false)) (.var 13) (.bool false))]))))))
theorem t8_ok : fnO Tryz.prog mdA 8 [.agg [.int .i64, .int .i64, .slice [.str, .str, .slice [.int .i64, .int .i64, .int .i64, .int .i64, .int .i64], .slice [.int .i64, .int .i64, .int .i64, .int .i64, .int .i64, .int .i64], .bool, .bool, .int .i64, .str, .int .i64]], .cell .str, .agg [.int .i64, .int .i64]] = t8 := by kernel_rfl
theorem c8 : callable Tryz.prog 8 = true := by kernel_rfl
noncomputable def t9 : R := .call none (.fn 46) [.lcons (.var 0) (.lcons (.var 1) (.lcons (.var 2) .lnil))] [.cell .bool] (.fact (.ite (.o1 .not (.o1 .not (.var 5))) (.o2 .le (.o1 .len (.var 3)) (.int .i64 140737488355328)) (.bool true)) (.fact (.ite (.o1 .not (.ite (.o1 .not (.var 5)) (.bool true) (.o2 .gt (.o1 .len (.var 3)) (.int .i64 40)))) (.o2 .le (.o1 .len (.var 4)) (.int .i64 140737488355328)) (.bool true)) (.ite (.ite (.ite (.o1 .not (.var 5)) (.bool true) (.o2 .gt (.o1 .len (.var 3)) (.int .i64 40))) (.bool true) (.o2 .gt (.o1 .len (.var 4)) (.int .i64 40))) (.call none (.fn 47) [] [.cell .bool] (.ret [.d (.var 6)])) (.call none (.fn 50) [.lcons (.var 0) (.lcons (.var 1) (.lcons (.var 2) .lnil)), .var 3, .var 4] [.cell (.slice [.int .i64, .int .i64, .int .i64, .int .i64]), .cell (.int .i64)] (.call none (.fn 51) [.lcons (.var 0) (.lcons (.var 1) (.lcons (.var 2) .lnil)), .var 3, .var 4] [.cell (.slice [.int .i64, .int .i64, .int .i64, .int .i64]), .cell (.int .i64)] (.call none (.fn 52) [.lcons (.var 0) (.lcons (.var 1) (.lcons (.var 2) .lnil)), .var 4] [.cell (.slice [.int .i64, .int .i64, .int .i64, .int .i64]), .cell (.int .i64)] (.call none (.fn 53) [.lcons (.var 0) (.lcons (.var 1) (.lcons (.var 2) .lnil)), .var 4] [.cell (.slice [.int .i64, .int .i64, .int .i64, .int .i64]), .cell (.int .i64)] (.call none (.fn 54) [.var 6, .var 8] [.cell .bool] (.call (some (.ite (.var 14) (.o2 .eq (.var 7) (.var 9)) (.bool false))) (.fn 54) [.var 10, .var 12] [.cell .bool] (.call (some (.ite (.ite (.ite (.var 14) (.o2 .eq (.var 7) (.var 9)) (.bool false)) (.var 15) (.bool false)) (.o2 .eq (.var 11) (.var 13)) (.bool false))) (.fn 47) [] [.cell .bool] (.ret [.d (.ite (.ite (.ite (.ite (.var 14) (.o2 .eq (.var 7) (.var 9)) (.bool false)) (.var 15) (.bool false)) (.o2 .eq (.var 11) (.var 13)) (.bool false)) (.var 16) (.bool false))])))))))))))
theorem t9_ok : fnO Tryz.prog mdA 9 [.agg [.int .i64, .int .i64, .slice [.str, .str, .slice [.int .i64, .int .i64, .int .i64, .int .i64, .int .i64], .slice [.int .i64, .int .i64, .int .i64, .int .i64, .int .i64, .int .i64], .bool, .bool, .int .i64, .str, .int .i64]], .cell .str, .cell .str] = t9 := by kernel_rfl
theorem c9 : callable Tryz.prog 9 = true := by kernel_rfl
theorem law8_typed : Contract Tryz.prog 8 fun args K => ∃ (l : Lis) (s : List UInt8) (p : Par), l.Ok ∧ p.Ok ∧ args = [.agg l.enc, .str s, .agg p.enc] ∧ K [.d (.bool true)] := by
  refine .of c8 t8_ok ?_
  rintro _ K ⟨l, s, p, hl, hp, rfl, hK⟩ hsm
  refine ⟨l.enc ++ [.str s] ++ p.enc, rfl, by exact has_lsp hl hp, ?_⟩
  refine denR_call few18_ok ⟨l, hl, by simp only [zz, RT.den, den, O1.eval, O2.eval, D.eqb, Ags.none, reduceCtorEq, forall_const, if_true, if_false, ite_true, ite_false, D.sub, D.cell, D.elem, D.cells, D.padd, D.list, D.push, Lis.enc, Par.enc], fun b => ⟨[.bool b], rfl, ?_⟩⟩
  simp only [zz, RT.den, den, O1.eval, O2.eval, D.eqb, Ags.none, reduceCtorEq, forall_const, if_true, if_false, ite_true, ite_false, D.sub, D.cell, D.elem, D.cells, D.padd, D.list, D.push, Lis.enc, Par.enc]
  intro _
  refine ⟨fun _ => ?_, fun _ => ?_⟩
  · refine denR_call awake18_ok ⟨rfl, _, rfl, ?_⟩
    simp only [zz, RT.den, den, O1.eval, O2.eval, D.eqb, Ags.none, reduceCtorEq, forall_const, if_true, if_false, ite_true, ite_false, D.sub, D.cell, D.elem, D.cells, D.padd, D.list, D.push]
    exact hK
  · refine denR_call torigin_ok ⟨l, s, p, hl, hp, by simp only [zz, RT.den, den, O1.eval, O2.eval, D.eqb, Ags.none, reduceCtorEq, forall_const, if_true, if_false, ite_true, ite_false, D.sub, D.cell, D.elem, D.cells, D.padd, D.list, D.push, Lis.enc, Par.enc], _, rfl, ?_⟩
    refine denR_call origin18_ok ⟨l, s, p, hl, hp, by simp only [zz, RT.den, den, O1.eval, O2.eval, D.eqb, Ags.none, reduceCtorEq, forall_const, if_true, if_false, ite_true, ite_false, D.sub, D.cell, D.elem, D.cells, D.padd, D.list, D.push, Lis.enc, Par.enc], _, rfl, ?_⟩
    refine denR_gcall awake18_ok true [.bool true] (by simp only [zz, RT.den, den, O1.eval, O2.eval, D.eqb, Ags.none, reduceCtorEq, forall_const, if_true, if_false, ite_true, ite_false, D.sub, D.cell, D.elem, D.cells, D.padd, D.list, D.push]; simp) (fun _ => ⟨rfl, rfl⟩) (fun h => by cases h) ?_
    simp only [zz, RT.den, den, O1.eval, O2.eval, D.eqb, Ags.none, reduceCtorEq, forall_const, if_true, if_false, ite_true, ite_false, D.sub, D.cell, D.elem, D.cells, D.padd, D.list, D.push]
    simpa using hK
theorem Par.ofAgg {d : D} (h : HasK (.agg paKs) d) : ∃ p : Par, p.Ok ∧ d = .agg p.enc := by
  cases d <;> simp only [HasK] at h
  rename_i cs
  match cs, h with
  | [a, b], h =>
    simp only [paKs, HasKs, and_true] at h
    obtain ⟨x, rfl, hx⟩ := i64_of h.1
    obtain ⟨y, rfl, hy⟩ := i64_of h.2
    exact ⟨⟨x, y⟩, ⟨hx, hy⟩, rfl⟩
theorem law8 : Contract Tryz.prog 8 (LawSpec Tryz.prog 8) :=
  law8_typed.weaken fun args K _ h => by
    obtain ⟨h1, h2, hK⟩ := lawArgs [.agg liKs, .cell .str, .agg paKs] (by kernel_rfl) h
    match args, h1 with
    | [a, b, c], _ =>
      obtain ⟨l, hl, rfl⟩ := Lis.ofAgg (h2 0 _ _ rfl rfl)
      obtain ⟨s, rfl⟩ := str_of (h2 1 _ _ rfl rfl)
      obtain ⟨p, hp, rfl⟩ := Par.ofAgg (h2 2 _ _ rfl rfl)
      exact ⟨l, s, p, hl, hp, rfl, hK⟩
theorem steps_ents {l : Lis} (hl : l.Ok) (s : List UInt8) : ∀ e ∈ (stepsR l s).1, e.Ok := by
  have hd : ∀ (a b : List Ent), (∀ e ∈ b, e.Ok) → ∀ e ∈ diffE a b, e.Ok := by
    intro a
    induction a with
    | nil => intro b _ e he; cases b <;> simp [diffE] at he
    | cons x a ih =>
      intro b hb e he
      cases b with
      | nil => simp [diffE] at he
      | cons y b =>
        simp only [diffE] at he
        split at he
        · exact ih b (fun e h => hb e (List.mem_cons_of_mem _ h)) e he
        · rcases List.mem_cons.1 he with rfl | he
          · exact hb _ (by simp)
          · exact ih b (fun e h => hb e (List.mem_cons_of_mem _ h)) e he
  unfold stepsR
  by_cases h : cue18 l s = 0
  · rw [if_neg (by simp [h])]
    exact hd _ _ (lookL_ok (cue18_right hl h).1 _)
  · rw [if_pos h]; simp
theorem changes_ents {l : Lis} (hl : l.Ok) (s t : List UInt8) : ∀ e ∈ (changesR l s t).1, e.Ok := by
  have hd : ∀ (a b : List Ent), (∀ e ∈ b, e.Ok) → ∀ e ∈ diffE a b, e.Ok := by
    intro a
    induction a with
    | nil => intro b _ e he; cases b <;> simp [diffE] at he
    | cons x a ih =>
      intro b hb e he
      cases b with
      | nil => simp [diffE] at he
      | cons y b =>
        simp only [diffE] at he
        split at he
        · exact ih b (fun e h => hb e (List.mem_cons_of_mem _ h)) e he
        · rcases List.mem_cons.1 he with rfl | he
          · exact hb _ (by simp)
          · exact ih b (fun e h => hb e (List.mem_cons_of_mem _ h)) e he
  unfold changesR
  by_cases h : cue18 l s = 0
  · rw [if_neg (by simp [h])]
    by_cases h2 : cue18 l t = 0
    · rw [if_neg (by simp [h2])]
      exact hd _ _ (lookL_ok (cue18_right hl h).1 _)
    · rw [if_pos h2]; simp
  · rw [if_pos h]; simp
theorem law9_typed : Contract Tryz.prog 9 fun args K => ∃ (l : Lis) (s t : List UInt8), l.Ok ∧ args = [.agg l.enc, .str s, .str t] ∧ K [.d (.bool true)] := by
  refine .of c9 t9_ok ?_
  rintro _ K ⟨l, s, t, hl, rfl, hK⟩ hsm
  refine ⟨l.enc ++ [.str s, .str t], rfl, by exact has_lss hl, ?_⟩
  refine denR_call few18_ok ⟨l, hl, by simp only [zz, RT.den, den, O1.eval, O2.eval, D.eqb, Ags.none, reduceCtorEq, forall_const, if_true, if_false, ite_true, ite_false, D.sub, D.cell, D.elem, D.cells, D.padd, D.list, D.push, Lis.enc], fun b => ⟨[.bool b], rfl, ?_⟩⟩
  simp only [zz, RT.den, den, O1.eval, O2.eval, D.eqb, Ags.none, reduceCtorEq, forall_const, if_true, if_false, ite_true, ite_false, D.sub, D.cell, D.elem, D.cells, D.padd, D.list, D.push, Lis.enc]
  intro _ _
  refine ⟨fun _ => ?_, fun _ => ?_⟩
  · refine denR_call awake18_ok ⟨rfl, _, rfl, ?_⟩
    simp only [zz, RT.den, den, O1.eval, O2.eval, D.eqb, Ags.none, reduceCtorEq, forall_const, if_true, if_false, ite_true, ite_false, D.sub, D.cell, D.elem, D.cells, D.padd, D.list, D.push]
    exact hK
  · refine denR_call changesC_ok ⟨l, s, t, hl, by simp only [zz, RT.den, den, O1.eval, O2.eval, D.eqb, Ags.none, reduceCtorEq, forall_const, if_true, if_false, ite_true, ite_false, D.sub, D.cell, D.elem, D.cells, D.padd, D.list, D.push, Lis.enc], _, rfl, ?_⟩
    refine denR_call changesS_ok ⟨l, s, t, hl, by simp only [zz, RT.den, den, O1.eval, O2.eval, D.eqb, Ags.none, reduceCtorEq, forall_const, if_true, if_false, ite_true, ite_false, D.sub, D.cell, D.elem, D.cells, D.padd, D.list, D.push, Lis.enc], _, rfl, ?_⟩
    refine denR_call stepsC_ok ⟨l, t, hl, by simp only [zz, RT.den, den, O1.eval, O2.eval, D.eqb, Ags.none, reduceCtorEq, forall_const, if_true, if_false, ite_true, ite_false, D.sub, D.cell, D.elem, D.cells, D.padd, D.list, D.push, Lis.enc], _, rfl, ?_⟩
    refine denR_call stepsS_ok ⟨l, t, hl, by simp only [zz, RT.den, den, O1.eval, O2.eval, D.eqb, Ags.none, reduceCtorEq, forall_const, if_true, if_false, ite_true, ite_false, D.sub, D.cell, D.elem, D.cells, D.padd, D.list, D.push, Lis.enc], _, rfl, ?_⟩
    refine denR_call sameEnts_ok ⟨(changesR l s t).1, changes_ents hl s t, by simp only [zz, RT.den, den, O1.eval, O2.eval, D.eqb, Ags.none, reduceCtorEq, forall_const, if_true, if_false, ite_true, ite_false, D.sub, D.cell, D.elem, D.cells, D.padd, D.list, D.push, Lis.enc], _, rfl, ?_⟩
    refine denR_gcall sameEnts_ok true [.bool true] (by simp only [zz, RT.den, den, O1.eval, O2.eval, D.eqb, Ags.none, reduceCtorEq, forall_const, if_true, if_false, ite_true, ite_false, D.sub, D.cell, D.elem, D.cells, D.padd, D.list, D.push] <;> simp) (fun _ => ⟨(stepsR l t).1, steps_ents hl t, by simp only [zz, RT.den, den, O1.eval, O2.eval, D.eqb, Ags.none, reduceCtorEq, forall_const, if_true, if_false, ite_true, ite_false, D.sub, D.cell, D.elem, D.cells, D.padd, D.list, D.push, Lis.enc], rfl⟩) (fun h => by cases h) ?_
    refine denR_gcall awake18_ok true [.bool true] (by simp only [zz, RT.den, den, O1.eval, O2.eval, D.eqb, Ags.none, reduceCtorEq, forall_const, if_true, if_false, ite_true, ite_false, D.sub, D.cell, D.elem, D.cells, D.padd, D.list, D.push] <;> simp) (fun _ => ⟨rfl, rfl⟩) (fun h => by cases h) ?_
    simp only [zz, RT.den, den, O1.eval, O2.eval, D.eqb, Ags.none, reduceCtorEq, forall_const, if_true, if_false, ite_true, ite_false, D.sub, D.cell, D.elem, D.cells, D.padd, D.list, D.push]
    simpa using hK
theorem law9 : Contract Tryz.prog 9 (LawSpec Tryz.prog 9) :=
  law9_typed.weaken fun args K _ h => by
    obtain ⟨h1, h2, hK⟩ := lawArgs [.agg liKs, .cell .str, .cell .str] (by kernel_rfl) h
    match args, h1 with
    | [a, b, c], _ =>
      obtain ⟨l, hl, rfl⟩ := Lis.ofAgg (h2 0 _ _ rfl rfl)
      obtain ⟨s, rfl⟩ := str_of (h2 1 _ _ rfl rfl)
      obtain ⟨t, rfl⟩ := str_of (h2 2 _ _ rfl rfl)
      exact ⟨l, s, t, hl, rfl, hK⟩
end Go.Sx.La
