/-
 A law as a contract (and what it needs).
-/
import Derived.Test.YtieoaedbfdmocaaGreatDoorTLc
set_option linter.unusedSimpArgs false
set_option linter.unusedVariables false
set_option linter.unusedSectionVars false
set_option linter.defProp false
set_option maxRecDepth 100000
set_option maxRecDepth 100000
namespace Go.Sx.La
open Go Go.Sx Go.RowKit Go.Proofs
noncomputable def t9 : R := .call none (.fn 46) [.lcons (.var 0) (.lcons (.var 1) (.lcons (.var 2) .lnil))] [.cell .bool] (.fact (.ite (.o1 .not (.o1 .not (.var 5))) (.o2 .le (.o1 .len (.var 3)) (.int .i64 140737488355328)) (.bool true)) (.fact (.ite (.o1 .not (.ite (.o1 .not (.var 5)) (.bool true) (.o2 .gt (.o1 .len (.var 3)) (.int .i64 40)))) (.o2 .le (.o1 .len (.var 4)) (.int .i64 140737488355328)) (.bool true)) (.ite (.ite (.ite (.o1 .not (.var 5)) (.bool true) (.o2 .gt (.o1 .len (.var 3)) (.int .i64 40))) (.bool true) (.o2 .gt (.o1 .len (.var 4)) (.int .i64 40))) (.call none (.fn 47) [] [.cell .bool] (.ret [.d (.var 6)])) (.call none (.fn 50) [.lcons (.var 0) (.lcons (.var 1) (.lcons (.var 2) .lnil)), .var 3, .var 4] [.cell (.slice [.int .i64, .int .i64, .int .i64, .int .i64]), .cell (.int .i64)] (.call none (.fn 51) [.lcons (.var 0) (.lcons (.var 1) (.lcons (.var 2) .lnil)), .var 3, .var 4] [.cell (.slice [.int .i64, .int .i64, .int .i64, .int .i64]), .cell (.int .i64)] (.call none (.fn 52) [.lcons (.var 0) (.lcons (.var 1) (.lcons (.var 2) .lnil)), .var 4] [.cell (.slice [.int .i64, .int .i64, .int .i64, .int .i64]), .cell (.int .i64)] (.call none (.fn 53) [.lcons (.var 0) (.lcons (.var 1) (.lcons (.var 2) .lnil)), .var 4] [.cell (.slice [.int .i64, .int .i64, .int .i64, .int .i64]), .cell (.int .i64)] (.call none (.fn 54) [.var 6, .var 8] [.cell .bool] (.call (some (.ite (.var 14) (.o2 .eq (.var 7) (.var 9)) (.bool false))) (.fn 54) [.var 10, .var 12] [.cell .bool] (.call (some (.ite (.ite (.ite (.var 14) (.o2 .eq (.var 7) (.var 9)) (.bool false)) (.var 15) (.bool false)) (.o2 .eq (.var 11) (.var 13)) (.bool false))) (.fn 47) [] [.cell .bool] (.ret [.d (.ite (.ite (.ite (.ite (.var 14) (.o2 .eq (.var 7) (.var 9)) (.bool false)) (.var 15) (.bool false)) (.o2 .eq (.var 11) (.var 13)) (.bool false)) (.var 16) (.bool false))])))))))))))
theorem Par.ofAgg {d : D} (h : HasK (.agg paKs) d) : ∃ p : Par, p.Ok ∧ d = .agg p.enc := by
 cases d <;> simp only [HasK] at h
 rename_i cs
 match cs, h with
 | [a, b], h =>
   simp only [paKs, HasKs, and_true] at h
   obtain ⟨x, rfl, hx⟩ := i64_of h.1
   obtain ⟨y, rfl, hy⟩ := i64_of h.2
   exact ⟨⟨x, y⟩, ⟨hx, hy⟩, rfl⟩
theorem steps_ents {l : Lis} (hl : l.Ok) (s : List UInt8) : ∀ e ∈ (stepsR l s).1, e.Ok := by
 have hd : ∀ (a b : List Ent), (∀ e ∈ b, e.Ok) → ∀ e ∈ diffE a b, e.Ok := by
   intro a
   induction a with
   | nil => intro b _ e he; cases b <;> simp [diffE] at he
   | cons x a ih =>
     intro b hb e he
     cases b with
     | nil => simp [diffE] at he
     | cons y b =>
       simp only [diffE] at he
       split at he
       · exact ih b (fun e h => hb e (List.mem_cons_of_mem _ h)) e he
       · rcases List.mem_cons.1 he with rfl | he
         · exact hb _ (by simp)
         · exact ih b (fun e h => hb e (List.mem_cons_of_mem _ h)) e he
 unfold stepsR
 by_cases h : cue18 l s = 0
 · rw [if_neg (by simp [h])]
   exact hd _ _ (lookL_ok (cue18_right hl h).1 _)
 · rw [if_pos h]; simp
end Go.Sx.La
