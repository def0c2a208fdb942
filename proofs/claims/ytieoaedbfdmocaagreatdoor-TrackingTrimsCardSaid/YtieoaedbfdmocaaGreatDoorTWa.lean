/-
 A law of layer 17 as a contract (and what it needs).
-/
import Derived.Test.YtieoaedbfdmocaaGreatDoorTLb
set_option linter.unusedSimpArgs false
set_option linter.unusedVariables false
set_option linter.unusedSectionVars false
set_option linter.defProp false
set_option maxRecDepth 100000
set_option maxRecDepth 100000
namespace Go.Sx.La
open Go Go.Sx Go.RowKit Go.Proofs
noncomputable def t5 : R := .call none (.fn 17) [.lcons (.var 0) (.lcons (.var 1) (.lcons (.var 2) .lnil))] [.cell .bool] (.fact (.ite (.o1 .not (.o1 .not (.var 5))) (.o2 .le (.o1 .len (.var 3)) (.int .i64 140737488355328)) (.bool true)) (.ite (.ite (.o1 .not (.var 5)) (.bool true) (.o2 .gt (.o1 .len (.var 3)) (.int .i64 40))) (.call none (.fn 18) [] [.cell .bool] (.ret [.d (.var 6)])) (.call none (.fn 28) [.lcons (.var 0) (.lcons (.var 1) (.lcons (.var 2) .lnil)), .var 3] [.cell (.int .i64), .cell .bool, .cell (.int .i64)] (.call none (.fn 29) [.lcons (.var 0) (.lcons (.var 1) (.lcons (.var 2) .lnil)), .var 3] [.cell (.int .i64), .cell .bool, .cell (.int .i64)] (.ite (.ite (.ite (.o2 .ne (.var 6) (.var 9)) (.bool true) (.o2 .ne (.var 7) (.var 10))) (.bool true) (.o2 .ne (.var 8) (.var 11))) (.ret [.d (.bool false)]) (.call none (.fn 30) [.lcons (.var 0) (.lcons (.var 1) (.lcons (.var 2) .lnil)), .var 3] [.cell .str, .cell .bool, .cell (.int .i64)] (.call none (.fn 31) [.lcons (.var 0) (.lcons (.var 1) (.lcons (.var 2) .lnil)), .var 3] [.cell .str, .cell .bool, .cell (.int .i64)] (.ite (.ite (.ite (.o2 .ne (.var 12) (.var 15)) (.bool true) (.o2 .ne (.var 13) (.var 16))) (.bool true) (.o2 .ne (.var 14) (.var 17))) (.ret [.d (.bool false)]) (.call none (.fn 32) [.lcons (.var 0) (.lcons (.var 1) (.lcons (.var 2) .lnil)), .var 3] [.cell .str, .cell .bool, .cell (.int .i64)] (.call none (.fn 33) [.lcons (.var 0) (.lcons (.var 1) (.lcons (.var 2) .lnil)), .var 3] [.cell .str, .cell .bool, .cell (.int .i64)] (.call none (.fn 34) [.lcons (.var 0) (.lcons (.var 1) (.lcons (.var 2) .lnil)), .var 4] [.cell (.slice [.str]), .cell (.int .i64)] (.call none (.fn 35) [.lcons (.var 0) (.lcons (.var 1) (.lcons (.var 2) .lnil)), .var 4] [.cell (.slice [.str]), .cell (.int .i64)] (.call (some (.ite (.ite (.o2 .eq (.var 18) (.var 21)) (.o2 .eq (.var 19) (.var 22)) (.bool false)) (.o2 .eq (.var 20) (.var 23)) (.bool false))) (.fn 36) [.var 24, .var 26] [.cell .bool] (.call (some (.ite (.ite (.ite (.ite (.o2 .eq (.var 18) (.var 21)) (.o2 .eq (.var 19) (.var 22)) (.bool false)) (.o2 .eq (.var 20) (.var 23)) (.bool false)) (.var 28) (.bool false)) (.o2 .eq (.var 25) (.var 27)) (.bool false))) (.fn 18) [] [.cell .bool] (.ret [.d (.ite (.ite (.ite (.ite (.ite (.o2 .eq (.var 18) (.var 21)) (.o2 .eq (.var 19) (.var 22)) (.bool false)) (.o2 .eq (.var 20) (.var 23)) (.bool false)) (.var 28) (.bool false)) (.o2 .eq (.var 25) (.var 27)) (.bool false)) (.var 29) (.bool false))])))))))))))))))
theorem c5 : callable Tryz.prog 5 = true := by kernel_rfl
theorem str_of {d : D} (h : HasK .str d) : ∃ s, d = .str s := by cases d <;> simp [HasK] at h; exact ⟨_, rfl⟩
theorem bool_of {d : D} (h : HasK .bool d) : ∃ s, d = .bool s := by cases d <;> simp [HasK] at h; exact ⟨_, rfl⟩
theorem slice_of {X : Type} {enc : X → List D} {ks : List K} {Ok : X → Prop} (h : ∀ ds, HasKs ks ds → ∃ x, Ok x ∧ ds = enc x) {d : D} (hd : HasK (.slice ks) d) : ∃ l : List X, (∀ x ∈ l, Ok x) ∧ d = .slice (l.map enc) := by
 cases d <;> simp only [HasK] at hd
 rename_i xs
 induction xs with
 | nil => exact ⟨[], by simp, rfl⟩
 | cons x xs ih =>
   obtain ⟨y, hy, rfl⟩ := h x (hd x (by simp))
   obtain ⟨l, h1, h2⟩ := ih fun z hz => hd z (by simp [hz])
   refine ⟨y :: l, ?_, ?_⟩
   · intro z hz
     rcases List.mem_cons.1 hz with rfl | hz
     · exact hy
     · exact h1 z hz
   · have : xs = l.map enc := by simpa using h2
     rw [List.map_cons, this]
theorem Mov.of {ds : List D} (h : HasKs mvKs ds) : ∃ m : Mov, m.Ok ∧ ds = m.enc := by
 match ds, h with
 | [a, b, c, d, e], ⟨h1, h2, h3, h4, h5, _⟩ =>
   obtain ⟨a, rfl, ha⟩ := i64_of h1
   obtain ⟨b, rfl, hb⟩ := i64_of h2
   obtain ⟨c, rfl, hc⟩ := i64_of h3
   obtain ⟨d, rfl, hd⟩ := i64_of h4
   obtain ⟨e, rfl, he⟩ := i64_of h5
   exact ⟨⟨⟨a, b⟩, ⟨c, d⟩, e⟩, ⟨⟨ha, hb⟩, ⟨hc, hd⟩, he⟩, rfl⟩
theorem Tim.of {ds : List D} (h : HasKs tmKs ds) : ∃ m : Tim, m.Ok ∧ ds = m.enc := by
 match ds, h with
 | [a, b, c, d, e, f], ⟨h1, h2, h3, h4, h5, h6, _⟩ =>
   obtain ⟨a, rfl, ha⟩ := i64_of h1
   obtain ⟨b, rfl, hb⟩ := i64_of h2
   obtain ⟨c, rfl, hc⟩ := i64_of h3
   obtain ⟨d, rfl, hd⟩ := i64_of h4
   obtain ⟨e, rfl, he⟩ := i64_of h5
   obtain ⟨f, rfl, hf⟩ := i64_of h6
   exact ⟨⟨a, b, c, d, e, f⟩, ⟨ha, hb, hc, hd, he, hf⟩, rfl⟩
theorem Cue.of {ds : List D} (h : HasKs cueKs ds) : ∃ m : Cue, m.Ok ∧ ds = m.enc := by
 match ds, h with
 | [a, b, c, d, e, f, g, i, j], ⟨h1, h2, h3, h4, h5, h6, h7, h8, h9, _⟩ =>
   obtain ⟨a, rfl⟩ := str_of h1
   obtain ⟨b, rfl⟩ := str_of h2
   obtain ⟨c, hc, rfl⟩ := slice_of (fun _ => Mov.of) h3
   obtain ⟨d, hd, rfl⟩ := slice_of (fun _ => Tim.of) h4
   obtain ⟨e, rfl⟩ := bool_of h5
   obtain ⟨f, rfl⟩ := bool_of h6
   obtain ⟨g, rfl, hg⟩ := i64_of h7
   obtain ⟨i, rfl⟩ := str_of h8
   obtain ⟨j, rfl, hj⟩ := i64_of h9
   exact ⟨⟨a, b, c, d, e, f, g, i, j⟩, ⟨hc, hd, hg, hj⟩, rfl⟩
theorem Lis.of {ds : List D} (h : HasKs liKs ds) : ∃ m : Lis, m.Ok ∧ ds = m.enc := by
 match ds, h with
 | [a, b, c], ⟨h1, h2, h3, _⟩ =>
   obtain ⟨a, rfl, ha⟩ := i64_of h1
   obtain ⟨b, rfl, hb⟩ := i64_of h2
   obtain ⟨c, hc, rfl⟩ := slice_of (fun _ => Cue.of) h3
   exact ⟨⟨a, b, c⟩, ⟨ha, hb, hc⟩, rfl⟩
theorem Lis.ofAgg {d : D} (h : HasK (.agg liKs) d) : ∃ l : Lis, l.Ok ∧ d = .agg l.enc := by
 cases d <;> simp only [HasK] at h
 obtain ⟨l, h1, rfl⟩ := Lis.of h
 exact ⟨l, h1, rfl⟩
theorem Cue.ofAgg {d : D} (h : HasK (.agg cueKs) d) : ∃ l : Cue, l.Ok ∧ d = .agg l.enc := by
 cases d <;> simp only [HasK] at h
 obtain ⟨l, h1, rfl⟩ := Cue.of h
 exact ⟨l, h1, rfl⟩
end Go.Sx.La
