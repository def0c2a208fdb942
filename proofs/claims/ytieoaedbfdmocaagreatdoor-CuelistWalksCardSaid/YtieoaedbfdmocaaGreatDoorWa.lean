/-
  A law of layer 17 as a contract (and what it needs).
-/
import Derived.Test.YtieoaedbfdmocaaGreatDoorLb
set_option linter.unusedSimpArgs false
set_option linter.unusedVariables false
set_option linter.unusedSectionVars false
set_option linter.defProp false
set_option maxRecDepth 100000
set_option maxRecDepth 100000
namespace Go.Sx.La
open Go Go.Sx Go.RowKit Go.Proofs
noncomputable def t5 : R := .call none (.fn 17) [.lcons (.var 0) (.lcons (.var 1) (.lcons (.var 2) .lnil))] [.cell .bool] (.fact (.ite (.o1 .not (.o1 .not (.var 5))) (.o2 .le (.o1 .len (.var 3)) (.int .i64 140737488355328)) (.bool true)) (.ite (.ite (.o1 .not (.var 5)) (.bool true) (.o2 .gt (.o1 .len (.var 3)) (.int .i64 40))) (.call none (.fn 18) [] [.cell .bool] (.ret [.d (.var 6)])) (.call none (.fn 28) [.lcons (.var 0) (.lcons (.var 1) (.lcons (.var 2) .lnil)), .var 3] [.cell (.int .i64), .cell .bool, .cell (.int .i64)] (.call none (.fn 29) [.lcons (.var 0) (.lcons (.var 1) (.lcons (.var 2) .lnil)), .var 3] [.cell (.int .i64), .cell .bool, .cell (.int .i64)] (.ite (.ite (.ite (.o2 .ne (.var 6) (.var 9)) (.bool true) (.o2 .ne (.var 7) (.var 10))) (.bool true) (.o2 .ne (.var 8) (.var 11))) (.ret [.d (.bool false)]) (.call none (.fn 30) [.lcons (.var 0) (.lcons (.var 1) (.lcons (.var 2) .lnil)), .var 3] [.cell .str, .cell .bool, .cell (.int .i64)] (.call none (.fn 31) [.lcons (.var 0) (.lcons (.var 1) (.lcons (.var 2) .lnil)), .var 3] [.cell .str, .cell .bool, .cell (.int .i64)] (.ite (.ite (.ite (.o2 .ne (.var 12) (.var 15)) (.bool true) (.o2 .ne (.var 13) (.var 16))) (.bool true) (.o2 .ne (.var 14) (.var 17))) (.ret [.d (.bool false)]) (.call none (.fn 32) [.lcons (.var 0) (.lcons (.var 1) (.lcons (.var 2) .lnil)), .var 3] [.cell .str, .cell .bool, .cell (.int .i64)] (.call none (.fn 33) [.lcons (.var 0) (.lcons (.var 1) (.lcons (.var 2) .lnil)), .var 3] [.cell .str, .cell .bool, .cell (.int .i64)] (.call none (.fn 34) [.lcons (.var 0) (.lcons (.var 1) (.lcons (.var 2) .lnil)), .var 4] [.cell (.slice [.str]), .cell (.int .i64)] (.call none (.fn 35) [.lcons (.var 0) (.lcons (.var 1) (.lcons (.var 2) .lnil)), .var 4] [.cell (.slice [.str]), .cell (.int .i64)] (.call (some (.ite (.ite (.o2 .eq (.var 18) (.var 21)) (.o2 .eq (.var 19) (.var 22)) (.bool false)) (.o2 .eq (.var 20) (.var 23)) (.bool false))) (.fn 36) [.var 24, .var 26] [.cell .bool] (.call (some (.ite (.ite (.ite (.ite (.o2 .eq (.var 18) (.var 21)) (.o2 .eq (.var 19) (.var 22)) (.bool false)) (.o2 .eq (.var 20) (.var 23)) (.bool false)) (.var 28) (.bool false)) (.o2 .eq (.var 25) (.var 27)) (.bool false))) (.fn 18) [] [.cell .bool] (.ret [.d (.ite (.ite (.ite (.ite (.ite (.o2 .eq (.var 18) (.var 21)) (.o2 .eq (.var 19) (.var 22)) (.bool false)) (.o2 .eq (.var 20) (.var 23)) (.bool false)) (.var 28) (.bool false)) (.o2 .eq (.var 25) (.var 27)) (.bool false)) (.var 29) (.bool false))])))))))))))))))
theorem t5_ok : fnO Tryz.prog mdA 5 [.agg [.int .i64, .int .i64, .slice [.str, .str, .slice [.int .i64, .int .i64, .int .i64, .int .i64, .int .i64], .slice [.int .i64, .int .i64, .int .i64, .int .i64, .int .i64, .int .i64], .bool, .bool, .int .i64, .str, .int .i64]], .cell .str, .cell (.int .i64)] = t5 := by kernel_rfl
theorem c5 : callable Tryz.prog 5 = true := by kernel_rfl
/-! ### data out of their kinds -/
theorem str_of {d : D} (h : HasK .str d) : ∃ s, d = .str s := by cases d <;> simp [HasK] at h; exact ⟨_, rfl⟩
theorem bool_of {d : D} (h : HasK .bool d) : ∃ s, d = .bool s := by cases d <;> simp [HasK] at h; exact ⟨_, rfl⟩
theorem slice_of {X : Type} {enc : X → List D} {ks : List K} {Ok : X → Prop} (h : ∀ ds, HasKs ks ds → ∃ x, Ok x ∧ ds = enc x) {d : D} (hd : HasK (.slice ks) d) : ∃ l : List X, (∀ x ∈ l, Ok x) ∧ d = .slice (l.map enc) := by
  cases d <;> simp only [HasK] at hd
  rename_i xs
  induction xs with
  | nil => exact ⟨[], by simp, rfl⟩
  | cons x xs ih =>
    obtain ⟨y, hy, rfl⟩ := h x (hd x (by simp))
    obtain ⟨l, h1, h2⟩ := ih fun z hz => hd z (by simp [hz])
    refine ⟨y :: l, ?_, ?_⟩
    · intro z hz
      rcases List.mem_cons.1 hz with rfl | hz
      · exact hy
      · exact h1 z hz
    · have : xs = l.map enc := by simpa using h2
      rw [List.map_cons, this]
theorem Mov.of {ds : List D} (h : HasKs mvKs ds) : ∃ m : Mov, m.Ok ∧ ds = m.enc := by
  match ds, h with
  | [a, b, c, d, e], ⟨h1, h2, h3, h4, h5, _⟩ =>
    obtain ⟨a, rfl, ha⟩ := i64_of h1
    obtain ⟨b, rfl, hb⟩ := i64_of h2
    obtain ⟨c, rfl, hc⟩ := i64_of h3
    obtain ⟨d, rfl, hd⟩ := i64_of h4
    obtain ⟨e, rfl, he⟩ := i64_of h5
    exact ⟨⟨⟨a, b⟩, ⟨c, d⟩, e⟩, ⟨⟨ha, hb⟩, ⟨hc, hd⟩, he⟩, rfl⟩
theorem Tim.of {ds : List D} (h : HasKs tmKs ds) : ∃ m : Tim, m.Ok ∧ ds = m.enc := by
  match ds, h with
  | [a, b, c, d, e, f], ⟨h1, h2, h3, h4, h5, h6, _⟩ =>
    obtain ⟨a, rfl, ha⟩ := i64_of h1
    obtain ⟨b, rfl, hb⟩ := i64_of h2
    obtain ⟨c, rfl, hc⟩ := i64_of h3
    obtain ⟨d, rfl, hd⟩ := i64_of h4
    obtain ⟨e, rfl, he⟩ := i64_of h5
    obtain ⟨f, rfl, hf⟩ := i64_of h6
    exact ⟨⟨a, b, c, d, e, f⟩, ⟨ha, hb, hc, hd, he, hf⟩, rfl⟩
theorem Cue.of {ds : List D} (h : HasKs cueKs ds) : ∃ m : Cue, m.Ok ∧ ds = m.enc := by
  match ds, h with
  | [a, b, c, d, e, f, g, i, j], ⟨h1, h2, h3, h4, h5, h6, h7, h8, h9, _⟩ =>
    obtain ⟨a, rfl⟩ := str_of h1
    obtain ⟨b, rfl⟩ := str_of h2
    obtain ⟨c, hc, rfl⟩ := slice_of (fun _ => Mov.of) h3
    obtain ⟨d, hd, rfl⟩ := slice_of (fun _ => Tim.of) h4
    obtain ⟨e, rfl⟩ := bool_of h5
    obtain ⟨f, rfl⟩ := bool_of h6
    obtain ⟨g, rfl, hg⟩ := i64_of h7
    obtain ⟨i, rfl⟩ := str_of h8
    obtain ⟨j, rfl, hj⟩ := i64_of h9
    exact ⟨⟨a, b, c, d, e, f, g, i, j⟩, ⟨hc, hd, hg, hj⟩, rfl⟩
theorem Lis.of {ds : List D} (h : HasKs liKs ds) : ∃ m : Lis, m.Ok ∧ ds = m.enc := by
  match ds, h with
  | [a, b, c], ⟨h1, h2, h3, _⟩ =>
    obtain ⟨a, rfl, ha⟩ := i64_of h1
    obtain ⟨b, rfl, hb⟩ := i64_of h2
    obtain ⟨c, hc, rfl⟩ := slice_of (fun _ => Cue.of) h3
    exact ⟨⟨a, b, c⟩, ⟨ha, hb, hc⟩, rfl⟩
theorem Lis.ofAgg {d : D} (h : HasK (.agg liKs) d) : ∃ l : Lis, l.Ok ∧ d = .agg l.enc := by
  cases d <;> simp only [HasK] at h
  obtain ⟨l, h1, rfl⟩ := Lis.of h
  exact ⟨l, h1, rfl⟩
theorem Cue.ofAgg {d : D} (h : HasK (.agg cueKs) d) : ∃ l : Cue, l.Ok ∧ d = .agg l.enc := by
  cases d <;> simp only [HasK] at h
  obtain ⟨l, h1, rfl⟩ := Cue.of h
  exact ⟨l, h1, rfl⟩
/-! ### CuelistFinds -/
theorem law5_typed : Contract Tryz.prog 5 fun args K => ∃ (l : Lis) (s : List UInt8) (p : Int), l.Ok ∧ I64 p ∧ args = [.agg l.enc, .str s, .int .i64 p] ∧ K [.d (.bool true)] := by
  refine .of c5 t5_ok ?_
  rintro _ K ⟨l, s, p, hl, hp, rfl, hK⟩ hsm
  refine ⟨l.enc ++ [.str s, .int .i64 p], rfl, by exact has_li hl (ks := [.str, .int .i64]) (ds := [.str s, .int .i64 p]) ⟨trivial, i64_has hp, trivial⟩, ?_⟩
  refine denR_call few17_ok ⟨l, hl, rfl, _, rfl, ?_⟩
  simp only [zz, RT.den, den, O1.eval, O2.eval, D.eqb, Ags.none, reduceCtorEq, forall_const, if_true, if_false, ite_true, ite_false, D.sub, D.cell, D.elem, D.cells, D.padd, D.list, D.push, Lis.enc]
  refine fun _ => ⟨fun h => denR_call awake_ok ⟨rfl, _, rfl, hK⟩, fun h => ?_⟩
  refine denR_call findR_ok ⟨l, s, hl, rfl, _, rfl, ?_⟩
  refine denR_call find17R_ok ⟨l, s, hl, rfl, _, rfl, ?_⟩
  simp only [zz, RT.den, den, O1.eval, O2.eval, D.eqb, Ags.none, reduceCtorEq, forall_const, if_true, if_false, ite_true, ite_false, D.sub, D.cell, D.elem, D.cells, D.padd, D.list, D.push, beq_self_eq_true, or_false, or_self, false_or]
  refine denR_call afterR_ok ⟨l, s, hl, rfl, _, rfl, ?_⟩
  refine denR_call after17R_ok ⟨l, s, hl, rfl, _, rfl, ?_⟩
  simp only [zz, RT.den, den, O1.eval, O2.eval, D.eqb, Ags.none, reduceCtorEq, forall_const, if_true, if_false, ite_true, ite_false, D.sub, D.cell, D.elem, D.cells, D.padd, D.list, D.push, beq_self_eq_true, or_false, or_self, false_or]
  refine denR_call beforeR_ok ⟨l, s, hl, rfl, _, rfl, ?_⟩
  refine denR_call before17R_ok ⟨l, s, hl, rfl, _, rfl, ?_⟩
  refine denR_call refers_ok ⟨l, p, hl, hp, rfl, _, rfl, ?_⟩
  refine denR_call refers17_ok ⟨l, p, hl, hp, rfl, ?_⟩
  have e : ∀ K : List D → Prop, K [.slice (txts (refersR l p).1), .int .i64 (refersR l p).2] → ∃ rs, RV.all [.cell (.slice [.str]), .cell (.int .i64)] (if checkL order05 l ≠ 0 then [.d (.slice []), .d (.int .i64 (checkL order05 l))] else [.own 1 (txts (refersL l.cues p)), .d (.int .i64 0)]) = some rs ∧ K rs := by
    intro K hK
    unfold refersR at hK
    split
    · rename_i h; rw [if_pos h] at hK; exact ⟨_, rfl, hK⟩
    · rename_i h; rw [if_neg h] at hK; exact ⟨_, rfl, hK⟩
  refine e _ ?_
  refine denR_gcall eqTxt_ok true [.bool true] ?_ (fun _ => ⟨(refersR l p).1, (refersR l p).1, rfl, by simp [RV.all, RV.cells]⟩) (fun h => by cases h) ?_
  · simp only [zz, RT.den, den, O1.eval, O2.eval, D.eqb, Ags.none, reduceCtorEq, forall_const, if_true, if_false, ite_true, ite_false, D.sub, D.cell, D.elem, D.cells, D.padd, D.list, D.push, beq_self_eq_true, or_false, or_self, false_or]
  refine denR_gcall awake_ok true [.bool true] ?_ (fun _ => ⟨rfl, rfl⟩) (fun h => by cases h) ?_
  · simp only [zz, RT.den, den, O1.eval, O2.eval, D.eqb, Ags.none, reduceCtorEq, forall_const, if_true, if_false, ite_true, ite_false, D.sub, D.cell, D.elem, D.cells, D.padd, D.list, D.push, beq_self_eq_true, or_false, or_self, false_or]
  simp only [zz, RT.den, den, O1.eval, O2.eval, D.eqb, Ags.none, reduceCtorEq, forall_const, if_true, if_false, ite_true, ite_false, D.sub, D.cell, D.elem, D.cells, D.padd, D.list, D.push, beq_self_eq_true, or_false, or_self, false_or]
  exact hK
theorem law5 : Contract Tryz.prog 5 (LawSpec Tryz.prog 5) :=
  law5_typed.weaken fun args K _ h => by
    obtain ⟨h1, h2, hK⟩ := lawArgs [.agg liKs, .cell .str, .cell (.int .i64)] (by kernel_rfl) h
    match args, h1 with
    | [a, b, c], _ =>
      obtain ⟨l, hl, rfl⟩ := Lis.ofAgg (h2 0 _ _ rfl rfl)
      obtain ⟨s, rfl⟩ := str_of (h2 1 _ _ rfl rfl)
      obtain ⟨p, rfl, hp⟩ := i64_of (h2 2 _ _ rfl rfl)
      exact ⟨l, s, p, hl, hp, rfl, hK⟩
end Go.Sx.La
