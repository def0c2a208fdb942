/-
  A law as a contract (and what it needs).
-/
import Derived.Test.YtieoaedbfdmocaaGreatDoorQWa
set_option linter.unusedSimpArgs false
set_option linter.unusedVariables false
set_option linter.unusedSectionVars false
set_option linter.defProp false
set_option maxRecDepth 100000
set_option maxRecDepth 100000
namespace Go.Sx.La
open Go Go.Sx Go.RowKit Go.Proofs
noncomputable def t69 : R := .ite (.ite (.ite (.ite (.ite (.ite (.ite (.o2 .ne (.var 0) (.var 9)) (.bool true) (.o2 .ne (.var 1) (.var 10))) (.bool true) (.o2 .ne (.var 4) (.var 13))) (.bool true) (.o2 .ne (.var 5) (.var 14))) (.bool true) (.o2 .ne (.var 6) (.var 15))) (.bool true) (.o2 .ne (.var 7) (.var 16))) (.bool true) (.o2 .ne (.var 8) (.var 17))) (.ret [.d (.bool false)]) (.call none (.fn 138) [.var 2, .var 11] [.cell .bool] (.fact (.ite (.o1 .not (.o1 .not (.var 18))) (.o2 .le (.o1 .len (.var 3)) (.int .i64 140737488355328)) (.bool true)) (.fact (.ite (.o1 .not (.o1 .not (.var 18))) (.o2 .le (.o1 .len (.var 12)) (.int .i64 140737488355328)) (.bool true)) (.ite (.ite (.o1 .not (.var 18)) (.bool true) (.o2 .ne (.o1 .len (.var 3)) (.o1 .len (.var 12)))) (.ret [.d (.bool false)]) (.loop 0 [.int .i64 0] [.int .i64] (.fact (.o2 .le (.o1 .len (.var 3)) (.int .i64 140737488355328)) (.ite (.o2 .lt (.var 19) (.o1 .len (.var 3))) (.need (.o2 .le (.int .i64 0) (.var 19)) (.need (.o2 .lt (.var 19) (.o1 .len (.var 12))) (.ite (.o1 .not (.o2 .band (.o2 .eq (.idx (.var 3) (.var 19) 0 (.int .i64)) (.idx (.var 12) (.var 19) 0 (.int .i64))) (.o2 .band (.o2 .eq (.idx (.var 3) (.var 19) 1 (.int .i64)) (.idx (.var 12) (.var 19) 1 (.int .i64))) (.o2 .band (.o2 .eq (.idx (.var 3) (.var 19) 2 (.int .i64)) (.idx (.var 12) (.var 19) 2 (.int .i64))) (.o2 .band (.o2 .eq (.idx (.var 3) (.var 19) 3 (.int .i64)) (.idx (.var 12) (.var 19) 3 (.int .i64))) (.o2 .band (.o2 .eq (.idx (.var 3) (.var 19) 4 (.int .i64)) (.idx (.var 12) (.var 19) 4 (.int .i64))) (.o2 .band (.o2 .eq (.idx (.var 3) (.var 19) 5 (.int .i64)) (.idx (.var 12) (.var 19) 5 (.int .i64))) (.bool true)))))))) (.ret [.d (.bool false)]) (.again 0 [.o2 (.add .i64) (.var 19) (.int .i64 1)])))) (.ret [.d (.bool true)]))))))))
theorem t69_ok : fnO Tryz.prog mdA 69 [.agg [.str, .str, .slice [.int .i64, .int .i64, .int .i64, .int .i64, .int .i64], .slice [.int .i64, .int .i64, .int .i64, .int .i64, .int .i64, .int .i64], .bool, .bool, .int .i64, .str, .int .i64], .agg [.str, .str, .slice [.int .i64, .int .i64, .int .i64, .int .i64, .int .i64], .slice [.int .i64, .int .i64, .int .i64, .int .i64, .int .i64, .int .i64], .bool, .bool, .int .i64, .str, .int .i64]] = t69 := by kernel_rfl
theorem c69 : callable Tryz.prog 69 = true := by kernel_rfl
noncomputable def t138 : R := .fact (.o2 .le (.o1 .len (.var 0)) (.int .i64 140737488355328)) (.fact (.o2 .le (.o1 .len (.var 1)) (.int .i64 140737488355328)) (.ite (.o2 .ne (.o1 .len (.var 0)) (.o1 .len (.var 1))) (.ret [.d (.bool false)]) (.loop 0 [.int .i64 0] [.int .i64] (.ite (.o2 .lt (.var 2) (.o1 .len (.var 0))) (.need (.o2 .le (.int .i64 0) (.var 2)) (.need (.o2 .lt (.var 2) (.o1 .len (.var 1))) (.ite (.o1 .not (.o2 .band (.o2 .band (.o2 .eq (.idx (.var 0) (.var 2) 0 (.int .i64)) (.idx (.var 1) (.var 2) 0 (.int .i64))) (.o2 .band (.o2 .eq (.idx (.var 0) (.var 2) 1 (.int .i64)) (.idx (.var 1) (.var 2) 1 (.int .i64))) (.bool true))) (.o2 .band (.o2 .band (.o2 .eq (.idx (.var 0) (.var 2) 2 (.int .i64)) (.idx (.var 1) (.var 2) 2 (.int .i64))) (.o2 .band (.o2 .eq (.idx (.var 0) (.var 2) 3 (.int .i64)) (.idx (.var 1) (.var 2) 3 (.int .i64))) (.bool true))) (.o2 .band (.o2 .eq (.idx (.var 0) (.var 2) 4 (.int .i64)) (.idx (.var 1) (.var 2) 4 (.int .i64))) (.bool true))))) (.ret [.d (.bool false)]) (.again 0 [.o2 (.add .i64) (.var 2) (.int .i64 1)])))) (.ret [.d (.bool true)])))))
theorem t138_ok : fnO Tryz.prog mdA 138 [.cell (.slice [.int .i64, .int .i64, .int .i64, .int .i64, .int .i64]), .cell (.slice [.int .i64, .int .i64, .int .i64, .int .i64, .int .i64])] = t138 := by kernel_rfl
theorem c138 : callable Tryz.prog 138 = true := by kernel_rfl
noncomputable def t21 : R := .fact (.ite (.o1 .not (.ite (.o2 .ne (.var 0) (.var 3)) (.bool true) (.o2 .ne (.var 1) (.var 4)))) (.o2 .le (.o1 .len (.var 2)) (.int .i64 140737488355328)) (.bool true)) (.fact (.ite (.o1 .not (.ite (.o2 .ne (.var 0) (.var 3)) (.bool true) (.o2 .ne (.var 1) (.var 4)))) (.o2 .le (.o1 .len (.var 5)) (.int .i64 140737488355328)) (.bool true)) (.ite (.ite (.ite (.o2 .ne (.var 0) (.var 3)) (.bool true) (.o2 .ne (.var 1) (.var 4))) (.bool true) (.o2 .ne (.o1 .len (.var 2)) (.o1 .len (.var 5)))) (.ret [.d (.bool false)]) (.loop 0 [.int .i64 0] [.int .i64] (.fact (.o2 .le (.o1 .len (.var 2)) (.int .i64 140737488355328)) (.ite (.o2 .lt (.var 6) (.o1 .len (.var 2))) (.need (.o2 .le (.int .i64 0) (.var 6)) (.need (.o2 .lt (.var 6) (.o1 .len (.var 5))) (.call none (.fn 69) [.lcons (.idx (.var 2) (.var 6) 0 .str) (.lcons (.idx (.var 2) (.var 6) 1 .str) (.lcons (.idx (.var 2) (.var 6) 2 (.slice [.int .i64, .int .i64, .int .i64, .int .i64, .int .i64])) (.lcons (.idx (.var 2) (.var 6) 3 (.slice [.int .i64, .int .i64, .int .i64, .int .i64, .int .i64, .int .i64])) (.lcons (.idx (.var 2) (.var 6) 4 .bool) (.lcons (.idx (.var 2) (.var 6) 5 .bool) (.lcons (.idx (.var 2) (.var 6) 6 (.int .i64)) (.lcons (.idx (.var 2) (.var 6) 7 .str) (.lcons (.idx (.var 2) (.var 6) 8 (.int .i64)) .lnil)))))))), .lcons (.idx (.var 5) (.var 6) 0 .str) (.lcons (.idx (.var 5) (.var 6) 1 .str) (.lcons (.idx (.var 5) (.var 6) 2 (.slice [.int .i64, .int .i64, .int .i64, .int .i64, .int .i64])) (.lcons (.idx (.var 5) (.var 6) 3 (.slice [.int .i64, .int .i64, .int .i64, .int .i64, .int .i64, .int .i64])) (.lcons (.idx (.var 5) (.var 6) 4 .bool) (.lcons (.idx (.var 5) (.var 6) 5 .bool) (.lcons (.idx (.var 5) (.var 6) 6 (.int .i64)) (.lcons (.idx (.var 5) (.var 6) 7 .str) (.lcons (.idx (.var 5) (.var 6) 8 (.int .i64)) .lnil))))))))] [.cell .bool] (.ite (.o1 .not (.var 7)) (.ret [.d (.bool false)]) (.again 0 [.o2 (.add .i64) (.var 6) (.int .i64 1)]))))) (.ret [.d (.bool true)]))))))
theorem t21_ok : fnO Tryz.prog mdA 21 [.agg [.int .i64, .int .i64, .slice [.str, .str, .slice [.int .i64, .int .i64, .int .i64, .int .i64, .int .i64], .slice [.int .i64, .int .i64, .int .i64, .int .i64, .int .i64, .int .i64], .bool, .bool, .int .i64, .str, .int .i64]], .agg [.int .i64, .int .i64, .slice [.str, .str, .slice [.int .i64, .int .i64, .int .i64, .int .i64, .int .i64], .slice [.int .i64, .int .i64, .int .i64, .int .i64, .int .i64, .int .i64], .bool, .bool, .int .i64, .str, .int .i64]]] = t21 := by kernel_rfl
theorem c21 : callable Tryz.prog 21 = true := by kernel_rfl
noncomputable def t3 : R := .call none (.fn 17) [.lcons (.var 0) (.lcons (.var 1) (.lcons (.var 2) .lnil))] [.cell .bool] (.fact (.ite (.o1 .not (.o1 .not (.var 5))) (.o2 .le (.o1 .len (.var 3)) (.int .i64 140737488355328)) (.bool true)) (.fact (.ite (.o1 .not (.ite (.o1 .not (.var 5)) (.bool true) (.o2 .gt (.o1 .len (.var 3)) (.int .i64 40)))) (.o2 .le (.o1 .len (.var 4)) (.int .i64 140737488355328)) (.bool true)) (.ite (.ite (.ite (.o1 .not (.var 5)) (.bool true) (.o2 .gt (.o1 .len (.var 3)) (.int .i64 40))) (.bool true) (.o2 .gt (.o1 .len (.var 4)) (.int .i64 40))) (.call none (.fn 18) [] [.cell .bool] (.ret [.d (.var 6)])) (.call none (.fn 19) [.lcons (.var 0) (.lcons (.var 1) (.lcons (.var 2) .lnil)), .var 3, .var 4] [.agg [.int .i64, .int .i64, .slice [.str, .str, .slice [.int .i64, .int .i64, .int .i64, .int .i64, .int .i64], .slice [.int .i64, .int .i64, .int .i64, .int .i64, .int .i64, .int .i64], .bool, .bool, .int .i64, .str, .int .i64]], .cell (.int .i64)] (.call none (.fn 20) [.lcons (.var 0) (.lcons (.var 1) (.lcons (.var 2) .lnil)), .var 3, .var 4] [.agg [.int .i64, .int .i64, .slice [.str, .str, .slice [.int .i64, .int .i64, .int .i64, .int .i64, .int .i64], .slice [.int .i64, .int .i64, .int .i64, .int .i64, .int .i64, .int .i64], .bool, .bool, .int .i64, .str, .int .i64]], .cell (.int .i64)] (.call none (.fn 21) [.lcons (.var 6) (.lcons (.var 7) (.lcons (.var 8) .lnil)), .lcons (.var 10) (.lcons (.var 11) (.lcons (.var 12) .lnil))] [.cell .bool] (.call (some (.ite (.var 14) (.o2 .eq (.var 9) (.var 13)) (.bool false))) (.fn 18) [] [.cell .bool] (.ret [.d (.ite (.ite (.var 14) (.o2 .eq (.var 9) (.var 13)) (.bool false)) (.var 15) (.bool false))]))))))))
theorem c3 : callable Tryz.prog 3 = true := by kernel_rfl
theorem sameMoves_ok : Contract Tryz.prog 138 fun args K => ∃ (a b : List Mov), (∀ m ∈ a, m.Ok) ∧ (∀ m ∈ b, m.Ok) ∧ args = [.slice (a.map Mov.enc), .slice (b.map Mov.enc)] ∧ K [.d (.bool (decide (a = b)))] := by
  refine .of c138 t138_ok ?_
  rintro _ K ⟨a, b, ha, hb, rfl, hK⟩ hsm
  refine ⟨[.slice (a.map Mov.enc), .slice (b.map Mov.enc)], rfl, ⟨slice_has fun m hm => Mov.has (ha m hm), slice_has fun m hm => Mov.has (hb m hm), trivial⟩, ?_⟩
  simp only [zz, RT.den, den, O1.eval, O2.eval, D.eqb, Ags.none, reduceCtorEq, forall_const, if_true, if_false, ite_true, ite_false, D.sub, D.cell, D.elem, D.cells, D.padd, D.list, D.push, t138, List.length_map]
  refine fun h1 h2 => ⟨fun h => ?_, fun h => ?_⟩
  · have : a ≠ b := by rintro rfl; simp at h
    simpa [this] using hK
  · have hl : a.length = b.length := by
      have h' : (a.length : Int) = b.length := by simpa using h
      omega
    refine loop_go a (fun i l' (_ : Unit) => decide (l' = b.drop i)) (fun i _ => [.int .i64 i]) () (decide (a = b)) (by simp) 0 (fun _ _ => rfl) rfl ?_ ?_
    · intro i hi _ hgo
      have hib : i < b.length := by omega
      rw [List.drop_eq_getElem_cons hib] at hgo
      simp only [List.cons.injEq] at hgo
      simp only [zz, RT.den, den, O1.eval, O2.eval, D.eqb, Ags.none, reduceCtorEq, forall_const, if_true, if_false, ite_true, ite_false, D.sub, D.cell, D.elem, D.cells, D.padd, D.list, D.push, List.length_map, hi, hib, getD_map hi, getD_map hib, Mov.enc]
      have key : (a[i] = b[i]) ↔ ((a[i]).pa.ch = (b[i]).pa.ch ∧ (a[i]).pa.at_ = (b[i]).pa.at_) ∧ ((a[i]).va.pal = (b[i]).va.pal ∧ (a[i]).va.lev = (b[i]).va.lev) ∧ (a[i]).part = (b[i]).part := by
        generalize a[i] = x
        generalize b[i] = y
        obtain ⟨⟨x1, x2⟩, ⟨x3, x4⟩, x5⟩ := x
        obtain ⟨⟨y1, y2⟩, ⟨y3, y4⟩, y5⟩ := y
        simp
      refine ⟨by omega, fun h => ?_, fun h => ⟨(), by rw [wr64_eq] <;> omega, ?_⟩⟩
      · have h' : ¬ a[i] = b[i] := by rw [key]; grind
        have : decide (a = b) = false := by rw [← hgo]; simp [h']
        rw [this] at hK; exact hK
      · have h' : a[i] = b[i] := by rw [key]; grind
        simpa [h'] using hgo
    · intro _ hgo
      simp only [zz, RT.den, den, O1.eval, O2.eval, D.eqb, Ags.none, reduceCtorEq, forall_const, if_true, if_false, ite_true, ite_false, D.sub, D.cell, D.elem, D.cells, D.padd, D.list, D.push, List.length_map]
      have : decide (a = b) = true := by rw [← hgo, hl, List.drop_length]; simp
      rw [this] at hK
      exact hK
def same16 (a b : Cue) : Bool := decide (a.num = b.num ∧ a.label = b.label ∧ a.block = b.block ∧ a.mark = b.mark ∧ a.follow = b.follow ∧ a.link = b.link ∧ a.loops = b.loops) && decide (a.moves = b.moves) && decide (a.parts = b.parts)
theorem same16_ok : Contract Tryz.prog 69 fun args K => ∃ (a b : Cue), a.Ok ∧ b.Ok ∧ args = [.agg a.enc, .agg b.enc] ∧ K [.d (.bool (same16 a b))] := by
  refine .of c69 t69_ok ?_
  rintro _ K ⟨a, b, ha, hb, rfl, hK⟩ hsm
  refine ⟨a.enc ++ b.enc, rfl, by exact (Cue.has ha).append (Cue.has hb), ?_⟩
  simp only [same16] at hK
  simp only [zz, RT.den, den, O1.eval, O2.eval, D.eqb, Ags.none, reduceCtorEq, forall_const, if_true, if_false, ite_true, ite_false, D.sub, D.cell, D.elem, D.cells, D.padd, D.list, D.push, t69, Cue.enc]
  by_cases h : a.num = b.num ∧ a.label = b.label ∧ a.block = b.block ∧ a.mark = b.mark ∧ a.follow = b.follow ∧ a.link = b.link ∧ a.loops = b.loops
  rotate_left
  · simp only [h, decide_false, Bool.false_and] at hK
    refine ⟨fun _ => hK, fun hh => absurd ?_ h⟩
    simpa [and_assoc] using hh
  obtain ⟨e1, e2, e3, e4, e5, e6, e7⟩ := h
  simp only [e1, e2, e3, e4, e5, e6, e7, and_self, decide_true, Bool.true_and] at hK ⊢
  refine ⟨fun h => by simp at h, fun _ => ?_⟩
  refine denR_call sameMoves_ok ⟨a.moves, b.moves, ha.moves, hb.moves, rfl, _, rfl, ?_⟩
  by_cases hm : a.moves = b.moves
  rotate_left
  · simp only [hm, decide_false, Bool.false_and] at hK
    simp only [zz, RT.den, den, O1.eval, O2.eval, D.eqb, Ags.none, reduceCtorEq, forall_const, if_true, if_false, ite_true, ite_false, D.sub, D.cell, D.elem, D.cells, D.padd, D.list, D.push, hm, decide_false]
    exact hK
  simp only [hm, decide_true, Bool.true_and] at hK
  simp only [zz, RT.den, den, O1.eval, O2.eval, D.eqb, Ags.none, reduceCtorEq, forall_const, if_true, if_false, ite_true, ite_false, D.sub, D.cell, D.elem, D.cells, D.padd, D.list, D.push, hm, decide_true, List.length_map]
  refine fun h1 h2 => ⟨fun h => ?_, fun h => ?_⟩
  · have : a.parts ≠ b.parts := by intro e; rw [e] at h; simp at h
    simpa [this] using hK
  · have hl : a.parts.length = b.parts.length := by
      have h' : (a.parts.length : Int) = b.parts.length := by simpa using h
      omega
    refine loop_go a.parts (fun i l' (_ : Unit) => decide (l' = b.parts.drop i)) (fun i _ => [.int .i64 i]) () (decide (a.parts = b.parts)) (by simp) 0 (fun _ _ => rfl) rfl ?_ ?_
    · intro i hi _ hgo
      have hib : i < b.parts.length := by omega
      rw [List.drop_eq_getElem_cons hib] at hgo
      simp only [List.cons.injEq] at hgo
      simp only [zz, RT.den, den, O1.eval, O2.eval, D.eqb, Ags.none, reduceCtorEq, forall_const, if_true, if_false, ite_true, ite_false, D.sub, D.cell, D.elem, D.cells, D.padd, D.list, D.push, List.length_map, hi, hib, getD_map hi, getD_map hib, Tim.enc]
      have key : (a.parts[i] = b.parts[i]) ↔ ((a.parts[i]).up = (b.parts[i]).up ∧ (a.parts[i]).down = (b.parts[i]).down ∧ (a.parts[i]).pos = (b.parts[i]).pos ∧ (a.parts[i]).col = (b.parts[i]).col ∧ (a.parts[i]).beam = (b.parts[i]).beam ∧ (a.parts[i]).delay = (b.parts[i]).delay) := by
        generalize a.parts[i] = x
        generalize b.parts[i] = y
        obtain ⟨x1, x2, x3, x4, x5, x6⟩ := x
        obtain ⟨y1, y2, y3, y4, y5, y6⟩ := y
        simp
      refine fun _ => ⟨by omega, fun h => ?_, fun h => ⟨(), by rw [wr64_eq] <;> omega, ?_⟩⟩
      · have h' : ¬ a.parts[i] = b.parts[i] := by rw [key]; grind
        have : decide (a.parts = b.parts) = false := by rw [← hgo]; simp [h']
        rw [this] at hK; exact hK
      · have h' : a.parts[i] = b.parts[i] := by rw [key]; grind
        simpa [h'] using hgo
    · intro _ hgo
      simp only [zz, RT.den, den, O1.eval, O2.eval, D.eqb, Ags.none, reduceCtorEq, forall_const, if_true, if_false, ite_true, ite_false, D.sub, D.cell, D.elem, D.cells, D.padd, D.list, D.push, List.length_map]
      have : decide (a.parts = b.parts) = true := by rw [← hgo, hl, List.drop_length]; simp
      rw [this] at hK
      exact fun _ => hK
theorem same16_iff (a b : Cue) : same16 a b = true ↔ a = b := by
  obtain ⟨a1, a2, a3, a4, a5, a6, a7, a8, a9⟩ := a
  obtain ⟨b1, b2, b3, b4, b5, b6, b7, b8, b9⟩ := b
  simp only [same16, Bool.and_eq_true, decide_eq_true_eq, Cue.mk.injEq]
  constructor
  · rintro ⟨⟨⟨h1, h2, h3, h4, h5, h6, h7⟩, h8⟩, h9⟩; exact ⟨h1, h2, h8, h9, h3, h4, h5, h6, h7⟩
  · rintro ⟨h1, h2, h8, h9, h3, h4, h5, h6, h7⟩; exact ⟨⟨⟨h1, h2, h3, h4, h5, h6, h7⟩, h8⟩, h9⟩
def sameGo : List Cue → List Cue → Bool
  | [], _ => true
  | a :: as_, b :: bs => if same16 a b then sameGo as_ bs else false
  | _ :: _, [] => true
def same17 (a b : Lis) : Bool := if a.num ≠ b.num ∨ a.prio ≠ b.prio ∨ a.cues.length ≠ b.cues.length then false else sameGo a.cues b.cues
theorem same17_ok : Contract Tryz.prog 21 fun args K => ∃ (a b : Lis), a.Ok ∧ b.Ok ∧ args = [.agg a.enc, .agg b.enc] ∧ K [.d (.bool (same17 a b))] := by
  refine .of c21 t21_ok ?_
  rintro _ K ⟨a, b, ha, hb, rfl, hK⟩ hsm
  refine ⟨a.enc ++ b.enc, rfl, by exact has_li ha (Lis.has hb), ?_⟩
  simp only [same17] at hK
  simp only [zz, RT.den, den, O1.eval, O2.eval, D.eqb, Ags.none, reduceCtorEq, forall_const, if_true, if_false, ite_true, ite_false, D.sub, D.cell, D.elem, D.cells, D.padd, D.list, D.push, t21, Lis.enc, List.length_map]
  refine fun _ _ => ⟨fun h => ?_, fun h => ?_⟩
  · rw [if_pos (by grind)] at hK; exact hK
  have h' : a.num = b.num ∧ a.prio = b.prio ∧ a.cues.length = b.cues.length := by grind
  rw [if_neg (by grind)] at hK
  have hl := h'.2.2
  refine loop_go a.cues (fun i l' (_ : Unit) => sameGo l' (b.cues.drop i)) (fun i _ => [.int .i64 i]) () (sameGo a.cues b.cues) rfl 0 (fun _ _ => rfl) rfl ?_ ?_
  · intro i hi _ hgo
    have hib : i < b.cues.length := by omega
    rw [List.drop_eq_getElem_cons hib] at hgo
    simp only [sameGo] at hgo
    simp only [zz, RT.den, den, O1.eval, O2.eval, D.eqb, Ags.none, reduceCtorEq, forall_const, if_true, if_false, ite_true, ite_false, D.sub, D.cell, D.elem, D.cells, D.padd, D.list, D.push, List.length_map, hi, hib]
    refine fun _ => ⟨by omega, denR_call same16_ok ⟨a.cues[i], b.cues[i], ha.cues _ (List.getElem_mem hi), hb.cues _ (List.getElem_mem hib), by simp only [zz, RT.den, den, O1.eval, O2.eval, D.eqb, Ags.none, reduceCtorEq, forall_const, if_true, if_false, ite_true, ite_false, D.sub, D.cell, D.elem, D.cells, D.padd, D.list, D.push, getD_map hi, getD_map hib, Cue.enc], _, rfl, ?_⟩⟩
    simp only [zz, RT.den, den, O1.eval, O2.eval, D.eqb, Ags.none, reduceCtorEq, forall_const, if_true, if_false, ite_true, ite_false, D.sub, D.cell, D.elem, D.cells, D.padd, D.list, D.push]
    cases hs : same16 a.cues[i] b.cues[i]
    · rw [hs] at hgo; rw [← hgo] at hK
      exact ⟨fun _ => hK, fun h => by simp at h⟩
    · rw [hs] at hgo
      exact ⟨fun h => by simp at h, fun _ => ⟨(), by rw [wr64_eq] <;> omega, hgo⟩⟩
  · intro _ hgo
    simp only [sameGo] at hgo
    simp only [zz, RT.den, den, O1.eval, O2.eval, D.eqb, Ags.none, reduceCtorEq, forall_const, if_true, if_false, ite_true, ite_false, D.sub, D.cell, D.elem, D.cells, D.padd, D.list, D.push, List.length_map]
    rw [← hgo] at hK
    exact fun _ => hK
theorem sameGo_self : ∀ cs : List Cue, sameGo cs cs = true
  | [] => rfl
  | c :: cs => by
    simp only [sameGo, (same16_iff c c).2 rfl, if_true]
    exact sameGo_self cs
theorem same17_self (l : Lis) : same17 l l = true := by simp [same17, sameGo_self]
end Go.Sx.La
