/-
  A law of layer 17 as a contract (and what it needs).
-/
import Derived.Test.YtieoaedbfdmocaaGreatDoorWb
set_option linter.unusedSimpArgs false
set_option linter.unusedVariables false
set_option linter.unusedSectionVars false
set_option linter.defProp false
set_option maxRecDepth 100000
set_option maxRecDepth 100000
namespace Go.Sx.La
open Go Go.Sx Go.RowKit Go.Proofs
noncomputable def t167 : R := .fact (.o2 .le (.o1 .len (.var 0)) (.int .i64 140737488355328)) (.fact (.o2 .le (.o1 .len (.var 1)) (.int .i64 140737488355328)) (.ite (.o2 .ne (.o1 .len (.var 0)) (.o1 .len (.var 1))) (.ret [.d (.bool false)]) (.loop 0 [.int .i64 0] [.int .i64] (.ite (.o2 .lt (.var 2) (.o1 .len (.var 0))) (.need (.o2 .le (.int .i64 0) (.var 2)) (.need (.o2 .lt (.var 2) (.o1 .len (.var 1))) (.ite (.o1 .not (.o2 .band (.o2 .band (.o2 .eq (.idx (.var 0) (.var 2) 0 (.int .i64)) (.idx (.var 1) (.var 2) 0 (.int .i64))) (.o2 .band (.o2 .eq (.idx (.var 0) (.var 2) 1 (.int .i64)) (.idx (.var 1) (.var 2) 1 (.int .i64))) (.bool true))) (.o2 .band (.o2 .band (.o2 .eq (.idx (.var 0) (.var 2) 2 (.int .i64)) (.idx (.var 1) (.var 2) 2 (.int .i64))) (.o2 .band (.o2 .eq (.idx (.var 0) (.var 2) 3 (.int .i64)) (.idx (.var 1) (.var 2) 3 (.int .i64))) (.bool true))) (.o2 .band (.o2 .eq (.idx (.var 0) (.var 2) 4 (.int .i64)) (.idx (.var 1) (.var 2) 4 (.int .i64))) (.bool true))))) (.ret [.d (.bool false)]) (.again 0 [.o2 (.add .i64) (.var 2) (.int .i64 1)])))) (.ret [.d (.bool true)])))))
theorem t167_ok : fnO Tryz.prog mdA 167 [.cell (.slice [.int .i64, .int .i64, .int .i64, .int .i64, .int .i64]), .cell (.slice [.int .i64, .int .i64, .int .i64, .int .i64, .int .i64])] = t167 := by kernel_rfl
theorem c167 : callable Tryz.prog 167 = true := by kernel_rfl
noncomputable def t168 : R := .fact (.o2 .le (.o1 .len (.var 0)) (.int .i64 140737488355328)) (.fact (.o2 .le (.o1 .len (.var 1)) (.int .i64 140737488355328)) (.ite (.o2 .ne (.o1 .len (.var 0)) (.o1 .len (.var 1))) (.ret [.d (.bool false)]) (.loop 0 [.int .i64 0] [.int .i64] (.ite (.o2 .lt (.var 2) (.o1 .len (.var 0))) (.need (.o2 .le (.int .i64 0) (.var 2)) (.need (.o2 .lt (.var 2) (.o1 .len (.var 1))) (.ite (.o1 .not (.o2 .band (.o2 .eq (.idx (.var 0) (.var 2) 0 (.int .i64)) (.idx (.var 1) (.var 2) 0 (.int .i64))) (.o2 .band (.o2 .eq (.idx (.var 0) (.var 2) 1 (.int .i64)) (.idx (.var 1) (.var 2) 1 (.int .i64))) (.o2 .band (.o2 .eq (.idx (.var 0) (.var 2) 2 (.int .i64)) (.idx (.var 1) (.var 2) 2 (.int .i64))) (.o2 .band (.o2 .eq (.idx (.var 0) (.var 2) 3 (.int .i64)) (.idx (.var 1) (.var 2) 3 (.int .i64))) (.o2 .band (.o2 .eq (.idx (.var 0) (.var 2) 4 (.int .i64)) (.idx (.var 1) (.var 2) 4 (.int .i64))) (.o2 .band (.o2 .eq (.idx (.var 0) (.var 2) 5 (.int .i64)) (.idx (.var 1) (.var 2) 5 (.int .i64))) (.bool true)))))))) (.ret [.d (.bool false)]) (.again 0 [.o2 (.add .i64) (.var 2) (.int .i64 1)])))) (.ret [.d (.bool true)])))))
theorem t168_ok : fnO Tryz.prog mdA 168 [.cell (.slice [.int .i64, .int .i64, .int .i64, .int .i64, .int .i64, .int .i64]), .cell (.slice [.int .i64, .int .i64, .int .i64, .int .i64, .int .i64, .int .i64])] = t168 := by kernel_rfl
theorem c168 : callable Tryz.prog 168 = true := by kernel_rfl
noncomputable def t111 : R := .call none (.fn 167) [.var 2, .var 11] [.cell .bool] (.call (some (.o1 .not (.o1 .not (.var 18)))) (.fn 168) [.var 3, .var 12] [.cell .bool] (.ite (.ite (.o1 .not (.var 18)) (.bool true) (.o1 .not (.var 19))) (.ret [.d (.bool false)]) (.ret [.d (.ite (.ite (.ite (.ite (.ite (.ite (.o2 .eq (.var 0) (.var 9)) (.o2 .eq (.var 1) (.var 10)) (.bool false)) (.o2 .eq (.var 4) (.var 13)) (.bool false)) (.o2 .eq (.var 5) (.var 14)) (.bool false)) (.o2 .eq (.var 6) (.var 15)) (.bool false)) (.o2 .eq (.var 7) (.var 16)) (.bool false)) (.o2 .eq (.var 8) (.var 17)) (.bool false))])))
theorem t111_ok : fnO Tryz.prog mdA 111 [.agg [.str, .str, .slice [.int .i64, .int .i64, .int .i64, .int .i64, .int .i64], .slice [.int .i64, .int .i64, .int .i64, .int .i64, .int .i64, .int .i64], .bool, .bool, .int .i64, .str, .int .i64], .agg [.str, .str, .slice [.int .i64, .int .i64, .int .i64, .int .i64, .int .i64], .slice [.int .i64, .int .i64, .int .i64, .int .i64, .int .i64, .int .i64], .bool, .bool, .int .i64, .str, .int .i64]] = t111 := by kernel_rfl
theorem c111 : callable Tryz.prog 111 = true := by kernel_rfl
noncomputable def t110 : R := .fact (.o2 .le (.o1 .len (.var 0)) (.int .i64 140737488355328)) (.fact (.o2 .le (.o1 .len (.var 1)) (.int .i64 140737488355328)) (.ite (.o2 .ne (.o1 .len (.var 0)) (.o1 .len (.var 1))) (.ret [.d (.bool false)]) (.loop 0 [.int .i64 0] [.int .i64] (.ite (.o2 .lt (.var 3) (.o1 .len (.var 0))) (.need (.o2 .le (.int .i64 0) (.var 3)) (.need (.o2 .lt (.var 3) (.o1 .len (.var 1))) (.call none (.val (.var 2)) [.lcons (.idx (.var 0) (.var 3) 0 .str) (.lcons (.idx (.var 0) (.var 3) 1 .str) (.lcons (.idx (.var 0) (.var 3) 2 (.slice [.int .i64, .int .i64, .int .i64, .int .i64, .int .i64])) (.lcons (.idx (.var 0) (.var 3) 3 (.slice [.int .i64, .int .i64, .int .i64, .int .i64, .int .i64, .int .i64])) (.lcons (.idx (.var 0) (.var 3) 4 .bool) (.lcons (.idx (.var 0) (.var 3) 5 .bool) (.lcons (.idx (.var 0) (.var 3) 6 (.int .i64)) (.lcons (.idx (.var 0) (.var 3) 7 .str) (.lcons (.idx (.var 0) (.var 3) 8 (.int .i64)) .lnil)))))))), .lcons (.idx (.var 1) (.var 3) 0 .str) (.lcons (.idx (.var 1) (.var 3) 1 .str) (.lcons (.idx (.var 1) (.var 3) 2 (.slice [.int .i64, .int .i64, .int .i64, .int .i64, .int .i64])) (.lcons (.idx (.var 1) (.var 3) 3 (.slice [.int .i64, .int .i64, .int .i64, .int .i64, .int .i64, .int .i64])) (.lcons (.idx (.var 1) (.var 3) 4 .bool) (.lcons (.idx (.var 1) (.var 3) 5 .bool) (.lcons (.idx (.var 1) (.var 3) 6 (.int .i64)) (.lcons (.idx (.var 1) (.var 3) 7 .str) (.lcons (.idx (.var 1) (.var 3) 8 (.int .i64)) .lnil))))))))] [.cell .bool] (.ite (.o1 .not (.var 4)) (.ret [.d (.bool false)]) (.again 0 [.o2 (.add .i64) (.var 3) (.int .i64 1)]))))) (.ret [.d (.bool true)])))))
theorem t110_ok : fnO Tryz.prog mdA 110 [.cell (.slice [.str, .str, .slice [.int .i64, .int .i64, .int .i64, .int .i64, .int .i64], .slice [.int .i64, .int .i64, .int .i64, .int .i64, .int .i64, .int .i64], .bool, .bool, .int .i64, .str, .int .i64]), .cell (.slice [.str, .str, .slice [.int .i64, .int .i64, .int .i64, .int .i64, .int .i64], .slice [.int .i64, .int .i64, .int .i64, .int .i64, .int .i64, .int .i64], .bool, .bool, .int .i64, .str, .int .i64]), .cell .fn] = t110 := by kernel_rfl
theorem c110 : callable Tryz.prog 110 = true := by kernel_rfl
noncomputable def t43 : R := .call (some (.ite (.o2 .eq (.var 0) (.var 3)) (.o2 .eq (.var 1) (.var 4)) (.bool false))) (.fn 110) [.var 2, .var 5, .fn 111] [.cell .bool] (.ret [.d (.ite (.ite (.o2 .eq (.var 0) (.var 3)) (.o2 .eq (.var 1) (.var 4)) (.bool false)) (.var 6) (.bool false))])
theorem t43_ok : fnO Tryz.prog mdA 43 [.agg [.int .i64, .int .i64, .slice [.str, .str, .slice [.int .i64, .int .i64, .int .i64, .int .i64, .int .i64], .slice [.int .i64, .int .i64, .int .i64, .int .i64, .int .i64, .int .i64], .bool, .bool, .int .i64, .str, .int .i64]], .agg [.int .i64, .int .i64, .slice [.str, .str, .slice [.int .i64, .int .i64, .int .i64, .int .i64, .int .i64], .slice [.int .i64, .int .i64, .int .i64, .int .i64, .int .i64, .int .i64], .bool, .bool, .int .i64, .str, .int .i64]]] = t43 := by kernel_rfl
theorem c43 : callable Tryz.prog 43 = true := by kernel_rfl
noncomputable def t7 : R := .call none (.fn 17) [.lcons (.var 0) (.lcons (.var 1) (.lcons (.var 2) .lnil))] [.cell .bool] (.call (some (.o1 .not (.o1 .not (.var 6)))) (.fn 17) [.lcons (.var 3) (.lcons (.var 4) (.lcons (.var 5) .lnil))] [.cell .bool] (.ite (.ite (.o1 .not (.var 6)) (.bool true) (.o1 .not (.var 7))) (.call none (.fn 18) [] [.cell .bool] (.ret [.d (.var 8)])) (.call none (.fn 37) [.lcons (.var 0) (.lcons (.var 1) (.lcons (.var 2) .lnil))] [.cell .str, .cell .bool, .cell (.int .i64)] (.call none (.fn 41) [.lcons (.var 0) (.lcons (.var 1) (.lcons (.var 2) .lnil))] [.cell .str, .cell .bool, .cell (.int .i64)] (.call none (.fn 25) [.lcons (.var 0) (.lcons (.var 1) (.lcons (.var 2) .lnil))] [.cell (.int .i64)] (.call none (.fn 42) [.lcons (.var 0) (.lcons (.var 1) (.lcons (.var 2) .lnil))] [.cell (.int .i64)] (.call (some (.o1 .not (.ite (.ite (.ite (.o2 .ne (.var 14) (.var 15)) (.bool true) (.o2 .ne (.var 8) (.var 11))) (.bool true) (.o2 .ne (.var 9) (.var 12))) (.bool true) (.o2 .ne (.var 10) (.var 13))))) (.fn 43) [.lcons (.var 0) (.lcons (.var 1) (.lcons (.var 2) .lnil)), .lcons (.var 3) (.lcons (.var 4) (.lcons (.var 5) .lnil))] [.cell .bool] (.call (some (.o1 .not (.ite (.ite (.ite (.o2 .ne (.var 14) (.var 15)) (.bool true) (.o2 .ne (.var 8) (.var 11))) (.bool true) (.o2 .ne (.var 9) (.var 12))) (.bool true) (.o2 .ne (.var 10) (.var 13))))) (.fn 21) [.lcons (.var 0) (.lcons (.var 1) (.lcons (.var 2) .lnil)), .lcons (.var 3) (.lcons (.var 4) (.lcons (.var 5) .lnil))] [.cell .bool] (.call (some (.o1 .not (.ite (.ite (.ite (.ite (.o2 .ne (.var 14) (.var 15)) (.bool true) (.o2 .ne (.var 8) (.var 11))) (.bool true) (.o2 .ne (.var 9) (.var 12))) (.bool true) (.o2 .ne (.var 10) (.var 13))) (.bool true) (.o2 .ne (.var 16) (.var 17))))) (.fn 43) [.lcons (.var 0) (.lcons (.var 1) (.lcons (.var 2) .lnil)), .lcons (.var 0) (.lcons (.var 1) (.lcons (.var 2) .lnil))] [.cell .bool] (.ite (.ite (.ite (.ite (.ite (.ite (.o2 .ne (.var 14) (.var 15)) (.bool true) (.o2 .ne (.var 8) (.var 11))) (.bool true) (.o2 .ne (.var 9) (.var 12))) (.bool true) (.o2 .ne (.var 10) (.var 13))) (.bool true) (.o2 .ne (.var 16) (.var 17))) (.bool true) (.o1 .not (.var 18))) (.ret [.d (.bool false)]) (.call none (.fn 38) [.lcons (.var 0) (.lcons (.var 1) (.lcons (.var 2) .lnil))] [.cell .str, .cell .bool, .cell (.int .i64)] (.call none (.fn 44) [.lcons (.var 0) (.lcons (.var 1) (.lcons (.var 2) .lnil))] [.cell .str, .cell .bool, .cell (.int .i64)] (.call none (.fn 24) [.lcons (.var 0) (.lcons (.var 1) (.lcons (.var 2) .lnil))] [.cell (.slice [.str]), .cell (.int .i64)] (.call none (.fn 45) [.lcons (.var 0) (.lcons (.var 1) (.lcons (.var 2) .lnil))] [.cell (.slice [.str]), .cell (.int .i64)] (.call (some (.ite (.ite (.o2 .eq (.var 19) (.var 22)) (.o2 .eq (.var 20) (.var 23)) (.bool false)) (.o2 .eq (.var 21) (.var 24)) (.bool false))) (.fn 36) [.var 25, .var 27] [.cell .bool] (.call (some (.ite (.ite (.ite (.ite (.o2 .eq (.var 19) (.var 22)) (.o2 .eq (.var 20) (.var 23)) (.bool false)) (.o2 .eq (.var 21) (.var 24)) (.bool false)) (.var 29) (.bool false)) (.o2 .eq (.var 26) (.var 28)) (.bool false))) (.fn 18) [] [.cell .bool] (.ret [.d (.ite (.ite (.ite (.ite (.ite (.o2 .eq (.var 19) (.var 22)) (.o2 .eq (.var 20) (.var 23)) (.bool false)) (.o2 .eq (.var 21) (.var 24)) (.bool false)) (.var 29) (.bool false)) (.o2 .eq (.var 26) (.var 28)) (.bool false)) (.var 30) (.bool false))])))))))))))))))))
theorem t7_ok : fnO Tryz.prog mdA 7 [.agg [.int .i64, .int .i64, .slice [.str, .str, .slice [.int .i64, .int .i64, .int .i64, .int .i64, .int .i64], .slice [.int .i64, .int .i64, .int .i64, .int .i64, .int .i64, .int .i64], .bool, .bool, .int .i64, .str, .int .i64]], .agg [.int .i64, .int .i64, .slice [.str, .str, .slice [.int .i64, .int .i64, .int .i64, .int .i64, .int .i64], .slice [.int .i64, .int .i64, .int .i64, .int .i64, .int .i64, .int .i64], .bool, .bool, .int .i64, .str, .int .i64]]] = t7 := by kernel_rfl
theorem c7 : callable Tryz.prog 7 = true := by kernel_rfl
/-! ### the program's equal cues and lists -/
theorem eqMoves_ok : Contract Tryz.prog 167 fun args K => ∃ (a b : List Mov), (∀ m ∈ a, m.Ok) ∧ (∀ m ∈ b, m.Ok) ∧ args = [.slice (a.map Mov.enc), .slice (b.map Mov.enc)] ∧ K [.d (.bool (decide (a = b)))] := by
  refine .of c167 t167_ok ?_
  rintro _ K ⟨a, b, ha, hb, rfl, hK⟩ hsm
  refine ⟨[.slice (a.map Mov.enc), .slice (b.map Mov.enc)], rfl, ⟨slice_has fun m hm => Mov.has (ha m hm), slice_has fun m hm => Mov.has (hb m hm), trivial⟩, ?_⟩
  simp only [zz, RT.den, den, O1.eval, O2.eval, D.eqb, Ags.none, reduceCtorEq, forall_const, if_true, if_false, ite_true, ite_false, D.sub, D.cell, D.elem, D.cells, D.padd, D.list, D.push, t167, List.length_map]
  refine fun h1 h2 => ⟨fun h => ?_, fun h => ?_⟩
  · have : a ≠ b := by rintro rfl; simp at h
    simpa [this] using hK
  · have hl : a.length = b.length := by
      have h' : (a.length : Int) = b.length := by simpa using h
      omega
    refine loop_go a (fun i l' (_ : Unit) => decide (l' = b.drop i)) (fun i _ => [.int .i64 i]) () (decide (a = b)) (by simp) 0 (fun _ _ => rfl) rfl ?_ ?_
    · intro i hi _ hgo
      have hib : i < b.length := by omega
      rw [List.drop_eq_getElem_cons hib] at hgo
      simp only [List.cons.injEq] at hgo
      simp only [zz, RT.den, den, O1.eval, O2.eval, D.eqb, Ags.none, reduceCtorEq, forall_const, if_true, if_false, ite_true, ite_false, D.sub, D.cell, D.elem, D.cells, D.padd, D.list, D.push, List.length_map, hi, hib, getD_map hi, getD_map hib, Mov.enc]
      have key : (a[i] = b[i]) ↔ ((a[i]).pa.ch = (b[i]).pa.ch ∧ (a[i]).pa.at_ = (b[i]).pa.at_) ∧ ((a[i]).va.pal = (b[i]).va.pal ∧ (a[i]).va.lev = (b[i]).va.lev) ∧ (a[i]).part = (b[i]).part := by
        generalize a[i] = x
        generalize b[i] = y
        obtain ⟨⟨x1, x2⟩, ⟨x3, x4⟩, x5⟩ := x
        obtain ⟨⟨y1, y2⟩, ⟨y3, y4⟩, y5⟩ := y
        simp
      refine ⟨by omega, fun h => ?_, fun h => ⟨(), by rw [wr64_eq] <;> omega, ?_⟩⟩
      · have h' : ¬ a[i] = b[i] := by rw [key]; grind
        have : decide (a = b) = false := by rw [← hgo]; simp [h']
        rw [this] at hK; exact hK
      · have h' : a[i] = b[i] := by rw [key]; grind
        simpa [h'] using hgo
    · intro _ hgo
      simp only [zz, RT.den, den, O1.eval, O2.eval, D.eqb, Ags.none, reduceCtorEq, forall_const, if_true, if_false, ite_true, ite_false, D.sub, D.cell, D.elem, D.cells, D.padd, D.list, D.push, List.length_map]
      have : decide (a = b) = true := by rw [← hgo, hl, List.drop_length]; simp
      rw [this] at hK
      exact hK
theorem eqParts_ok : Contract Tryz.prog 168 fun args K => ∃ (a b : List Tim), (∀ m ∈ a, m.Ok) ∧ (∀ m ∈ b, m.Ok) ∧ args = [.slice (a.map Tim.enc), .slice (b.map Tim.enc)] ∧ K [.d (.bool (decide (a = b)))] := by
  refine .of c168 t168_ok ?_
  rintro _ K ⟨a, b, ha, hb, rfl, hK⟩ hsm
  refine ⟨[.slice (a.map Tim.enc), .slice (b.map Tim.enc)], rfl, ⟨slice_has fun m hm => Tim.has (ha m hm), slice_has fun m hm => Tim.has (hb m hm), trivial⟩, ?_⟩
  simp only [zz, RT.den, den, O1.eval, O2.eval, D.eqb, Ags.none, reduceCtorEq, forall_const, if_true, if_false, ite_true, ite_false, D.sub, D.cell, D.elem, D.cells, D.padd, D.list, D.push, t168, List.length_map]
  refine fun h1 h2 => ⟨fun h => ?_, fun h => ?_⟩
  · have : a ≠ b := by rintro rfl; simp at h
    simpa [this] using hK
  · have hl : a.length = b.length := by
      have h' : (a.length : Int) = b.length := by simpa using h
      omega
    refine loop_go a (fun i l' (_ : Unit) => decide (l' = b.drop i)) (fun i _ => [.int .i64 i]) () (decide (a = b)) (by simp) 0 (fun _ _ => rfl) rfl ?_ ?_
    · intro i hi _ hgo
      have hib : i < b.length := by omega
      rw [List.drop_eq_getElem_cons hib] at hgo
      simp only [List.cons.injEq] at hgo
      simp only [zz, RT.den, den, O1.eval, O2.eval, D.eqb, Ags.none, reduceCtorEq, forall_const, if_true, if_false, ite_true, ite_false, D.sub, D.cell, D.elem, D.cells, D.padd, D.list, D.push, List.length_map, hi, hib, getD_map hi, getD_map hib, Tim.enc]
      have key : (a[i] = b[i]) ↔ ((a[i]).up = (b[i]).up ∧ (a[i]).down = (b[i]).down ∧ (a[i]).pos = (b[i]).pos ∧ (a[i]).col = (b[i]).col ∧ (a[i]).beam = (b[i]).beam ∧ (a[i]).delay = (b[i]).delay) := by
        generalize a[i] = x
        generalize b[i] = y
        obtain ⟨x1, x2, x3, x4, x5, x6⟩ := x
        obtain ⟨y1, y2, y3, y4, y5, y6⟩ := y
        simp
      refine ⟨by omega, fun h => ?_, fun h => ⟨(), by rw [wr64_eq] <;> omega, ?_⟩⟩
      · have h' : ¬ a[i] = b[i] := by rw [key]; grind
        have : decide (a = b) = false := by rw [← hgo]; simp [h']
        rw [this] at hK; exact hK
      · have h' : a[i] = b[i] := by rw [key]; grind
        simpa [h'] using hgo
    · intro _ hgo
      simp only [zz, RT.den, den, O1.eval, O2.eval, D.eqb, Ags.none, reduceCtorEq, forall_const, if_true, if_false, ite_true, ite_false, D.sub, D.cell, D.elem, D.cells, D.padd, D.list, D.push, List.length_map]
      have : decide (a = b) = true := by rw [← hgo, hl, List.drop_length]; simp
      rw [this] at hK
      exact hK
theorem csame_ok : Contract Tryz.prog 111 fun args K => ∃ (a b : Cue), a.Ok ∧ b.Ok ∧ args = [.agg a.enc, .agg b.enc] ∧ K [.d (.bool (same16 a b))] := by
  refine .of c111 t111_ok ?_
  rintro _ K ⟨a, b, ha, hb, rfl, hK⟩ hsm
  refine ⟨a.enc ++ b.enc, rfl, by exact (Cue.has ha).append (Cue.has hb), ?_⟩
  simp only [same16] at hK
  refine denR_call eqMoves_ok ⟨a.moves, b.moves, ha.moves, hb.moves, rfl, _, rfl, ?_⟩
  by_cases hm : a.moves = b.moves
  rotate_left
  · refine denR_gcall eqParts_ok false [.bool false] ?_ (fun h => by cases h) (fun _ => rfl) ?_
    · simp only [zz, RT.den, den, O1.eval, O2.eval, D.eqb, Ags.none, reduceCtorEq, forall_const, if_true, if_false, ite_true, ite_false, D.sub, D.cell, D.elem, D.cells, D.padd, D.list, D.push, Cue.enc, hm, decide_false]
    · simp only [hm, decide_false, Bool.and_false, Bool.false_and] at hK
      simp only [zz, RT.den, den, O1.eval, O2.eval, D.eqb, Ags.none, reduceCtorEq, forall_const, if_true, if_false, ite_true, ite_false, D.sub, D.cell, D.elem, D.cells, D.padd, D.list, D.push, Cue.enc, hm, decide_false, true_or, forall_const, not_true_eq_false, false_implies, and_true]
      exact hK
  by_cases hp : a.parts = b.parts
  rotate_left
  · refine denR_gcall eqParts_ok true [.bool false] ?_ (fun _ => ⟨a.parts, b.parts, ha.parts, hb.parts, rfl, by simp [hp]; rfl⟩) (fun h => by cases h) ?_
    · simp only [zz, RT.den, den, O1.eval, O2.eval, D.eqb, Ags.none, reduceCtorEq, forall_const, if_true, if_false, ite_true, ite_false, D.sub, D.cell, D.elem, D.cells, D.padd, D.list, D.push, Cue.enc, hm, decide_true]
    · simp only [hp, decide_false, Bool.and_false] at hK
      simp only [zz, RT.den, den, O1.eval, O2.eval, D.eqb, Ags.none, reduceCtorEq, forall_const, if_true, if_false, ite_true, ite_false, D.sub, D.cell, D.elem, D.cells, D.padd, D.list, D.push, Cue.enc, hm, decide_true, or_true, forall_const, not_true_eq_false, false_implies, and_true]
      exact hK
  refine denR_gcall eqParts_ok true [.bool true] ?_ (fun _ => ⟨a.parts, b.parts, ha.parts, hb.parts, rfl, by simp [hp]; rfl⟩) (fun h => by cases h) ?_
  · simp only [zz, RT.den, den, O1.eval, O2.eval, D.eqb, Ags.none, reduceCtorEq, forall_const, if_true, if_false, ite_true, ite_false, D.sub, D.cell, D.elem, D.cells, D.padd, D.list, D.push, Cue.enc, hm, decide_true]
  simp only [hm, hp, decide_true, Bool.and_true] at hK
  simp only [zz, RT.den, den, O1.eval, O2.eval, D.eqb, Ags.none, reduceCtorEq, forall_const, if_true, if_false, ite_true, ite_false, D.sub, D.cell, D.elem, D.cells, D.padd, D.list, D.push, Cue.enc, hm, decide_true, or_self, forall_const, not_true_eq_false, not_false_eq_true, false_implies, true_and]
  have e : decide (a.num = b.num ∧ a.label = b.label ∧ a.block = b.block ∧ a.mark = b.mark ∧ a.follow = b.follow ∧ a.link = b.link ∧ a.loops = b.loops) = (decide ((((((a.num == b.num) = true ∧ (a.label == b.label) = true) ∧ (a.block == b.block) = true) ∧ (a.mark == b.mark) = true) ∧ a.follow = b.follow) ∧ (a.link == b.link) = true) && decide (a.loops = b.loops)) := by
    rw [Bool.eq_iff_iff]
    simp [and_assoc]
  rw [e] at hK
  exact hK
theorem allSame_ok : Contract Tryz.prog 110 fun args K => ∃ (a b : List Cue), (∀ m ∈ a, m.Ok) ∧ (∀ m ∈ b, m.Ok) ∧ args = [.slice (a.map Cue.enc), .slice (b.map Cue.enc), .clo 111 []] ∧ K [.d (.bool (decide (a.length = b.length) && sameGo a b))] := by
  refine .of c110 t110_ok ?_
  rintro _ K ⟨a, b, ha, hb, rfl, hK⟩ hsm
  refine ⟨[.slice (a.map Cue.enc), .slice (b.map Cue.enc), .clo 111 []], rfl, ⟨cues_has ha, cues_has hb, trivial, trivial⟩, ?_⟩
  simp only [zz, RT.den, den, O1.eval, O2.eval, D.eqb, Ags.none, reduceCtorEq, forall_const, if_true, if_false, ite_true, ite_false, D.sub, D.cell, D.elem, D.cells, D.padd, D.list, D.push, t110, List.length_map]
  refine fun h1 h2 => ⟨fun h => ?_, fun h => ?_⟩
  · have : a.length ≠ b.length := by intro e; rw [e] at h; simp at h
    simpa [this] using hK
  · have hl : a.length = b.length := by
      have h' : (a.length : Int) = b.length := by simpa using h
      omega
    simp only [hl, decide_true, Bool.true_and] at hK
    refine loop_go a (fun i l' (_ : Unit) => sameGo l' (b.drop i)) (fun i _ => [.int .i64 i]) () (sameGo a b) rfl 0 (fun _ _ => rfl) rfl ?_ ?_
    · intro i hi _ hgo
      have hib : i < b.length := by omega
      rw [List.drop_eq_getElem_cons hib] at hgo
      simp only [sameGo] at hgo
      simp only [zz, RT.den, den, O1.eval, O2.eval, D.eqb, Ags.none, reduceCtorEq, forall_const, if_true, if_false, ite_true, ite_false, D.sub, D.cell, D.elem, D.cells, D.padd, D.list, D.push, List.length_map, hi, hib]
      have hx := ha _ (List.getElem_mem hi)
      have hy := hb _ (List.getElem_mem hib)
      have hf : FvC Tryz.prog (.clo 111 []) fun as_ K => as_ = [.agg (a[i]).enc, .agg (b[i]).enc] ∧ K [.d (.bool (same16 a[i] b[i]))] := by
        refine FvC.of c111 csame_ok ?_
        rintro _ K ⟨rfl, hK⟩
        refine ⟨⟨a[i], b[i], hx, hy, rfl, hK⟩, argsTyped_of [some (.agg cueKs), some (.agg cueKs)] (by kernel_rfl) ?_⟩
        intro i rk d h1 h2
        match i, h1, h2 with
        | 0, h1, h2 => simp at h1 h2; subst h1 h2; exact Cue.has hx
        | 1, h1, h2 => simp at h1 h2; subst h1 h2; exact Cue.has hy
      refine ⟨by omega, denR_fcall hf ⟨by simp only [zz, RT.den, den, O1.eval, O2.eval, D.eqb, Ags.none, reduceCtorEq, forall_const, if_true, if_false, ite_true, ite_false, D.sub, D.cell, D.elem, D.cells, D.padd, D.list, D.push, getD_map hi, getD_map hib, Cue.enc], _, rfl, by simp [RK.all, RK.kinds, HasKs, HasK], ?_⟩⟩
      simp only [zz, RT.den, den, O1.eval, O2.eval, D.eqb, Ags.none, reduceCtorEq, forall_const, if_true, if_false, ite_true, ite_false, D.sub, D.cell, D.elem, D.cells, D.padd, D.list, D.push]
      cases hs : same16 a[i] b[i]
      · rw [hs] at hgo; rw [← hgo] at hK
        exact ⟨fun _ => hK, fun h => by simp at h⟩
      · rw [hs] at hgo
        exact ⟨fun h => by simp at h, fun _ => ⟨(), by rw [wr64_eq] <;> omega, hgo⟩⟩
    · intro _ hgo
      simp only [sameGo] at hgo
      simp only [zz, RT.den, den, O1.eval, O2.eval, D.eqb, Ags.none, reduceCtorEq, forall_const, if_true, if_false, ite_true, ite_false, D.sub, D.cell, D.elem, D.cells, D.padd, D.list, D.push, List.length_map]
      rw [← hgo] at hK
      exact hK
theorem clSame_ok : Contract Tryz.prog 43 fun args K => ∃ (a b : Lis), a.Ok ∧ b.Ok ∧ args = [.agg a.enc, .agg b.enc] ∧ K [.d (.bool (same17 a b))] := by
  refine .of c43 t43_ok ?_
  rintro _ K ⟨a, b, ha, hb, rfl, hK⟩ hsm
  refine ⟨a.enc ++ b.enc, rfl, by exact has_li ha (Lis.has hb), ?_⟩
  simp only [same17] at hK
  by_cases h : a.num = b.num ∧ a.prio = b.prio
  · refine denR_gcall allSame_ok true [.bool (decide (a.cues.length = b.cues.length) && sameGo a.cues b.cues)] ?_ (fun _ => ⟨a.cues, b.cues, ha.cues, hb.cues, rfl, rfl⟩) (fun h => by cases h) ?_
    · simp only [zz, RT.den, den, O1.eval, O2.eval, D.eqb, Ags.none, reduceCtorEq, forall_const, if_true, if_false, ite_true, ite_false, D.sub, D.cell, D.elem, D.cells, D.padd, D.list, D.push, Lis.enc, h.1, h.2]
    · simp only [zz, RT.den, den, O1.eval, O2.eval, D.eqb, Ags.none, reduceCtorEq, forall_const, if_true, if_false, ite_true, ite_false, D.sub, D.cell, D.elem, D.cells, D.padd, D.list, D.push, Lis.enc, h.1, h.2]
      by_cases hl : a.cues.length = b.cues.length
      · rw [if_neg (by simp [h.1, h.2, hl])] at hK
        simpa [hl] using hK
      · rw [if_pos (by simp [hl])] at hK
        simpa [hl] using hK
  · refine denR_gcall allSame_ok false [.bool false] ?_ (fun h => by cases h) (fun _ => rfl) ?_
    · simp only [zz, RT.den, den, O1.eval, O2.eval, D.eqb, Ags.none, reduceCtorEq, forall_const, if_true, if_false, ite_true, ite_false, D.sub, D.cell, D.elem, D.cells, D.padd, D.list, D.push, Lis.enc]
      grind
    · simp only [zz, RT.den, den, O1.eval, O2.eval, D.eqb, Ags.none, reduceCtorEq, forall_const, if_true, if_false, ite_true, ite_false, D.sub, D.cell, D.elem, D.cells, D.padd, D.list, D.push, Lis.enc]
      rw [if_pos (by grind)] at hK
      simpa using hK
theorem always_ok : Contract Tryz.prog 108 fun args K => ∃ (x : List UInt8), args = [.str x] ∧ K [.d (.bool true)] := by
  refine .of c108 t108_ok ?_
  rintro _ K ⟨x, rfl, hK⟩ hsm
  refine ⟨[.str x], rfl, ⟨trivial, trivial⟩, ?_⟩
  exact hK
theorem always_says (ss : List (List UInt8)) : SaysTxt Tryz.prog (.clo 108 []) ss (fun _ => true) := by
  refine ⟨fun as_ K => ∃ x, as_ = [.str x] ∧ K [.d (.bool true)], FvC.of c108 always_ok ?_, fun x _ => ⟨x, rfl, rfl⟩⟩
  rintro _ K ⟨x, rfl, hK⟩
  refine ⟨⟨x, rfl, hK⟩, argsTyped_of [some (.cell .str)] (by kernel_rfl) ?_⟩
  intro i rk d h1 h2
  cases i with
  | zero => simp at h1 h2; subst h1 h2; trivial
  | succ i => simp at h1
theorem find_true (ss : List (List UInt8)) : ss.find? (fun _ => true) = ss.head? := by cases ss <;> rfl
def firstR (l : Lis) : List UInt8 × Bool × Int := if checkL order05 l ≠ 0 then ([], false, checkL order05 l) else ((pick (names l).head?).1, (pick (names l).head?).2, 0)
def lastR (l : Lis) : List UInt8 × Bool × Int := if checkL order05 l ≠ 0 then ([], false, checkL order05 l) else ((pick (names l).getLast?).1, (pick (names l).getLast?).2, 0)
def openR (l : Lis) : List (List UInt8) × Int := if checkL order05 l ≠ 0 then ([], checkL order05 l) else (openL l.cues, 0)
theorem first17R_ok : Contract Tryz.prog 41 fun args K => ∃ (l : Lis), l.Ok ∧ args = [.agg l.enc] ∧ K [.d (.str (firstR l).1), .d (.bool (firstR l).2.1), .d (.int .i64 (firstR l).2.2)] :=
  first17_ok.weaken fun args K _ ⟨l, h1, h2, h3⟩ => ⟨l, h1, h2, by simp only [firstR] at h3; split <;> rename_i h <;> simpa [h] using h3⟩
theorem last17R_ok : Contract Tryz.prog 44 fun args K => ∃ (l : Lis), l.Ok ∧ args = [.agg l.enc] ∧ K [.d (.str (lastR l).1), .d (.bool (lastR l).2.1), .d (.int .i64 (lastR l).2.2)] :=
  last17_ok.weaken fun args K _ ⟨l, h1, h2, h3⟩ => ⟨l, h1, h2, by simp only [lastR] at h3; split <;> rename_i h <;> simpa [h] using h3⟩
theorem firstR_ok : Contract Tryz.prog 37 fun args K => ∃ (l : Lis), l.Ok ∧ args = [.agg l.enc] ∧ K [.d (.str (firstR l).1), .d (.bool (firstR l).2.1), .d (.int .i64 (firstR l).2.2)] := by
  refine .of c37 t37_ok ?_
  rintro _ K ⟨l, hl, rfl, hK⟩ hsm
  refine ⟨l.enc, rfl, Lis.has hl, ?_⟩
  refine denR_call clCheck17_ok ⟨l, hl, rfl, _, rfl, ?_⟩
  simp only [firstR] at hK
  simp only [zz, RT.den, den, O1.eval, O2.eval, D.eqb, Ags.none, reduceCtorEq, forall_const, if_true, if_false, ite_true, ite_false, D.sub, D.cell, D.elem, D.cells, D.padd, D.list, D.push, Lis.enc]
  refine ⟨fun h => ?_, fun h => ?_⟩
  · rw [if_pos (by simpa using h)] at hK; exact hK
  · rw [if_neg (by simpa using h)] at hK
    refine denR_call forwards_ok ⟨l, hl, rfl, _, rfl, ?_⟩
    refine denR_call first_ok ⟨_, names l, fun _ => true, 108, [], by trivial, forwards_it hl, rfl, always_says _, _, rfl, ?_⟩
    rw [find_true]
    simp only [zz, RT.den, den, O1.eval, O2.eval, D.eqb, Ags.none, reduceCtorEq, forall_const, if_true, if_false, ite_true, ite_false, D.sub, D.cell, D.elem, D.cells, D.padd, D.list, D.push]
    exact hK
theorem lastR_ok : Contract Tryz.prog 38 fun args K => ∃ (l : Lis), l.Ok ∧ args = [.agg l.enc] ∧ K [.d (.str (lastR l).1), .d (.bool (lastR l).2.1), .d (.int .i64 (lastR l).2.2)] := by
  refine .of c38 t38_ok ?_
  rintro _ K ⟨l, hl, rfl, hK⟩ hsm
  refine ⟨l.enc, rfl, Lis.has hl, ?_⟩
  refine denR_call clCheck17_ok ⟨l, hl, rfl, _, rfl, ?_⟩
  simp only [lastR] at hK
  simp only [zz, RT.den, den, O1.eval, O2.eval, D.eqb, Ags.none, reduceCtorEq, forall_const, if_true, if_false, ite_true, ite_false, D.sub, D.cell, D.elem, D.cells, D.padd, D.list, D.push, Lis.enc]
  refine ⟨fun h => ?_, fun h => ?_⟩
  · rw [if_pos (by simpa using h)] at hK; exact hK
  · rw [if_neg (by simpa using h)] at hK
    refine denR_call backwards_ok ⟨l, hl, rfl, _, rfl, ?_⟩
    refine denR_call first_ok ⟨_, (names l).reverse, fun _ => true, 108, [], by trivial, backwards_it hl, rfl, always_says _, _, rfl, ?_⟩
    rw [find_true, List.head?_reverse]
    simp only [zz, RT.den, den, O1.eval, O2.eval, D.eqb, Ags.none, reduceCtorEq, forall_const, if_true, if_false, ite_true, ite_false, D.sub, D.cell, D.elem, D.cells, D.padd, D.list, D.push]
    exact hK
theorem openR_ok : Contract Tryz.prog 24 fun args K => ∃ (l : Lis), l.Ok ∧ args = [.agg l.enc] ∧ K [.d (.slice (txts (openR l).1)), .d (.int .i64 (openR l).2)] :=
  open_ok.weaken fun args K _ ⟨l, h1, h2, h3⟩ => ⟨l, h1, h2, by simp only [openR] at h3; split <;> rename_i h <;> simpa [h, txts] using h3⟩
/-! ### CuelistChecks -/
theorem law7_typed : Contract Tryz.prog 7 fun args K => ∃ (l m : Lis), l.Ok ∧ m.Ok ∧ args = [.agg l.enc, .agg m.enc] ∧ K [.d (.bool true)] := by
  refine .of c7 t7_ok ?_
  rintro _ K ⟨l, m, hl, hm, rfl, hK⟩ hsm
  refine ⟨l.enc ++ m.enc, rfl, by exact has_li hl (Lis.has hm), ?_⟩
  refine denR_call few17_ok ⟨l, hl, rfl, _, rfl, ?_⟩
  refine denR_gcall few17_ok (few17 l) [.bool (if few17 l then few17 m else false)] ?_ (fun h => ⟨m, hm, rfl, by rw [if_pos h]; rfl⟩) (fun h => by rw [h]; rfl) ?_
  · simp only [zz, RT.den, den, O1.eval, O2.eval, D.eqb, Ags.none, reduceCtorEq, forall_const, if_true, if_false, ite_true, ite_false, D.sub, D.cell, D.elem, D.cells, D.padd, D.list, D.push, Lis.enc, Bool.not_not]
  simp only [zz, RT.den, den, O1.eval, O2.eval, D.eqb, Ags.none, reduceCtorEq, forall_const, if_true, if_false, ite_true, ite_false, D.sub, D.cell, D.elem, D.cells, D.padd, D.list, D.push, Lis.enc]
  refine ⟨fun h => denR_call awake_ok ⟨rfl, _, rfl, hK⟩, fun h => ?_⟩
  refine denR_call firstR_ok ⟨l, hl, rfl, _, rfl, ?_⟩
  refine denR_call first17R_ok ⟨l, hl, rfl, _, rfl, ?_⟩
  refine denR_call clCheck17_ok ⟨l, hl, rfl, _, rfl, ?_⟩
  refine denR_call check17_ok ⟨l, hl, rfl, _, rfl, ?_⟩
  refine denR_gcall clSame_ok true [.bool (same17 l m)] ?_ (fun _ => ⟨l, m, hl, hm, rfl, rfl⟩) (fun h => by cases h) ?_
  · simp only [zz, RT.den, den, O1.eval, O2.eval, D.eqb, Ags.none, reduceCtorEq, forall_const, if_true, if_false, ite_true, ite_false, D.sub, D.cell, D.elem, D.cells, D.padd, D.list, D.push, beq_self_eq_true, or_self, or_false, false_or]
  refine denR_gcall same17_ok true [.bool (same17 l m)] ?_ (fun _ => ⟨l, m, hl, hm, rfl, rfl⟩) (fun h => by cases h) ?_
  · simp only [zz, RT.den, den, O1.eval, O2.eval, D.eqb, Ags.none, reduceCtorEq, forall_const, if_true, if_false, ite_true, ite_false, D.sub, D.cell, D.elem, D.cells, D.padd, D.list, D.push, beq_self_eq_true, or_self, or_false, false_or]
  refine denR_gcall clSame_ok true [.bool true] ?_ (fun _ => ⟨l, l, hl, hl, rfl, by rw [same17_self]; rfl⟩) (fun h => by cases h) ?_
  · simp only [zz, RT.den, den, O1.eval, O2.eval, D.eqb, Ags.none, reduceCtorEq, forall_const, if_true, if_false, ite_true, ite_false, D.sub, D.cell, D.elem, D.cells, D.padd, D.list, D.push, beq_self_eq_true, or_self, or_false, false_or]
  simp only [zz, RT.den, den, O1.eval, O2.eval, D.eqb, Ags.none, reduceCtorEq, forall_const, if_true, if_false, ite_true, ite_false, D.sub, D.cell, D.elem, D.cells, D.padd, D.list, D.push, beq_self_eq_true, or_self, or_false, false_or]
  refine denR_call lastR_ok ⟨l, hl, rfl, _, rfl, ?_⟩
  refine denR_call last17R_ok ⟨l, hl, rfl, _, rfl, ?_⟩
  refine denR_call openR_ok ⟨l, hl, rfl, _, rfl, ?_⟩
  refine denR_call open17_ok ⟨l, hl, rfl, ?_⟩
  have e : ∀ K : List D → Prop, K [.slice (txts (openR l).1), .int .i64 (openR l).2] → ∃ rs, RV.all [.cell (.slice [.str]), .cell (.int .i64)] (if checkL order05 l ≠ 0 then [.d (.slice []), .d (.int .i64 (checkL order05 l))] else [.own 1 (txts (openL l.cues)), .d (.int .i64 0)]) = some rs ∧ K rs := by
    intro K hK
    unfold openR at hK
    split
    · rename_i h; rw [if_pos h] at hK; exact ⟨_, rfl, hK⟩
    · rename_i h; rw [if_neg h] at hK; exact ⟨_, rfl, hK⟩
  refine e _ ?_
  refine denR_gcall eqTxt_ok true [.bool true] ?_ (fun _ => ⟨(openR l).1, (openR l).1, rfl, by simp [RV.all, RV.cells]⟩) (fun h => by cases h) ?_
  · simp only [zz, RT.den, den, O1.eval, O2.eval, D.eqb, Ags.none, reduceCtorEq, forall_const, if_true, if_false, ite_true, ite_false, D.sub, D.cell, D.elem, D.cells, D.padd, D.list, D.push, beq_self_eq_true]
  refine denR_gcall awake_ok true [.bool true] ?_ (fun _ => ⟨rfl, rfl⟩) (fun h => by cases h) ?_
  · simp only [zz, RT.den, den, O1.eval, O2.eval, D.eqb, Ags.none, reduceCtorEq, forall_const, if_true, if_false, ite_true, ite_false, D.sub, D.cell, D.elem, D.cells, D.padd, D.list, D.push, beq_self_eq_true]
  simp only [zz, RT.den, den, O1.eval, O2.eval, D.eqb, Ags.none, reduceCtorEq, forall_const, if_true, if_false, ite_true, ite_false, D.sub, D.cell, D.elem, D.cells, D.padd, D.list, D.push, beq_self_eq_true]
  exact hK
theorem law7 : Contract Tryz.prog 7 (LawSpec Tryz.prog 7) :=
  law7_typed.weaken fun args K _ h => by
    obtain ⟨h1, h2, hK⟩ := lawArgs [.agg liKs, .agg liKs] (by kernel_rfl) h
    match args, h1 with
    | [a, b], _ =>
      obtain ⟨l, hl, rfl⟩ := Lis.ofAgg (h2 0 _ _ rfl rfl)
      obtain ⟨m, hm, rfl⟩ := Lis.ofAgg (h2 1 _ _ rfl rfl)
      exact ⟨l, m, hl, hm, rfl, hK⟩
end Go.Sx.La
