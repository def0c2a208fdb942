/-
 Part 9 of the proof: the executor over the kit's code with its soundness, or contracts of functions.
-/
import Derived.Test.YthlobibofbddeaaGreatDoorNEh
import Derived.Test.YthlobibofbddeaaGreatDoorProg
import Derived.WalkKit
import Derived.WalkSpells
import Derived.WalkLawsBesides
set_option linter.unusedSimpArgs false
set_option linter.unusedVariables false
set_option linter.unusedSectionVars false
set_option linter.defProp false
set_option maxRecDepth 100000
namespace Go.Sx.La
open Go Go.Sx Go.RowKit Go.Proofs
noncomputable def t39 : R := let x0 : T := .lcons (.var 1) (.lcons (.var 2) .lnil); let x1 : T := .o2 .ne (.var 4) (.int .i64 0); .call none (.fn 17) [.lcons (.var 0) x0] [.cell .bool] (.ite (.o1 .not (.var 3)) (.ret [.d (.bool false)]) (.call none (.fn 67) [.lcons (.var 0) x0] [.cell (.int .i64)] (.call (some (.o1 .not x1)) (.fn 90) [.lcons (.var 0) x0] [.cell (.int .i64)] (.ret [.d (.ite x1 (.bool true) (.o2 .le (.var 5) (.int .i64 400)))]))))
theorem t39_ok : fnO Tryz.prog mdA 39 [.agg [.int .i64, .int .i64, .slice [.str, .str, .slice [.int .i64, .int .i64, .int .i64, .int .i64, .int .i64], .slice [.int .i64, .int .i64, .int .i64, .int .i64, .int .i64, .int .i64], .bool, .bool, .int .i64, .str, .int .i64]]] = t39 := by kernel_rfl
theorem c39 : callable Tryz.prog 39 = true := by kernel_rfl
noncomputable def t48 : R := let x0 : T := .lcons (.var 1) (.lcons (.var 2) .lnil); let x1 : T := .o2 .eq (.var 5) (.int .i64 0); let x2 : T := .o2 .eq (.var 6) (.int .i64 0); .call none (.fn 39) [.lcons (.var 0) x0] [.cell .bool] (.call (some (.var 4)) (.fn 67) [.lcons (.var 0) x0] [.cell (.int .i64)] (.call (some (.ite (.var 4) x1 (.bool false))) (.fn 96) [.var 3] [.cell (.int .i64)] (.call (some (.ite (.ite (.var 4) x1 (.bool false)) x2 (.bool false))) (.fn 50) [.lcons (.var 0) x0, .var 3] [.cell (.int .i64)] (.ret [.d (.ite (.ite (.ite (.var 4) x1 (.bool false)) x2 (.bool false)) (.o2 .ge (.var 7) (.int .i64 0)) (.bool false))]))))
theorem t48_ok : fnO Tryz.prog mdA 48 [.agg [.int .i64, .int .i64, .slice [.str, .str, .slice [.int .i64, .int .i64, .int .i64, .int .i64, .int .i64], .slice [.int .i64, .int .i64, .int .i64, .int .i64, .int .i64, .int .i64], .bool, .bool, .int .i64, .str, .int .i64]], .cell .str] = t48 := by kernel_rfl
theorem c48 : callable Tryz.prog 48 = true := by kernel_rfl
noncomputable def t49 : R := let x0 : T := .sub (.var 2) (.var 3) (.o1 .len (.var 2)); let x1 : T := .push .nils (.lcons (.idx x0 (.var 5) 0 .str) .lnil); .need (.o2 .le (.int .i64 0) (.var 3)) (.need (.o2 .le (.var 3) (.o1 .len (.var 2))) (.fact (.o2 .le (.o1 .len x0) (.int .i64 140737488355328)) (.loop 0 [.nils, .int .i64 0] [.slice [.str], .int .i64] (.ite (.o2 .lt (.var 5) (.o1 .len x0)) (.need (.o2 .le (.int .i64 0) (.var 5)) (.need (.o2 .le (.o1 .len (.o2 .app (.var 4) x1)) (.int .i64 8796093022208)) (.again 0 [.o2 .app (.var 4) x1, .o2 (.add .i64) (.var 5) (.int .i64 1)]))) (.ret [.own 1 (.var 4)])))))
theorem t49_ok : fnO Tryz.prog mdA 49 [.agg [.int .i64, .int .i64, .slice [.str, .str, .slice [.int .i64, .int .i64, .int .i64, .int .i64, .int .i64], .slice [.int .i64, .int .i64, .int .i64, .int .i64, .int .i64, .int .i64], .bool, .bool, .int .i64, .str, .int .i64]], .cell (.int .i64)] = t49 := by kernel_rfl
theorem c49 : callable Tryz.prog 49 = true := by kernel_rfl
theorem few22_ok : Contract Tryz.prog 39 fun args K => ∃ (l : Lis), l.Ok ∧ args = [.agg l.enc] ∧ ∀ b : Bool, K [.d (.bool b)] := by
 refine .of c39 t39_ok ?_
 rintro _ K ⟨l, hl, rfl, hK⟩ hsm
 refine ⟨l.enc, rfl, Lis.has hl, ?_⟩
 refine denR_call few18_ok ⟨l, hl, by simp only [zz, reduceCtorEq, Lis.enc], fun b => ⟨_, rfl, ?_⟩⟩
 cases b with
 | false => refine denR_iteT (by simp only [zz, reduceCtorEq, Lis.enc]) ?_; exact hK _
 | true =>
   refine denR_iteF (by simp only [zz, reduceCtorEq, Lis.enc]) ?_
   refine denR_call check17_ok ⟨l, hl, by simp only [zz, reduceCtorEq, Lis.enc], _, rfl, ?_⟩
   by_cases h : checkL order05 l = 0
   · refine denR_gcall most_ok true [.int .i64 (most l.cues : Nat)] (by simp only [zz, reduceCtorEq, Lis.enc, h]) (fun _ => ⟨l, hl, rightW_of h, by simp only [zz, reduceCtorEq, Lis.enc], rfl⟩) (fun e => by cases e) ?_
     simp only [zz, reduceCtorEq, Lis.enc, h]
     exact hK _
   · refine denR_gcall most_ok false [.int .i64 0] (by simp only [zz, reduceCtorEq, Lis.enc]; simpa using h) (fun e => by cases e) (fun _ => rfl) ?_
     simp only [zz, reduceCtorEq, Lis.enc]
     exact hK _
noncomputable def t133 : R := let x0 : T := .lcons (.int .i64 0) .lnil; .ret [.d (.lcons (.var 0) (.lcons (.str []) (.lcons .nils (.lcons (.rep (.int .i64 1) (.lcons (.int .i64 0) (.lcons (.int .i64 0) (.lcons (.int .i64 0) (.lcons (.int .i64 0) (.lcons (.int .i64 0) x0)))))) (.lcons (.bool false) (.lcons (.bool false) (.lcons (.int .i64 (-1)) (.lcons (.str []) x0))))))))]
theorem t133_ok : fnO Tryz.prog mdA 133 [.cell .str] = t133 := by kernel_rfl
theorem c133 : callable Tryz.prog 133 = true := by kernel_rfl
noncomputable def t91 : R := let x0 : T := .push (.push (.push (.push .nils (.lcons (.var 2) (.lcons (.var 3) (.lcons (.var 4) (.lcons (.var 5) (.lcons (.var 6) (.lcons (.var 7) (.lcons (.var 8) (.lcons (.var 9) (.lcons (.var 10) .lnil)))))))))) (.lcons (.var 11) (.lcons (.var 12) (.lcons (.var 13) (.lcons (.var 14) (.lcons (.var 15) (.lcons (.var 16) (.lcons (.var 17) (.lcons (.var 18) (.lcons (.var 19) .lnil)))))))))) (.lcons (.var 20) (.lcons (.var 21) (.lcons (.var 22) (.lcons (.var 23) (.lcons (.var 24) (.lcons (.var 25) (.lcons (.var 26) (.lcons (.var 27) (.lcons (.var 28) .lnil)))))))))) (.lcons (.var 29) (.lcons (.var 30) (.lcons (.var 31) (.lcons (.var 32) (.lcons (.var 33) (.lcons (.var 34) (.lcons (.var 35) (.lcons (.var 36) (.lcons (.var 37) .lnil))))))))); let x1 : List K := [.str, .str, .slice [.int .i64, .int .i64, .int .i64, .int .i64, .int .i64], .slice [.int .i64, .int .i64, .int .i64, .int .i64, .int .i64, .int .i64], .bool, .bool, .int .i64, .str, .int .i64]; let x2 : T := .upd x0 (.int .i64 2) 7 (.lcons (.var 0) .lnil); .call none (.fn 133) [.str [49]] [.agg x1] (.call none (.fn 133) [.str [50]] [.agg x1] (.call none (.fn 133) [.str [51]] [.agg x1] (.call none (.fn 133) [.str [52]] [.agg x1] (.need (.o2 .lt (.int .i64 2) (.o1 .len x0)) (.need (.o2 .lt (.int .i64 2) (.o1 .len x2)) (.ret [.d (.lcons (.int .i64 1) (.lcons (.int .i64 0) (.lcons (.upd x2 (.int .i64 2) 8 (.lcons (.var 1) .lnil)) .lnil)))]))))))
theorem t91_ok : fnO Tryz.prog mdA 91 [.cell .str, .cell (.int .i64)] = t91 := by kernel_rfl
theorem c91 : callable Tryz.prog 91 = true := by kernel_rfl
noncomputable def t40 : R := let x0 : List K := [.int .i64, .int .i64, .slice [.str, .str, .slice [.int .i64, .int .i64, .int .i64, .int .i64, .int .i64], .slice [.int .i64, .int .i64, .int .i64, .int .i64, .int .i64, .int .i64], .bool, .bool, .int .i64, .str, .int .i64]]; let x2 : T := .lcons (.str [51]) .lnil; let x3 : T := .lcons (.str [52]) .lnil; let x4 : T := .o1 .not (.bool true); let x5 : T := .lcons (.str [50]) .lnil; let x6 : T := .o1 .not (.bool false); let x1 : T := .push (.push .nils (.lcons (.str [49]) .lnil)) x5; .call none (.fn 91) [.str [50], .int .i64 2] [.agg x0] (.call none (.fn 41) [.lcons (.var 0) (.lcons (.var 1) (.lcons (.var 2) .lnil)), .str [49], .int .i64 100] [.cell (.slice [.str]), .cell (.int .i64)] (.call none (.fn 91) [.str [50], .int .i64 0] [.agg x0] (.call none (.fn 44) [.lcons (.var 5) (.lcons (.var 6) (.lcons (.var 7) .lnil)), .str [49]] [.cell .bool, .cell (.int .i64)] (.call none (.fn 91) [.str [50], .int .i64 0] [.agg x0] (.call none (.fn 46) [.lcons (.var 10) (.lcons (.var 11) (.lcons (.var 12) .lnil)), .str [49]] [.cell (.slice [.str]), .cell (.int .i64)] (.call none (.fn 91) [.str [50], .int .i64 0] [.agg x0] (.call none (.fn 41) [.lcons (.var 15) (.lcons (.var 16) (.lcons (.var 17) .lnil)), .str [52], .int .i64 9] [.cell (.slice [.str]), .cell (.int .i64)] (.ite (.o1 .not (.ite (.o2 .ne (.o2 (.add .i64) (.o2 (.add .i64) (.o2 (.add .i64) (.var 4) (.var 9)) (.var 14)) (.var 19)) (.int .i64 0)) (.bool true) (.o1 .not (.var 8)))) (.call (some x6) (.fn 43) [.var 3, .push (.push (.push (.push (.push (.push x1 x2) x5) x2) x5) x2) x3] [.cell .bool] (.ite (.o1 .not (.o1 .not (.var 20))) (.call (some x6) (.fn 43) [.var 13, .push x1 x2] [.cell .bool] (.ite (.o1 .not (.o1 .not (.var 21))) (.call (some x6) (.fn 43) [.var 18, .push .nils x3] [.cell .bool] (.ite (.o1 .not (.var 22)) (.ret [.d (.bool false)]) (.call none (.fn 91) [.str [57], .int .i64 0] [.agg x0] (.call none (.fn 41) [.lcons (.var 23) (.lcons (.var 24) (.lcons (.var 25) .lnil)), .str [49], .int .i64 100] [.cell (.slice [.str]), .cell (.int .i64)] (.ite (.o2 .eq (.var 27) (.int .i64 0)) (.call none (.fn 43) [.var 26, .push (.push x1 x2) x3] [.cell .bool] (.ret [.d (.var 28)])) (.call (some (.bool false)) (.fn 43) [.var 26, .nils] [.cell .bool] (.ret [.d (.bool false)]))))))) (.call (some x4) (.fn 43) [.var 18, .nils] [.cell .bool] (.ret [.d (.bool false)])))) (.call (some x4) (.fn 43) [.var 13, .nils] [.cell .bool] (.ite x4 (.call none (.fn 43) [.var 18, .push .nils x3] [.cell .bool] (.ret [.d (.bool false)])) (.call (some (.bool false)) (.fn 43) [.var 18, .nils] [.cell .bool] (.ret [.d (.bool false)])))))) (.call (some x4) (.fn 43) [.var 3, .nils] [.cell .bool] (.ite x4 (.call none (.fn 43) [.var 13, .push x1 x2] [.cell .bool] (.call none (.fn 43) [.var 18, .push .nils x3] [.cell .bool] (.ret [.d (.bool false)]))) (.call (some (.bool false)) (.fn 43) [.var 13, .nils] [.cell .bool] (.call (some (.bool false)) (.fn 43) [.var 18, .nils] [.cell .bool] (.ret [.d (.bool false)])))))))))))))
theorem t40_ok : fnO Tryz.prog mdA 40 [] = t40 := by kernel_rfl
theorem c40 : callable Tryz.prog 40 = true := by kernel_rfl
def cue22 (s : List UInt8) : Cue := ⟨s, [], [], [⟨0, 0, 0, 0, 0, 0⟩], false, false, -1, [], 0⟩
def loopL (k : List UInt8) (n : Int) : Lis := ⟨1, 0, [cue22 [49], cue22 [50], { cue22 [51] with link := k, loops := n }, cue22 [52]]⟩
theorem cue22_Ok (s : List UInt8) : (cue22 s).Ok := ⟨by simp [cue22], by intro t ht; simp [cue22] at ht; subst ht; exact ⟨⟨by decide, by decide⟩, ⟨by decide, by decide⟩, ⟨by decide, by decide⟩, ⟨by decide, by decide⟩, ⟨by decide, by decide⟩, ⟨by decide, by decide⟩⟩, (show I64 (-1) from ⟨by decide, by decide⟩), (show I64 0 from ⟨by decide, by decide⟩)⟩
theorem loopL_Ok {k : List UInt8} {n : Int} (h : I64 n) : (loopL k n).Ok := by
 refine ⟨(show I64 1 from ⟨by decide, by decide⟩), (show I64 0 from ⟨by decide, by decide⟩), ?_⟩
 intro c hc
 simp only [loopL, List.mem_cons, List.not_mem_nil, or_false] at hc
 rcases hc with rfl | rfl | rfl | rfl
 · exact cue22_Ok _
 · exact cue22_Ok _
 · exact ⟨(cue22_Ok [51]).moves, (cue22_Ok [51]).parts, (cue22_Ok [51]).follow, h⟩
 · exact cue22_Ok _
theorem cue22_ok : Contract Tryz.prog 133 fun args K => ∃ s, args = [.str s] ∧ K [.d (.agg (cue22 s).enc)] := by
 refine .of c133 t133_ok ?_
 rintro _ K ⟨s, rfl, hK⟩ hsm
 exact ⟨[.str s], rfl, ⟨trivial, trivial⟩, hK⟩
theorem loopL_ok : Contract Tryz.prog 91 fun args K => ∃ k n, I64 n ∧ args = [.str k, .int .i64 n] ∧ K [.d (.agg (loopL k n).enc)] := by
 refine .of c91 t91_ok ?_
 rintro _ K ⟨k, n, hn, rfl, hK⟩ hsm
 refine ⟨[.str k, .int .i64 n], rfl, ⟨trivial, i64_has hn, trivial⟩, ?_⟩
 refine denR_call cue22_ok ⟨[49], rfl, _, rfl, ?_⟩
 refine denR_call cue22_ok ⟨[50], rfl, _, rfl, ?_⟩
 refine denR_call cue22_ok ⟨[51], rfl, _, rfl, ?_⟩
 refine denR_call cue22_ok ⟨[52], rfl, _, rfl, ?_⟩
 exact ⟨by kernel_rfl, by kernel_rfl, hK⟩
theorem lp_a : pathR (loopL [50] 2) [49] 100 = ([[49], [50], [51], [50], [51], [50], [51], [52]], 0) := by kernel_rfl
theorem lp_b : endR (loopL [50] 0) [49] = (true, 0) := by kernel_rfl
theorem lp_c : reachR (loopL [50] 0) [49] = ([[49], [50], [51]], 0) := by kernel_rfl
theorem lp_d : pathR (loopL [50] 0) [52] 9 = ([[52]], 0) := by kernel_rfl
theorem lp_e : pathR (loopL [57] 0) [49] 100 = ([[49], [50], [51], [52]], 0) := by kernel_rfl
theorem eqTxt_self : Contract Tryz.prog 43 fun args K => ∃ (a : List (List UInt8)), args = [.slice (txts a), .slice (txts a)] ∧ K [.d (.bool true)] :=
 eqTxt_ok.weaken fun args K _ ⟨a, h1, h2⟩ => ⟨a, a, h1, by simpa using h2⟩
theorem awake22_ok : Contract Tryz.prog 40 fun args K => args = [] ∧ K [.d (.bool true)] := by
 refine .of c40 t40_ok ?_
 rintro _ K ⟨rfl, hK⟩ hsm
 have s0 : I64 0 := ⟨by decide, by decide⟩
 have s2 : I64 2 := ⟨by decide, by decide⟩
 refine ⟨[], rfl, trivial, ?_⟩
 refine denR_call loopL_ok ⟨[50], 2, s2, rfl, _, rfl, ?_⟩
 refine denR_call fpath_ok ⟨loopL [50] 2, [49], 100, loopL_Ok s2, ⟨by decide, by decide⟩, rfl, ?_⟩
 rw [lp_a]
 intro rvs hr
 refine ⟨[.slice (txts [[49], [50], [51], [50], [51], [50], [51], [52]]), .int .i64 0], by rcases hr with rfl | rfl <;> rfl, ?_⟩
 refine denR_call loopL_ok ⟨[50], 0, s0, rfl, _, rfl, ?_⟩
 refine denR_call fendless_ok ⟨loopL [50] 0, [49], loopL_Ok s0, rfl, ?_⟩
 rw [lp_b]
 refine ⟨_, rfl, ?_⟩
 refine denR_call loopL_ok ⟨[50], 0, s0, rfl, _, rfl, ?_⟩
 refine denR_call freached_ok ⟨loopL [50] 0, [49], loopL_Ok s0, rfl, ?_⟩
 rw [lp_c]
 intro rvs hr
 refine ⟨[.slice (txts [[49], [50], [51]]), .int .i64 0], by rcases hr with rfl | rfl <;> rfl, ?_⟩
 refine denR_call loopL_ok ⟨[50], 0, s0, rfl, _, rfl, ?_⟩
 refine denR_call fpath_ok ⟨loopL [50] 0, [52], 9, loopL_Ok s0, ⟨by decide, by decide⟩, rfl, ?_⟩
 rw [lp_d]
 intro rvs hr
 refine ⟨[.slice (txts [[52]]), .int .i64 0], by rcases hr with rfl | rfl <;> rfl, ?_⟩
 refine denR_iteT (by kernel_rfl) ?_
 refine denR_gcall eqTxt_self true [.bool true] (by kernel_rfl) (fun _ => ⟨[[49], [50], [51], [50], [51], [50], [51], [52]], rfl, rfl⟩) (fun h => by cases h) ?_
 refine denR_iteT (by kernel_rfl) ?_
 refine denR_gcall eqTxt_self true [.bool true] (by kernel_rfl) (fun _ => ⟨[[49], [50], [51]], rfl, rfl⟩) (fun h => by cases h) ?_
 refine denR_iteT (by kernel_rfl) ?_
 refine denR_gcall eqTxt_self true [.bool true] (by kernel_rfl) (fun _ => ⟨[[52]], rfl, rfl⟩) (fun h => by cases h) ?_
 refine denR_iteF (by kernel_rfl) ?_
 refine denR_call loopL_ok ⟨[57], 0, s0, rfl, _, rfl, ?_⟩
 refine denR_call fpath_ok ⟨loopL [57] 0, [49], 100, loopL_Ok s0, ⟨by decide, by decide⟩, rfl, ?_⟩
 rw [lp_e]
 intro rvs hr
 refine ⟨[.slice (txts [[49], [50], [51], [52]]), .int .i64 0], by rcases hr with rfl | rfl <;> rfl, ?_⟩
 refine denR_iteT (by kernel_rfl) ?_
 exact denR_call eqTxt_self ⟨[[49], [50], [51], [52]], rfl, _, rfl, hK⟩
noncomputable def t9 : R := let x0 : T := .lcons (.var 1) (.lcons (.var 2) .lnil); let x1 : T := .o2 .eq (.var 5) (.var 7); let x2 : T := .o2 .eq (.var 6) (.var 8); let x3 : T := .o2 .eq (.var 10) (.var 12); .call none (.fn 39) [.lcons (.var 0) x0] [.cell .bool] (.fact (.ite (.o1 .not (.o1 .not (.var 4))) (.o2 .le (.o1 .len (.var 3)) (.int .i64 140737488355328)) (.bool true)) (.ite (.ite (.o1 .not (.var 4)) (.bool true) (.o2 .gt (.o1 .len (.var 3)) (.int .i64 40))) (.call none (.fn 40) [] [.cell .bool] (.ret [.d (.var 5)])) (.call none (.fn 44) [.lcons (.var 0) x0, .var 3] [.cell .bool, .cell (.int .i64)] (.call none (.fn 45) [.lcons (.var 0) x0, .var 3] [.cell .bool, .cell (.int .i64)] (.call none (.fn 46) [.lcons (.var 0) x0, .var 3] [.cell (.slice [.str]), .cell (.int .i64)] (.call none (.fn 47) [.lcons (.var 0) x0, .var 3] [.cell (.slice [.str]), .cell (.int .i64)] (.call (some (.ite x1 x2 (.bool false))) (.fn 43) [.var 9, .var 11] [.cell .bool] (.call (some (.ite (.ite (.ite x1 x2 (.bool false)) (.var 13) (.bool false)) x3 (.bool false))) (.fn 40) [] [.cell .bool] (.ret [.d (.ite (.ite (.ite (.ite x1 x2 (.bool false)) (.var 13) (.bool false)) x3 (.bool false)) (.var 14) (.bool false))])))))))))
noncomputable def t51 : R := .call none (.fn 97) [.var 0, .var 1] [.cell (.int .i64)] (.ret [.d (.o2 .ge (.var 2) (.int .i64 0))])
theorem t51_ok : fnO Tryz.prog mdA 51 [.cell (.slice [.str, .str, .slice [.int .i64, .int .i64, .int .i64, .int .i64, .int .i64], .slice [.int .i64, .int .i64, .int .i64, .int .i64, .int .i64, .int .i64], .bool, .bool, .int .i64, .str, .int .i64]), .cell .fn] = t51 := by kernel_rfl
theorem c51 : callable Tryz.prog 51 = true := by kernel_rfl
noncomputable def t52 : R := let x0 : T := .o2 .eq (.var 8) (.int .i64 0); let x1 : T := .o2 .ne (.var 7) (.str []); .call (some (.ite x1 x0 (.bool false))) (.fn 53) [.fld (.var 9) 0 (.slice [.str]), .var 0] [.cell .bool] (.call (some (.ite (.ite x1 x0 (.bool false)) (.var 10) (.bool false))) (.fn 53) [.fld (.var 9) 0 (.slice [.str]), .var 7] [.cell .bool] (.ret [.d (.ite (.ite (.ite x1 x0 (.bool false)) (.var 10) (.bool false)) (.var 11) (.bool false))]))
theorem t52_ok : fnO Tryz.prog mdA 52 ([.agg [.str, .str, .slice [.int .i64, .int .i64, .int .i64, .int .i64, .int .i64], .slice [.int .i64, .int .i64, .int .i64, .int .i64, .int .i64, .int .i64], .bool, .bool, .int .i64, .str, .int .i64]] ++ [.cell (.ptr [.slice [.str]])]) = t52 := by kernel_rfl
theorem c52 : callable Tryz.prog 52 = true := by kernel_rfl
noncomputable def t53 : R := .call none (.fn 98) [.var 0, .var 1] [.cell (.int .i64)] (.ret [.d (.o2 .ge (.var 2) (.int .i64 0))])
theorem t53_ok : fnO Tryz.prog mdA 53 [.cell (.slice [.str]), .cell .str] = t53 := by kernel_rfl
theorem c53 : callable Tryz.prog 53 = true := by kernel_rfl
noncomputable def t98 : R := .fact (.o2 .le (.o1 .len (.var 0)) (.int .i64 140737488355328)) (.loop 0 [.int .i64 0] [.int .i64] (.ite (.o2 .lt (.var 2) (.o1 .len (.var 0))) (.need (.o2 .le (.int .i64 0) (.var 2)) (.ite (.o2 .eq (.var 1) (.idx (.var 0) (.var 2) 0 .str)) (.ret [.d (.var 2)]) (.again 0 [.o2 (.add .i64) (.var 2) (.int .i64 1)]))) (.ret [.d (.int .i64 (-1))])))
theorem t98_ok : fnO Tryz.prog mdA 98 [.cell (.slice [.str]), .cell .str] = t98 := by kernel_rfl
theorem c98 : callable Tryz.prog 98 = true := by kernel_rfl
noncomputable def t11 : R := let x2 : T := .o1 .len (.var 7); let x3 : T := .lcons (.var 1) (.lcons (.var 2) .lnil); let x5 : T := .o2 .le x2 (.int .i64 140737488355328); let x6 : T := .o2 (.sub .i64) x2 (.int .i64 1); let x7 : T := .o1 .len (.var 2); let x8 : T := .o2 .ne (.var 10) (.int .i64 0); let x9 : T := .o2 .ne (.var 6) (.int .i64 0); let x10 : T := .o2 .ne (.var 8) (.int .i64 0); let x0 : T := .o2 .eq x2 (.int .i64 256); let x4 : T := .o2 (.sub .i64) x7 (.int .i64 1); let x1 : T := .o2 .eq (.idx (.var 7) x6 0 .str) (.idx (.var 2) x4 0 .str); .call none (.fn 48) [.lcons (.var 0) x3, .var 3] [.cell .bool] (.ite (.o1 .not (.var 4)) (.call none (.fn 40) [] [.cell .bool] (.ret [.d (.var 5)])) (.call none (.fn 44) [.lcons (.var 0) x3, .var 3] [.cell .bool, .cell (.int .i64)] (.call none (.fn 41) [.lcons (.var 0) x3, .var 3, .int .i64 256] [.cell (.slice [.str]), .cell (.int .i64)] (.call none (.fn 46) [.lcons (.var 0) x3, .var 3] [.cell (.slice [.str]), .cell (.int .i64)] (.fact (.ite (.o1 .not (.ite (.ite x9 (.bool true) x10) (.bool true) x8)) x5 (.bool true)) (.ite (.ite (.ite (.ite x9 (.bool true) x10) (.bool true) x8) (.bool true) (.o2 .eq x2 (.int .i64 0))) (.ret [.d (.bool false)]) (.ite (.o1 .not (.var 5)) (.fact x5 (.need (.ite (.o1 .not x0) (.o2 .le (.int .i64 0) x6) (.bool true)) (.need (.ite (.o1 .not x0) (.o2 .lt x6 x2) (.bool true)) (.fact (.ite (.o1 .not x0) (.o2 .le x7 (.int .i64 140737488355328)) (.bool true)) (.need (.ite (.o1 .not x0) (.o2 .le (.int .i64 0) x4) (.bool true)) (.need (.ite (.o1 .not x0) (.o2 .lt x4 x7) (.bool true)) (.call (some (.ite x0 (.bool true) x1)) (.fn 40) [] [.cell .bool] (.ret [.d (.ite (.ite x0 (.bool true) x1) (.var 11) (.bool false))])))))))) (.call none (.fn 51) [.var 2, .clo 52 (.lcons (.ptr (.lcons (.var 9) .lnil)) .lnil)] [.cell .bool] (.fact x5 (.call (some (.ite x0 (.var 11) (.bool false))) (.fn 40) [] [.cell .bool] (.ret [.d (.ite (.ite x0 (.var 11) (.bool false)) (.var 12) (.bool false))])))))))))))
theorem t11_ok : fnO Tryz.prog mdA 11 [.agg [.int .i64, .int .i64, .slice [.str, .str, .slice [.int .i64, .int .i64, .int .i64, .int .i64, .int .i64], .slice [.int .i64, .int .i64, .int .i64, .int .i64, .int .i64, .int .i64], .bool, .bool, .int .i64, .str, .int .i64]], .cell .str] = t11 := by kernel_rfl
theorem c11 : callable Tryz.prog 11 = true := by kernel_rfl
theorem good22_ok : Contract Tryz.prog 48 fun args K => ∃ (l : Lis) (s : List UInt8), l.Ok ∧ args = [.agg l.enc, .str s] ∧ ∀ b : Bool, (b = true → cue18 l s = 0) → K [.d (.bool b)] := by
 refine .of c48 t48_ok ?_
 rintro _ K ⟨l, s, hl, rfl, hK⟩ hsm
 refine ⟨l.enc ++ [.str s], rfl, by exact has_s hl, ?_⟩
 refine denR_call few22_ok ⟨l, hl, by simp only [zz, reduceCtorEq, Lis.enc], fun b => ⟨[.bool b], rfl, ?_⟩⟩
 have h1 : ∀ b : Bool, [D.int .i64 (if b = true then checkL order05 l else 0)] = if b = true then [.int .i64 (checkL order05 l)] else [.int .i64 0] := fun b => by split <;> rfl
 refine denR_gcall check17_ok b [.int .i64 (if b = true then checkL order05 l else 0)] (by simp only [zz, reduceCtorEq, Lis.enc]) (fun h => ⟨l, hl, by simp only [zz, reduceCtorEq, Lis.enc], by rw [if_pos h]; rfl⟩) (fun h => by subst h; rfl) ?_
 refine denR_gcall check05_ok (b && decide (checkL order05 l = 0)) [.int .i64 (if (b && decide (checkL order05 l = 0)) = true then check05 s else 0)] (by cases b <;> simp only [zz, reduceCtorEq, Lis.enc] <;> simp) (fun h => ⟨s, by simp only [zz, reduceCtorEq, Lis.enc], by rw [if_pos h]; rfl⟩) (fun h => by rw [h]; rfl) ?_
 refine denR_gcall place17_ok (b && decide (checkL order05 l = 0) && decide (check05 s = 0)) [.int .i64 (if (b && decide (checkL order05 l = 0) && decide (check05 s = 0)) = true then place l.cues s else 0)] ?_ (fun h => ⟨l, s, hl, by simp only [zz, reduceCtorEq, Lis.enc], by rw [if_pos h]; rfl⟩) (fun h => by rw [h]; rfl) ?_
 · cases b
   · simp only [zz, reduceCtorEq, Lis.enc]; simp
   · by_cases h : checkL order05 l = 0 <;> simp only [zz, reduceCtorEq, Lis.enc, h] <;> simp
 · cases b with
   | false =>
     simp only [zz, reduceCtorEq, Lis.enc]
     simpa using hK false (by simp)
   | true =>
     by_cases h2 : checkL order05 l = 0
     · by_cases h3 : check05 s = 0
       · simp only [zz, reduceCtorEq, Lis.enc, h2, h3, Bool.and_true, Bool.true_and, decide_true]
         exact hK _ fun h => by
           have h4 : 0 ≤ place l.cues s := by simpa using h
           unfold cue18 numbered18
           rw [if_neg (by simp [h2]), if_neg (by simp [h3]), if_neg (by omega)]
       · simp only [zz, reduceCtorEq, Lis.enc, h2, h3, Bool.and_true, Bool.true_and, decide_true]
         simpa using hK false (by simp)
     · simp only [zz, reduceCtorEq, Lis.enc, h2, Bool.and_true, Bool.true_and, decide_true]
       simpa using hK false (by simp)
theorem indexS_ok : Contract Tryz.prog 98 fun args K => ∃ (xs : List (List UInt8)) (a : List UInt8), args = [.slice (txts xs), .str a] ∧ K [.d (.int .i64 (idxGo (fun x => a == x) 0 xs))] := by
 refine .of c98 t98_ok ?_
 rintro _ K ⟨xs, a, rfl, hK⟩ hsm
 refine ⟨[.slice (txts xs), .str a], rfl, ⟨txts_has xs, trivial, trivial⟩, ?_⟩
 simp only [zz, reduceCtorEq, t98, txts, List.length_map]
 intro hcap
 refine loop_go xs (fun i l' (_ : Unit) => idxGo (fun x => a == x) i l') (fun i _ => [.int .i64 i]) () _ rfl 0 (fun _ _ => rfl) rfl ?_ ?_
 · intro i hi _ hgo
   have hget : (xs.map fun x => [D.str x]).getD i [] = [.str xs[i]] := getD_map (enc := fun x => [D.str x]) hi
   simp only [idxGo] at hgo
   simp only [zz, reduceCtorEq, hi, List.length_map, hget]
   refine ⟨by omega, fun h => ?_, fun h => ?_⟩
   · rw [if_pos (by simpa using h)] at hgo; rw [← hgo] at hK; exact hK
   · rw [if_neg (by simpa using h)] at hgo
     exact ⟨(), by rw [wr64_eq] <;> omega, hgo⟩
 · intro _ hgo
   simp only [idxGo] at hgo
   simp only [zz, reduceCtorEq, List.length_map]
   rw [← hgo] at hK; exact hK
theorem containsS_ok : Contract Tryz.prog 53 fun args K => ∃ (xs : List (List UInt8)) (a : List UInt8), args = [.slice (txts xs), .str a] ∧ K [.d (.bool (decide (a ∈ xs)))] := by
 refine .of c53 t53_ok ?_
 rintro _ K ⟨xs, a, rfl, hK⟩ hsm
 refine ⟨[.slice (txts xs), .str a], rfl, ⟨txts_has xs, trivial, trivial⟩, ?_⟩
 refine denR_call indexS_ok ⟨xs, a, rfl, _, rfl, ?_⟩
 have e : decide (0 ≤ idxGo (fun x => a == x) 0 xs) = decide (a ∈ xs) := by
   rcases idxGo_spec (fun x : List UInt8 => a == x) xs 0 with ⟨h1, h2⟩ | ⟨j, hj, h1, h2, _⟩
   · rw [h1]
     have : a ∉ xs := fun h => by simpa using h2 a h
     simp [this]
   · rw [h1]
     have e2 : a = xs[j] := by simpa using h2
     have : a ∈ xs := by rw [e2]; exact List.getElem_mem hj
     simp [this]
 simp only [zz, reduceCtorEq]
 rw [e]
 exact hK
theorem anyCue_ok : Contract Tryz.prog 51 fun args K => ∃ (l : List Cue) (p : Cue → Bool) (f : FuncId) (caps : List D), (∀ m ∈ l, m.Ok) ∧ args = [.slice (l.map Cue.enc), .clo f caps] ∧ SaysOf Tryz.prog (.clo f caps) Cue.enc l p ∧ K [.d (.bool (l.any p))] := by
 refine .of c51 t51_ok ?_
 rintro _ K ⟨l, p, f, caps, hl, rfl, hs, hK⟩ hsm
 refine ⟨[.slice (l.map Cue.enc), .clo f caps], rfl, ⟨cues_has hl, trivial, trivial⟩, ?_⟩
 refine denR_call indexCue_ok ⟨l, p, f, caps, hl, rfl, hs, _, rfl, ?_⟩
 have e : decide (0 ≤ idxGo p 0 l) = l.any p := by
   rcases idxGo_spec p l 0 with ⟨h1, h2⟩ | ⟨j, hj, h1, h2, _⟩
   · rw [h1]
     have : l.any p = false := by rw [List.any_eq_false]; intro x hx; simp [h2 x hx]
     rw [this]; rfl
   · rw [h1]
     have : l.any p = true := List.any_eq_true.2 ⟨l[j], List.getElem_mem hj, h2⟩
     rw [this]; simp
 simp only [zz, reduceCtorEq]
 rw [e]
 exact hK
def alw (R : List (List UInt8)) (c : Cue) : Bool := !(c.link == []) && decide (c.loops = 0) && decide (c.num ∈ R) && decide (c.link ∈ R)
theorem alw_ok : Contract Tryz.prog 52 fun args K => ∃ (c : Cue) (R : List (List UInt8)), c.Ok ∧ args = [.agg c.enc, .ptr [.slice (txts R)]] ∧ K [.d (.bool (alw R c))] := by
 refine .of c52 t52_ok ?_
 rintro _ K ⟨c, R, hc, rfl, hK⟩ hsm
 refine ⟨c.enc ++ [.ptr [.slice (txts R)]], rfl, by exact (Cue.has hc).append (show HasKs [.ptr [.slice [.str]]] [.ptr [.slice (txts R)]] from ⟨⟨txts_has R, trivial⟩, trivial⟩), ?_⟩
 unfold alw at hK
 refine denR_gcall containsS_ok (!(c.link == []) && decide (c.loops = 0)) [.bool ((!(c.link == []) && decide (c.loops = 0)) && decide (c.num ∈ R))] (by by_cases h : c.link = [] <;> simp only [zz, reduceCtorEq, Cue.enc, h] <;> simp [h]) (fun h => ⟨R, c.num, by simp only [zz, reduceCtorEq, Cue.enc], by rw [h]; rfl⟩) (fun h => by rw [h]; rfl) ?_
 refine denR_gcall containsS_ok ((!(c.link == []) && decide (c.loops = 0)) && decide (c.num ∈ R)) [.bool (((!(c.link == []) && decide (c.loops = 0)) && decide (c.num ∈ R)) && decide (c.link ∈ R))] ?_ (fun h => ⟨R, c.link, by simp only [zz, reduceCtorEq, Cue.enc], by rw [h]; rfl⟩) (fun h => by rw [h]; rfl) ?_
 · by_cases h : c.link = [] <;> by_cases h2 : c.loops = 0 <;> simp only [zz, reduceCtorEq, Cue.enc, h, h2] <;> simp [h]
 · generalize decide (c.num ∈ R) = A at *
   generalize decide (c.link ∈ R) = B at *
   by_cases h : c.link = [] <;> by_cases h2 : c.loops = 0 <;> cases A <;> cases B <;> simp only [zz, reduceCtorEq, Cue.enc, h, h2] <;> simpa [h, h2] using hK
theorem alw_says (l : List Cue) (hl : ∀ c ∈ l, c.Ok) (R : List (List UInt8)) : SaysOf Tryz.prog (.clo 52 [.ptr [.slice (txts R)]]) Cue.enc l (alw R) := by
 refine ⟨fun as_ K => ∃ x : Cue, x.Ok ∧ as_ = [.agg x.enc] ∧ K [.d (.bool (alw R x))], FvC.of c52 alw_ok ?_, fun x hx => ⟨x, hl x hx, rfl, rfl⟩⟩
 rintro _ K ⟨x, hx, rfl, hK⟩
 refine ⟨⟨x, R, hx, rfl, hK⟩, argsTyped_of [some (.agg cueKs)] (by kernel_rfl) ?_⟩
 intro i rk d h1 h2
 cases i with
 | zero => simp at h1 h2; subst h1 h2; exact Cue.has hx
 | succ i => simp at h1
theorem law11f_typed : Contract Tryz.prog 11 fun args K => ∃ (l : Lis) (s : List UInt8), l.Ok ∧ args = [.agg l.enc, .str s] ∧ K [.d (.bool true)] := by
 refine .of c11 t11_ok ?_
 rintro _ K ⟨l, s, hl, rfl, hK⟩ hsm
 refine ⟨l.enc ++ [.str s], rfl, by exact has_s hl, ?_⟩
 refine denR_call good22_ok ⟨l, s, hl, by simp only [zz, reduceCtorEq, Lis.enc], fun b hb => ⟨[.bool b], rfl, ?_⟩⟩
 cases b with
 | false =>
   refine denR_iteT (by simp only [zz, reduceCtorEq, Lis.enc]) ?_
   refine denR_call awake22_ok ⟨rfl, _, rfl, ?_⟩
   simp only [zz, reduceCtorEq, Lis.enc]
   exact hK
 | true =>
 refine denR_iteF (by simp only [zz, reduceCtorEq, Lis.enc]) ?_
 have h := hb rfl
 obtain ⟨a, hS⟩ := cue18_start hl h
 have hR := hS.right
 have hcl := hR.len
 have ha := hS.lt
 have hw := Good.start (cs := l.cues) ha
 have hv := vis_spec hS
 have e1 : endR l s = (decide ((walk l.cues (most l.cues) ⟨a, [], 0⟩).length = most l.cues), 0) := by unfold endR; rw [if_neg (by simp [h]), hS.st]
 have e2 : pathR l s 256 = (pathL l.cues 256 ⟨a, [], 0⟩, 0) := by unfold pathR; rw [if_neg (by simp [h]), if_neg (by omega), hS.st]; rfl
 have e3 : reachR l s = (reachL l.cues ⟨a, [], 0⟩, 0) := by unfold reachR; rw [if_neg (by simp [h]), hS.st]
 refine denR_call fendless_ok ⟨l, s, hl, by simp only [zz, reduceCtorEq, Lis.enc], _, rfl, ?_⟩
 rw [e1]
 refine denR_call fpath_ok ⟨l, s, 256, hl, ⟨by omega, by omega⟩, by simp only [zz, reduceCtorEq, Lis.enc], fun rvs hr => ?_⟩
 rw [e2] at hr
 refine ⟨[.slice (txts (pathL l.cues 256 ⟨a, [], 0⟩)), .int .i64 0], by rcases hr with rfl | rfl <;> rfl, ?_⟩
 refine denR_call freached_ok ⟨l, s, hl, by simp only [zz, reduceCtorEq, Lis.enc], fun rvs hr => ?_⟩
 rw [e3] at hr
 refine ⟨[.slice (txts (reachL l.cues ⟨a, [], 0⟩)), .int .i64 0], by rcases hr with rfl | rfl <;> rfl, ?_⟩
 have hpl := pathL_len l.cues 256 ⟨a, [], 0⟩
 have hpos : 0 < (pathL l.cues 256 ⟨a, [], 0⟩).length := by rw [hpl]; simp [walk]
 have hle : (pathL l.cues 256 ⟨a, [], 0⟩).length ≤ 256 := by rw [hpl]; exact walk_len _ _ _
 cases hE : decide ((walk l.cues (most l.cues) ⟨a, [], 0⟩).length = most l.cues) with
 | false =>
   have hlast : (pathL l.cues 256 ⟨a, [], 0⟩).length ≠ 256 → (pathL l.cues 256 ⟨a, [], 0⟩)[(pathL l.cues 256 ⟨a, [], 0⟩).length - 1]? = some (l.cues[l.cues.length - 1]'(by omega)).num := fun hne => by
     rw [hpl] at hne ⊢
     obtain ⟨v, h1, h2⟩ := walk_last hR hw hne
     rw [List.getLast?_eq_getElem?] at h1
     simp only [pathL, List.getElem?_map, h1, Option.map_some]
     rw [numA_at (by omega)]
     have : v.a = l.cues.length - 1 := by omega
     simp only [this]
   generalize pathL l.cues 256 ⟨a, [], 0⟩ = P at *
   have w1 : wr64 ((P.length : Int) - 1) = ((P.length - 1 : Nat) : Int) := by rw [wr64_eq] <;> omega
   have w2 : wr64 ((l.cues.length : Int) - 1) = ((l.cues.length - 1 : Nat) : Int) := by rw [wr64_eq] <;> omega
   have g1 : (txts P).getD (P.length - 1) [] = [.str (P[P.length - 1]'(by omega))] := getD_map (enc := fun s => [D.str s]) (by omega)
   have g2 : (l.cues.map Cue.enc).getD (l.cues.length - 1) [] = (l.cues[l.cues.length - 1]'(by omega)).enc := getD_map (by omega)
   have hval : P.length = 256 ∨ P[P.length - 1]'(by omega) = (l.cues[l.cues.length - 1]'(by omega)).num := by
     by_cases hne : P.length = 256
     · exact .inl hne
     · have := hlast hne
       rw [List.getElem?_eq_getElem (by omega)] at this
       exact .inr (Option.some.inj this)
   simp only [zz, reduceCtorEq, Lis.enc, txts_len, List.length_map, w1, w2, g1, g2, Cue.enc]
   refine fun _ => ⟨fun h0 => by omega, fun _ _ => ⟨by split <;> simp, by split <;> simp <;> omega, fun _ => ⟨by split <;> simp, by split <;> simp <;> omega, ?_⟩⟩⟩
   have hb2 : ((P.length : Int) = 256) ∨ P[P.length - 1]'(by omega) = (l.cues[l.cues.length - 1]'(by omega)).num := hval.imp (fun h => by omega) id
   refine denR_gcall awake22_ok true [.bool true] ?_ (fun _ => ⟨rfl, rfl⟩) (fun h => by cases h) ?_
   · simp only [zz, reduceCtorEq, txts_len, List.length_map, w1, w2, g1, g2, Cue.enc]
     rcases hb2 with h | h <;> simp [h]
   · simp only [zz, reduceCtorEq, txts_len, List.length_map, w1, w2, g1, g2, Cue.enc]
     rcases hb2 with h | h <;> simpa [h] using hK
 | true =>
   have hEt : (visR l.cues ⟨a, [], 0⟩).2 = true := hv.end_.2 (by simpa using hE)
   have hinf := hv.inf hEt 256
   have hvt : VisR l.cues ⟨a, [], 0⟩ (visR l.cues ⟨a, [], 0⟩).1 true := by rw [← hEt]; exact hv
   obtain ⟨c, hc, c1, c2, c3, c4⟩ := always_link hR hw hvt
   have hany : l.cues.any (alw (reachL l.cues ⟨a, [], 0⟩)) = true := List.any_eq_true.2 ⟨c, hc, by simp [alw, c1, c2, c3, c4]⟩
   have h256 : (pathL l.cues 256 ⟨a, [], 0⟩).length = 256 := by rw [hpl, hinf]
   simp only [zz, reduceCtorEq, Lis.enc, txts_len, h256]
   refine fun _ => ⟨fun h0 => absurd h0 (by decide), fun _ => ?_⟩
   refine denR_call anyCue_ok ⟨l.cues, alw (reachL l.cues ⟨a, [], 0⟩), 52, [.ptr [.slice (txts (reachL l.cues ⟨a, [], 0⟩))]], hl.cues, by simp only [zz, reduceCtorEq, Lis.enc], alw_says l.cues hl.cues _, _, rfl, ?_⟩
   rw [hany]
   simp only [zz, reduceCtorEq, Lis.enc, txts_len, h256]
   intro _
   refine denR_gcall awake22_ok true [.bool true] (by simp only [zz, reduceCtorEq, Lis.enc, txts_len, h256] <;> simp) (fun _ => ⟨rfl, rfl⟩) (fun h => by cases h) ?_
   simp only [zz, reduceCtorEq, Lis.enc, txts_len, h256]
   simpa using hK
theorem law11f : Contract Tryz.prog 11 (LawSpec Tryz.prog 11) :=
 law11f_typed.weaken fun args K _ h => by
   obtain ⟨h1, h2, hK⟩ := lawArgs [.agg liKs, .cell .str] (by kernel_rfl) h
   match args, h1 with
   | [a, b], _ =>
     obtain ⟨l, hl, rfl⟩ := Lis.ofAgg (h2 0 _ _ rfl rfl)
     obtain ⟨s, rfl⟩ := str_of (h2 1 _ _ rfl rfl)
     exact ⟨l, s, hl, rfl, hK⟩
noncomputable def t16 : R := let x0 : T := .o1 .len (.var 6); let x2 : T := .o2 (.add .i64) (.var 11) (.int .i64 1); let x3 : T := .lcons (.var 1) (.lcons (.var 2) .lnil); let x4 : T := .o2 .le x0 (.int .i64 140737488355328); let x5 : T := .o2 .ne (.var 7) (.int .i64 0); let x6 : T := .o2 .ne (.var 9) (.int .i64 0); let x7 : T := .o1 (.conv .i64) (.var 4); let x8 : T := .o2 .ne (.var 16) (.int .i64 0); let x9 : T := .o2 .gt (.var 4) (.int .u8 0); let x1 : T := .o2 .band (.o1 .not (.ite (.ite x5 (.bool true) x6) (.bool true) (.o2 .gt x0 x7))) x9; .call none (.fn 48) [.lcons (.var 0) x3, .var 3] [.cell .bool] (.ite (.o1 .not (.var 5)) (.call none (.fn 40) [] [.cell .bool] (.ret [.d (.var 6)])) (.call none (.fn 41) [.lcons (.var 0) x3, .var 3, .o1 (.conv .i64) (.var 4)] [.cell (.slice [.str]), .cell (.int .i64)] (.call none (.fn 46) [.lcons (.var 0) x3, .var 3] [.cell (.slice [.str]), .cell (.int .i64)] (.fact (.ite (.o1 .not (.ite x5 (.bool true) x6)) x4 (.bool true)) (.fact (.ite x1 x4 (.bool true)) (.need (.ite (.o2 .band x1 (.o1 .not (.o2 .eq x0 (.int .i64 0)))) (.o2 .lt (.int .i64 0) x0) (.bool true)) (.ite (.ite (.ite (.ite x5 (.bool true) x6) (.bool true) (.o2 .gt x0 x7)) (.bool true) (.ite x9 (.ite (.o2 .eq x0 (.int .i64 0)) (.bool true) (.o2 .ne (.idx (.var 6) (.int .i64 0) 0 .str) (.var 3))) (.bool false))) (.ret [.d (.bool false)]) (.fact x4 (.loop 0 [.nils, .int .i64 0] [.slice [.str, .int .i64], .int .i64] (.ite (.o2 .lt (.var 11) x0) (.need (.o2 .le (.int .i64 0) (.var 11)) (.call none (.fn 53) [.var 8, .idx (.var 6) (.var 11) 0 .str] [.cell .bool] (.ite (.o1 .not (.var 12)) (.ret [.d (.bool false)]) (.call none (.fn 63) [.lcons (.var 0) x3, .idx (.var 6) (.var 11) 0 .str, .var 10] [.cell .str, .cell (.slice [.str, .int .i64]), .cell .bool, .cell (.int .i64)] (.call (some (.o1 .not x8)) (.fn 60) [.var 14] [.cell (.int .i64)] (.ite (.ite x8 (.bool true) (.o2 .ne (.var 17) (.int .i64 0))) (.ret [.d (.bool false)]) (.need (.ite (.o2 .band (.o2 .lt x2 x0) (.o1 .not (.o1 .not (.var 15)))) (.o2 .le (.int .i64 0) x2) (.bool true)) (.ite (.ite (.ite (.o2 .lt x2 x0) (.ite (.o1 .not (.var 15)) (.bool true) (.o2 .ne (.var 13) (.idx (.var 6) x2 0 .str))) (.bool false)) (.bool true) (.ite (.ite (.o2 .eq x2 x0) (.o2 .lt x0 x7) (.bool false)) (.var 15) (.bool false))) (.ret [.d (.bool false)]) (.again 0 [.var 14, .o2 (.add .i64) (.var 11) (.int .i64 1)]))))))))) (.fact (.o2 .le (.o1 .len (.var 2)) (.int .i64 140737488355328)) (.loop 1 [.int .i64 0] [.int .i64] (.ite (.o2 .lt (.var 12) (.o1 .len (.var 2))) (.need (.o2 .le (.int .i64 0) (.var 12)) (.call none (.fn 58) [.var 10, .idx (.var 2) (.var 12) 0 .str] [.cell (.int .i64), .cell (.int .i64)] (.ite (.ite (.o2 .ne (.var 14) (.int .i64 0)) (.bool true) (.o2 .gt (.var 13) (.idx (.var 2) (.var 12) 8 (.int .i64)))) (.ret [.d (.bool false)]) (.again 1 [.o2 (.add .i64) (.var 12) (.int .i64 1)])))) (.call none (.fn 40) [] [.cell .bool] (.ret [.d (.var 13)])))))))))))))))
theorem t16_ok : fnO Tryz.prog mdA 16 [.agg [.int .i64, .int .i64, .slice [.str, .str, .slice [.int .i64, .int .i64, .int .i64, .int .i64, .int .i64], .slice [.int .i64, .int .i64, .int .i64, .int .i64, .int .i64, .int .i64], .bool, .bool, .int .i64, .str, .int .i64]], .cell .str, .cell (.int .u8)] = t16 := by kernel_rfl
theorem c16 : callable Tryz.prog 16 = true := by kernel_rfl
theorem cue18_num {l : Lis} {a : Nat} (hR : RightW l.cues) (hc : checkL order05 l = 0) (ha : a < l.cues.length) : cue18 l (numA l.cues a) = 0 ∧ place l.cues (numA l.cues a) = a := by
 have hp : place l.cues (numA l.cues a) = a := by rw [numA_at ha]; exact place_num hR.rising ha
 have hn : check05 (numA l.cues a) = 0 := by rw [numA_at ha]; exact hR.num _ (List.getElem_mem ha)
 refine ⟨?_, hp⟩
 unfold cue18 numbered18
 rw [if_neg (by simp [hc]), if_neg (by simp [hn]), if_neg (by omega)]
theorem nextF_at {l : Lis} {w : Wk} (hR : RightW l.cues) (hc : checkL order05 l = 0) (hw : Good l.cues w) :
   nextF l (numA l.cues w.a) w.k = match stepW l.cues ⟨w.a, w.k, 0⟩ with
     | some v => (numA l.cues v.a, v.k, true, 0)
     | none => ([], w.k, false, 0) := by
 obtain ⟨h1, h2⟩ := cue18_num hR hc hw.at_
 have h3 := checkN_of (hw.rightC hR)
 unfold nextF
 rw [if_neg (by simp [h1]), if_neg (by simp [h3]), h2, Int.toNat_natCast]
 cases stepW l.cues ⟨w.a, w.k, 0⟩ <;> rfl
theorem law16f_typed : Contract Tryz.prog 16 fun args K => ∃ (l : Lis) (s : List UInt8) (n : Nat), l.Ok ∧ n ≤ 255 ∧ args = [.agg l.enc, .str s, .int .u8 n] ∧ K [.d (.bool true)] := by
 refine .of c16 t16_ok ?_
 rintro _ K ⟨l, s, n, hl, hn, rfl, hK⟩ hsm
 have hu8 : HasK (.int .u8) (.int .u8 (n : Nat)) := ⟨rfl, by show (0 : Int) ≤ n; omega, by show (n : Int) ≤ 255; omega⟩
 refine ⟨l.enc ++ [.str s, .int .u8 n], rfl, by exact has_li hl ⟨trivial, hu8, trivial⟩, ?_⟩
 refine denR_call good22_ok ⟨l, s, hl, by simp only [zz, reduceCtorEq, Lis.enc], fun b hb => ⟨[.bool b], rfl, ?_⟩⟩
 cases b with
 | false =>
   refine denR_iteT (by simp only [zz, reduceCtorEq, Lis.enc]) ?_
   refine denR_call awake22_ok ⟨rfl, _, rfl, ?_⟩
   simp only [zz, reduceCtorEq, Lis.enc]
   exact hK
 | true =>
 refine denR_iteF (by simp only [zz, reduceCtorEq, Lis.enc]) ?_
 have h := hb rfl
 obtain ⟨a, hS⟩ := cue18_start hl h
 have hR := hS.right
 have hcl := hR.len
 have ha := hS.lt
 have hw := Good.start (cs := l.cues) ha
 have hwn : wr64 (n : Int) = (n : Int) := by rw [wr64_eq] <;> omega
 have e2 : pathR l s n = (pathL l.cues n ⟨a, [], 0⟩, 0) := by unfold pathR; rw [if_neg (by simp [h]), if_neg (by omega), hS.st, Int.toNat_natCast]
 have e3 : reachR l s = (reachL l.cues ⟨a, [], 0⟩, 0) := by unfold reachR; rw [if_neg (by simp [h]), hS.st]
 refine denR_call fpath_ok ⟨l, s, n, hl, ⟨by omega, by omega⟩, by simp only [zz, reduceCtorEq, Lis.enc, hwn], fun rvs hr => ?_⟩
 rw [e2] at hr
 refine ⟨[.slice (txts (pathL l.cues n ⟨a, [], 0⟩)), .int .i64 0], by rcases hr with rfl | rfl <;> rfl, ?_⟩
 refine denR_call freached_ok ⟨l, s, hl, by simp only [zz, reduceCtorEq, Lis.enc], fun rvs hr => ?_⟩
 rw [e3] at hr
 refine ⟨[.slice (txts (reachL l.cues ⟨a, [], 0⟩)), .int .i64 0], by rcases hr with rfl | rfl <;> rfl, ?_⟩
 have hpl := pathL_len l.cues n ⟨a, [], 0⟩
 have hle : (pathL l.cues n ⟨a, [], 0⟩).length ≤ n := by rw [hpl]; exact walk_len _ _ _
 have hpos : 0 < n → 0 < (pathL l.cues n ⟨a, [], 0⟩).length ∧ (txts (pathL l.cues n ⟨a, [], 0⟩)).getD 0 [] = [.str s] := fun h0 => by
   obtain ⟨m, rfl⟩ : ∃ m, n = m + 1 := ⟨n - 1, by omega⟩
   have hsn : numA l.cues a = s := by rw [numA_at ha, hS.at_]
   refine ⟨by rw [hpl]; simp [walk], ?_⟩
   simp [pathL, walk, txts, hsn]
 have hget : ∀ i (hi : i < (pathL l.cues n ⟨a, [], 0⟩).length), ∃ w, trW l.cues i ⟨a, [], 0⟩ = some w ∧ (pathL l.cues n ⟨a, [], 0⟩)[i] = numA l.cues w.a ∧ numA l.cues w.a ∈ reachL l.cues ⟨a, [], 0⟩ ∧ Good l.cues w := fun i hi => by
   have hi2 : i < (walk l.cues n ⟨a, [], 0⟩).length := by omega
   have h1 := walk_get l.cues n i ⟨a, [], 0⟩
   rw [List.getElem?_eq_getElem hi2, if_pos (by have := walk_len l.cues n ⟨a, [], 0⟩; omega)] at h1
   have hm := List.getElem_mem hi2
   exact ⟨_, h1.symm, by simp [pathL], walk_reach hR hw hm, walk_good hR hw _ hm⟩
 have hend : ∀ i w, trW l.cues i ⟨a, [], 0⟩ = some w → i + 1 = (pathL l.cues n ⟨a, [], 0⟩).length → (pathL l.cues n ⟨a, [], 0⟩).length < n → stepW l.cues w = none := fun i w ht hi hlt => by
   cases hs : stepW l.cues w with
   | none => rfl
   | some v =>
     have h2 : trW l.cues (i + 1) ⟨a, [], 0⟩ = some v := by rw [trW_succ, ht]; exact hs
     have h1 := walk_get l.cues n (i + 1) ⟨a, [], 0⟩
     rw [h2, if_pos (by omega)] at h1
     have := (List.getElem?_eq_some_iff.1 h1).1
     omega
 generalize pathL l.cues n ⟨a, [], 0⟩ = P at *
 have hPl : (txts P).length = P.length := txts_len P
 have hcond : ¬ (P.length > n) := by omega
 simp only [zz, reduceCtorEq, Lis.enc, hPl, hwn]
 refine fun hcap _ => ⟨?_, fun hbad => ?_, fun _ _ => ?_⟩
 · split
   · rename_i hh
     have := hh.2
     simp only [decide_eq_true_eq]
     omega
   · rfl
 · exfalso
   rcases hbad with h1 | ⟨h1, h2⟩
   · omega
   · obtain ⟨p0, g0⟩ := hpos h1
     rcases h2 with h2 | h2
     · omega
     · rw [g0] at h2; simp [D.eqb] at h2
 refine loop_goI P (fun _ _ (_ : List Cnt) => ()) (fun i k => [.slice (k.map Cnt.enc), .int .i64 i]) (fun i k => ∃ w, Good l.cues w ∧ k = w.k ∧ (i < P.length → trW l.cues i ⟨a, [], 0⟩ = some w)) [] () rfl ⟨⟨a, [], 0⟩, hw, rfl, fun _ => rfl⟩ 1 (fun _ _ => rfl) rfl ?_ ?_
 · rintro i hi _ ⟨w, hg, rfl, hti⟩ _
   have ht := hti hi
   obtain ⟨w', ht', hPi, hre, _⟩ := hget i hi
   obtain rfl : w = w' := Option.some.inj (ht.symm.trans ht')
   have hG := goodW_of hR hg
   have hC := hg.rightC hR
   have hgi : (txts P).getD i [] = [.str (numA l.cues w.a)] := by
     rw [← hPi]; exact getD_map (enc := fun s => [D.str s]) hi
   simp only [zz, reduceCtorEq, Lis.enc, hPl, hi, hgi]
   refine ⟨by omega, denR_call containsS_ok ⟨reachL l.cues ⟨a, [], 0⟩, numA l.cues w.a, by simp only [zz, reduceCtorEq, hgi], _, rfl, ?_⟩⟩
   rw [decide_eq_true hre]
   refine denR_iteF (by simp only [zz, reduceCtorEq]) ?_
   refine denR_call fnext_ok ⟨l, numA l.cues w.a, w.k, hl, hG.ok, by simp only [zz, reduceCtorEq, Lis.enc, hgi], ?_⟩
   rw [nextF_at hR hS.chk hg]
   have hsg : stepW l.cues w = (stepW l.cues ⟨w.a, w.k, 0⟩).map fun v => ⟨v.a, v.k, v.g + w.g⟩ := stepW_g w.g
   have hwi : wr64 ((i : Int) + 1) = ((i + 1 : Nat) : Int) := by rw [wr64_eq] <;> omega
   cases hs : stepW l.cues ⟨w.a, w.k, 0⟩ with
   | some v =>
     rw [hs] at hsg
     have hgv := (hg.step hR hsg).1
     have hGv := goodW_of hR hgv
     have hCv := checkN_of (hgv.rightC hR)
     have hti1 : trW l.cues (i + 1) ⟨a, [], 0⟩ = some ⟨v.a, v.k, v.g + w.g⟩ := by rw [trW_succ, ht]; exact hsg
     refine ⟨_, rfl, ?_⟩
     refine denR_gcall nchkC_ok true [.int .i64 0] (by simp only [zz, reduceCtorEq]) (fun _ => ⟨v.k, hGv.ok, by simp only [zz, reduceCtorEq], by rw [hCv]; rfl⟩) (fun h => by cases h) ?_
     have hnx : ∀ (h1 : i + 1 < P.length), (txts P).getD (i + 1) [] = [.str (numA l.cues v.a)] := fun h1 => by
       obtain ⟨u, hu, hPu, _⟩ := hget (i + 1) h1
       obtain rfl := Option.some.inj (hti1.symm.trans hu)
       exact (getD_map (enc := fun s => [D.str s]) h1).trans (by rw [hPu])
     have hno : ¬ (i + 1 = P.length ∧ P.length < n) := fun ⟨h1, h2⟩ => by
       have := hend i w ht h1 h2
       rw [this] at hsg; cases hsg
     simp only [zz, reduceCtorEq, Lis.enc, hPl, hwi, hwn]
     refine ⟨by split <;> simp <;> omega, fun h => ?_, fun _ => ⟨v.k, rfl, ⟨v.a, v.k, v.g + w.g⟩, hgv, rfl, fun _ => hti1⟩⟩
     rcases h with ⟨h1, h2⟩ | h
     · rw [hnx h1] at h2; simp [D.eqb] at h2
     · exact absurd ⟨by omega, h.2⟩ hno
   | none =>
     rw [hs] at hsg
     have hCv := checkN_of hC
     refine ⟨_, rfl, ?_⟩
     refine denR_gcall nchkC_ok true [.int .i64 0] (by simp only [zz, reduceCtorEq]) (fun _ => ⟨w.k, hG.ok, by simp only [zz, reduceCtorEq], by rw [hCv]; rfl⟩) (fun h => by cases h) ?_
     have hno : ¬ (i + 1 < P.length) := fun h1 => by
       obtain ⟨u, hu, _⟩ := hget (i + 1) h1
       rw [trW_succ, ht] at hu
       rw [show (some w).bind (stepW l.cues) = stepW l.cues w from rfl, hsg] at hu
       cases hu
     simp only [zz, reduceCtorEq, Lis.enc, hPl, hwi, hwn]
     refine ⟨by split <;> simp <;> omega, fun h => ?_, fun _ => ⟨w.k, rfl, w, hg, rfl, fun h1 => absurd h1 hno⟩⟩
     rcases h with h1 | h2
     · exact absurd h1 hno
     · exact h2.2.elim
 · rintro _ ⟨w, hg, rfl, _⟩ _
   have hG := goodW_of hR hg
   have hC := hg.rightC hR
   simp only [zz, reduceCtorEq, Lis.enc, hPl, List.length_map]
   intro _
   refine loop_go l.cues (fun _ _ (_ : Unit) => ()) (fun i _ => [.int .i64 i]) () () rfl 0 (fun _ _ => rfl) rfl ?_ ?_
   · intro i hi _ _
     have hcnt := cnt_le hR hg _ (List.getElem_mem hi)
     have hof : ofR w.k (l.cues[i]).num = (cnt w.k (l.cues[i]).num, 0) := by
       unfold ofR
       rw [if_neg (by simp [checkN_of hC]), if_neg (by simp [hR.num _ (List.getElem_mem hi)])]
     simp only [zz, reduceCtorEq, Lis.enc, hi, List.length_map, getD_map hi, Cue.enc]
     refine ⟨by omega, denR_call fof_ok ⟨w.k, (l.cues[i]).num, hG.ok, by simp only [zz, reduceCtorEq, getD_map hi, Cue.enc], _, rfl, ?_⟩⟩
     rw [hof]
     simp only [zz, reduceCtorEq, getD_map hi, Cue.enc]
     exact ⟨fun h => by omega, fun _ => ⟨(), by rw [wr64_eq] <;> omega⟩⟩
   · intro _ _
     simp only [zz, reduceCtorEq, Lis.enc, List.length_map]
     refine denR_call awake22_ok ⟨rfl, _, rfl, ?_⟩
     simp only [zz, reduceCtorEq, Lis.enc]
     exact hK
theorem u8n_of {d : D} (h : HasK (.int .u8) d) : ∃ n : Nat, n ≤ 255 ∧ d = .int .u8 (n : Nat) := by
 cases d <;> simp only [HasK] at h
 rename_i k n
 obtain ⟨rfl, h1, h2⟩ := h
 have h1 : (0 : Int) ≤ n := h1
 have h2 : n ≤ 255 := h2
 exact ⟨n.toNat, by omega, by congr 1; omega⟩
theorem law16f : Contract Tryz.prog 16 (LawSpec Tryz.prog 16) :=
 law16f_typed.weaken fun args K _ h => by
   obtain ⟨h1, h2, hK⟩ := lawArgs [.agg liKs, .cell .str, .cell (.int .u8)] (by kernel_rfl) h
   match args, h1 with
   | [a, b, c], _ =>
     obtain ⟨l, hl, rfl⟩ := Lis.ofAgg (h2 0 _ _ rfl rfl)
     obtain ⟨s, rfl⟩ := str_of (h2 1 _ _ rfl rfl)
     obtain ⟨n, hn, rfl⟩ := u8n_of (h2 2 _ _ rfl rfl)
     exact ⟨l, s, n, hl, hn, rfl, hK⟩
end Go.Sx.La
open Go Go.Proofs Go.RowKit
namespace Go.Sx
theorem cells_one1 {u : Value} (h : u.oneCell' = true) : u.cells = #[u] := by
 cases u <;> simp [Value.oneCell'] at h <;> rfl
set_option maxHeartbeats 4000000 in
theorem withWalk (x0 x1 x2 v : Value) (w : World) (h0 : x0.oneCell' = true) (h1 : x1.oneCell' = true) (h2 : v.oneCell' = true) :
   Calls Tryz.prog 34 #[.agg #[x0, x1, x2], v] w fun e w' => e = .returned (.agg #[x0, x1, v]) ∧ BelowD w.heap.size w w' := by
 have s0 : ∀ (W : World) (a : Addr) (m : Go.Mode), (store a x0 m).run Tryz.prog W = stored Tryz.prog W a x0 m := fun W a m => run_store _ W a x0 m h0
 have s1 : ∀ (W : World) (a : Addr) (m : Go.Mode), (store a x1 m).run Tryz.prog W = stored Tryz.prog W a x1 m := fun W a m => run_store _ W a x1 m h1
 have s2 : ∀ (W : World) (a : Addr) (m : Go.Mode), (store a v m).run Tryz.prog W = stored Tryz.prog W a v m := fun W a m => run_store _ W a v m h2
 have c0 := cells_one1 h0
 have c1 := cells_one1 h1
 have c2 := cells_one1 h2
 clear h0 h1 h2
 unfold Value.cells at c0 c1 c2
 go_enter Tryz.func34, Tryz.ntmps34
 go_wp2
 have hd : (Tryz.prog.underlying 24).any (fun d => match d with | .struct _ | .array _ _ => true | _ => false) = true := by kernel_rfl
 cases hu : Tryz.prog.underlying 24 with
 | none => rw [hu] at hd; cases hd
 | some d =>
 rw [hu] at hd
 refine bodyPost_ret (results_cell_row rfl _ _ (w.heap.size + 1) 24 #[x0, x1, v] (0, 0) d rfl (heap_alloc2_new w _ _) hu (by cases d <;> first | rfl | (simp at hd)) (by kernel_rfl)) rfl ?_
 refine ⟨rfl, ?_, Nat.le_refl _⟩
 refine ((Below.refl w.heap.size w).alloc (Nat.le_refl _) _).alloc ?_ _
 exact ((Below.refl w.heap.size w).alloc (Nat.le_refl _) _).size
theorem withMix : MixC Tryz.prog 34 [3, 0] [(0, some 0), (0, some 1), (1, none)] := by
 refine ⟨by kernel_rfl, fun vs us w hl hs hm h1 => ?_⟩
 match vs, hl with
 | [a, v], _ =>
 obtain ⟨arr, rfl, hsz⟩ := hs 0 3 a rfl (by decide) rfl
 obtain ⟨l⟩ := arr
 match l, hsz with
 | [x0, x1, x2], _ =>
 simp only [mixL, mix1, aggV, List.getElem?_cons_zero, List.getElem?_cons_succ, Option.bind_some, Option.some.injEq] at hm
 subst hm
 exact withWalk x0 x1 x2 v w (h1 _ (by simp)) (h1 _ (by simp)) (h1 _ (by simp))
end Go.Sx
namespace Go.Sx.La
open Go Go.Sx Go.RowKit Go.Proofs
def mdM : Go.Sx.Mode := { mdA with x := (34, [], false) :: mdA.x, mix := [(34, [3, 0], [(0, some 0), (0, some 1), (1, none)])] }
noncomputable def t10 : R := let x0 : List K := [.str, .str, .slice [.int .i64, .int .i64, .int .i64, .int .i64, .int .i64], .slice [.int .i64, .int .i64, .int .i64, .int .i64, .int .i64, .int .i64], .bool, .bool, .int .i64, .str, .int .i64]; let x1 : T := .o2 .eq (.o2 (.add .i64) (.o2 (.add .i64) (.var 11) (.var 13)) (.var 15)) (.int .i64 0); let x2 : T := .lcons (.var 1) (.lcons (.var 9) .lnil); let x3 : T := .o2 .eq (.o2 (.add .i64) (.o2 (.add .i64) (.var 10) (.var 12)) (.var 14)) (.int .i64 0); let x4 : T := .lcons (.var 1) (.lcons (.var 8) .lnil); let x5 : T := .upd (.var 9) (.var 8) 7 (.lcons (.str []) .lnil); let x6 : T := .o1 .not (.var 12); let x8 : T := .o1 .not (.var 11); let x9 : T := .lcons (.int .i64 0) .lnil; let x10 : T := .o1 .len (.var 6); let x11 : T := .upd (.var 8) (.var 7) 7 (.lcons (.str []) .lnil); let x12 : T := .o2 .lt (.var 8) (.o1 .len (.var 9)); let x13 : T := .o2 .le (.int .i64 0) (.var 8); let x14 : T := .o2 .lt (.var 8) (.o1 .len x5); let x7 : T := .o2 .le x10 (.int .i64 140737488355328); .call none (.fn 48) [.lcons (.var 0) (.lcons (.var 1) (.lcons (.var 2) .lnil)), .var 3] [.cell .bool] (.ite (.o1 .not (.var 4)) (.call none (.fn 40) [] [.cell .bool] (.ret [.d (.var 5)])) (.guess (.bool true) (.ite (.var 5) (.call none (.fn 35) [.var 2] [.own x0] (.guess (.bool true) (.ite (.var 7) (.mix 34 [3, 0] [(0, some 0), (0, some 1), (1, none)] (.fact x7 (.loop 0 [.int .i64 0, .var 6] [.int .i64, .slice x0] (.ite (.o2 .lt (.var 8) x10) (.need x13 (.need x12 (.need x14 (.again 0 [.o2 (.add .i64) (.var 8) (.int .i64 1), .upd x5 (.var 8) 8 x9])))) (.call none (.fn 41) [.lcons (.var 0) x2, .var 3, .int .i64 256] [.cell (.slice [.str]), .cell (.int .i64)] (.call none (.fn 44) [.lcons (.var 0) x2, .var 3] [.cell .bool, .cell (.int .i64)] (.call none (.fn 46) [.lcons (.var 0) x2, .var 3] [.cell (.slice [.str]), .cell (.int .i64)] (.call none (.fn 50) [.lcons (.var 0) x2, .var 3] [.cell (.int .i64)] (.call none (.fn 49) [.lcons (.var 0) x2, .var 16] [.cell (.slice [.str])] (.call (some (.ite x1 x6 (.bool false))) (.fn 43) [.var 10, .var 17] [.cell .bool] (.call (some (.ite (.ite x1 x6 (.bool false)) (.var 18) (.bool false))) (.fn 43) [.var 14, .var 17] [.cell .bool] (.call (some (.ite (.ite (.ite x1 x6 (.bool false)) (.var 18) (.bool false)) (.var 19) (.bool false))) (.fn 40) [] [.cell .bool] (.ret [.d (.ite (.ite (.ite (.ite x1 x6 (.bool false)) (.var 18) (.bool false)) (.var 19) (.bool false)) (.var 20) (.bool false))]))))))))))))) (.mix 34 [3, 0] [(0, some 0), (0, some 1), (1, none)] (.fact x7 (.loop 0 [.int .i64 0, .var 6] [.int .i64, .slice x0] (.ite (.o2 .lt (.var 8) x10) (.need x13 (.need x12 (.need x14 (.again 0 [.o2 (.add .i64) (.var 8) (.int .i64 1), .upd x5 (.var 8) 8 x9])))) (.call none (.fn 41) [.lcons (.var 0) x2, .var 3, .int .i64 256] [.cell (.slice [.str]), .cell (.int .i64)] (.call none (.fn 44) [.lcons (.var 0) x2, .var 3] [.cell .bool, .cell (.int .i64)] (.call none (.fn 46) [.lcons (.var 0) x2, .var 3] [.cell (.slice [.str]), .cell (.int .i64)] (.call none (.fn 50) [.lcons (.var 0) x2, .var 3] [.cell (.int .i64)] (.call none (.fn 49) [.lcons (.var 0) x2, .var 16] [.cell (.slice [.str])] (.call (some (.ite x1 x6 (.bool false))) (.fn 43) [.var 10, .var 17] [.cell .bool] (.call (some (.ite (.ite x1 x6 (.bool false)) (.var 18) (.bool false))) (.fn 43) [.var 14, .var 17] [.cell .bool] (.call (some (.ite (.ite (.ite x1 x6 (.bool false)) (.var 18) (.bool false)) (.var 19) (.bool false))) (.fn 40) [] [.cell .bool] (.ret [.d (.ite (.ite (.ite (.ite x1 x6 (.bool false)) (.var 18) (.bool false)) (.var 19) (.bool false)) (.var 20) (.bool false))])))))))))))))))) (.call none (.fn 35) [.var 2] [.own x0] (.mix 34 [3, 0] [(0, some 0), (0, some 1), (1, none)] (.fact x7 (.loop 0 [.int .i64 0, .var 6] [.int .i64, .slice x0] (.ite (.o2 .lt (.var 7) x10) (.need (.o2 .le (.int .i64 0) (.var 7)) (.need (.o2 .lt (.var 7) (.o1 .len (.var 8))) (.need (.o2 .lt (.var 7) (.o1 .len x11)) (.again 0 [.o2 (.add .i64) (.var 7) (.int .i64 1), .upd x11 (.var 7) 8 x9])))) (.call none (.fn 41) [.lcons (.var 0) x4, .var 3, .int .i64 256] [.cell (.slice [.str]), .cell (.int .i64)] (.call none (.fn 44) [.lcons (.var 0) x4, .var 3] [.cell .bool, .cell (.int .i64)] (.call none (.fn 46) [.lcons (.var 0) x4, .var 3] [.cell (.slice [.str]), .cell (.int .i64)] (.call none (.fn 50) [.lcons (.var 0) x4, .var 3] [.cell (.int .i64)] (.call none (.fn 49) [.lcons (.var 0) x4, .var 15] [.cell (.slice [.str])] (.call (some (.ite x3 x8 (.bool false))) (.fn 43) [.var 9, .var 16] [.cell .bool] (.call (some (.ite (.ite x3 x8 (.bool false)) (.var 17) (.bool false))) (.fn 43) [.var 13, .var 16] [.cell .bool] (.call (some (.ite (.ite (.ite x3 x8 (.bool false)) (.var 17) (.bool false)) (.var 18) (.bool false))) (.fn 40) [] [.cell .bool] (.ret [.d (.ite (.ite (.ite (.ite x3 x8 (.bool false)) (.var 17) (.bool false)) (.var 18) (.bool false)) (.var 19) (.bool false))])))))))))))))))))
theorem t10_ok : fnO Tryz.prog mdM 10 [.agg [.int .i64, .int .i64, .slice [.str, .str, .slice [.int .i64, .int .i64, .int .i64, .int .i64, .int .i64], .slice [.int .i64, .int .i64, .int .i64, .int .i64, .int .i64, .int .i64], .bool, .bool, .int .i64, .str, .int .i64]], .cell .str] = t10 := by kernel_rfl
theorem c10 : callable Tryz.prog 10 = true := by kernel_rfl
theorem numbers22_ok : Contract Tryz.prog 49 fun args K => ∃ (l : Lis) (a : Nat), l.Ok ∧ a ≤ l.cues.length ∧ l.cues.length ≤ 1000 ∧ args = [.agg l.enc, .int .i64 a] ∧ K [.own 1 (txts ((l.cues.drop a).map (·.num)))] := by
 refine .of c49 t49_ok ?_
 rintro _ K ⟨l, a, hl, ha, hlen, rfl, hK⟩ hsm
 refine ⟨l.enc ++ [.int .i64 a], rfl, by exact has_li hl (i64_one ⟨by omega, by omega⟩), ?_⟩
 have hsub : ((l.cues.map Cue.enc).take l.cues.length).drop a = (l.cues.drop a).map Cue.enc := by
   rw [List.take_of_length_le (by simp), List.map_drop]
 simp only [zz, reduceCtorEq, t49, Lis.enc, List.length_map, hsub, Int.toNat_natCast, List.length_drop]
 refine ⟨by omega, by omega, fun _ => ?_⟩
 have hdl : (l.cues.drop a).length = l.cues.length - a := List.length_drop ..
 generalize l.cues.drop a = X at *
 refine loop_goI X (fun _ l' (acc : List (List UInt8)) => acc ++ l'.map (·.num)) (fun i acc => [.slice (txts acc), .int .i64 i]) (fun i acc => acc.length = i) [] (X.map (·.num)) rfl rfl 1 (fun _ _ => rfl) rfl ?_ ?_
 · intro i hi acc hI hgo
   have hi2 : i < l.cues.length - a := by omega
   simp only [zz, reduceCtorEq, Lis.enc, hsub, hi, hi2, hdl, List.length_map, getD_map hi, Cue.enc, List.length_append, txts_len, List.length_cons, List.length_nil]
   refine ⟨by omega, by simp; omega, acc ++ [X[i].num], ⟨by simp [txts], by rw [wr64_eq] <;> omega⟩, by simp [hI], by rw [← hgo]; simp only [List.map_cons, List.append_assoc, List.singleton_append]⟩
 · intro acc hI hgo
   simp only [List.map_nil, List.append_nil] at hgo
   simp only [zz, reduceCtorEq, Lis.enc, hsub, hdl, List.length_map]
   rw [hgo]
   exact hK
theorem cloneF_ok : Contract Tryz.prog 35 fun args K => ∃ (cs : List Cue), (∀ c ∈ cs, c.Ok) ∧ cs.length ≤ 1000000 ∧ args = [.slice (cs.map Cue.enc)] ∧ K [.own 9 (cs.map Cue.enc)] := by
 refine .of c35 t35_ok ?_
 rintro _ K ⟨cs, hcs, hlen, rfl, hK⟩ hsm
 refine ⟨[.slice (cs.map Cue.enc)], rfl, ⟨cues_has hcs, trivial⟩, ?_⟩
 unfold t35
 simp only [denR]
 intro b hb
 simp only [zz, reduceCtorEq, List.length_map]
 cases b with
 | true =>
   have := hb rfl
   simp only [zz, reduceCtorEq, List.length_map] at this
   have hc0 : cs = [] := List.length_eq_zero_iff.1 (by omega)
   subst hc0
   exact ⟨fun _ => hK, fun h => by simp at h⟩
 | false => exact ⟨fun h => by simp at h, fun _ => ⟨by omega, hK⟩⟩
def unlink (c : Cue) : Cue := { c with link := [], loops := 0 }
def halfU (cs : List Cue) (i : Nat) : List Cue := (cs.take i).map unlink ++ cs.drop i
theorem halfU_zero (cs : List Cue) : halfU cs 0 = cs := by simp [halfU]
theorem halfU_all (cs : List Cue) : halfU cs cs.length = cs.map unlink := by simp [halfU]
theorem halfU_len (cs : List Cue) (i : Nat) : (halfU cs i).length = cs.length := by simp [halfU]; omega
theorem halfU_succ {cs : List Cue} {i : Nat} (hi : i < cs.length) :
   (((halfU cs i).map Cue.enc).modify i fun x => setCells x 7 [.str []]).modify i (fun x => setCells x 8 [.int .i64 0]) = (halfU cs (i + 1)).map Cue.enc := by
 have hl : ((cs.take i).map unlink).length = i := by simp; omega
 apply List.ext_getElem?
 intro q
 rw [List.getElem?_modify, List.getElem?_modify, List.getElem?_map, List.getElem?_map]
 have hq : ∀ j, (halfU cs j)[q]? = if q < j then (cs[q]?).map unlink else cs[q]? := fun j => by
   have hlen : ((cs.take j).map unlink).length = min j cs.length := by simp
   unfold halfU
   by_cases h1 : q < j
   · rw [if_pos h1]
     by_cases h2 : q < cs.length
     · rw [List.getElem?_append_left (by omega), List.getElem?_map, List.getElem?_take, if_pos h1]
     · rw [List.getElem?_eq_none (by rw [List.length_append, hlen, List.length_drop]; omega), List.getElem?_eq_none (by omega)]; rfl
   · rw [if_neg h1]
     by_cases h2 : j ≤ cs.length
     · rw [List.getElem?_append_right (by omega), hlen, List.getElem?_drop]; congr 1; omega
     · rw [List.getElem?_eq_none (by rw [List.length_append, hlen, List.length_drop]; omega), List.getElem?_eq_none (by omega)]
 rw [hq, hq]
 by_cases h : i = q
 · subst h
   simp [hi, setCells, Cue.enc, unlink]
 · have e : (q < i) = (q < i + 1) := by apply propext; omega
   simp only [h, if_false, e]
   simp
theorem idx_unlink (s : List UInt8) : ∀ (cs : List Cue) (i : Nat), idxGo (fun c : Cue => c.num == s) i (cs.map unlink) = idxGo (fun c : Cue => c.num == s) i cs
 | [], _ => rfl
 | c :: cs, i => by
   simp only [List.map_cons, idxGo, idx_unlink s cs]
   rfl
theorem place_unlink (cs : List Cue) (s : List UInt8) : place (cs.map unlink) s = place cs s := idx_unlink s cs 0
theorem check16_unlink {c : Cue} (h : check16 c = 0) : check16 (unlink c) = 0 := by
 simp only [check16] at h
 split at h
 · rename_i h1; exact absurd h h1
 rename_i a1
 split at h
 · rename_i h1; exact absurd h h1
 rename_i a2
 split at h
 · rename_i h1; exact absurd h h1
 rename_i a3
 split at h
 · rename_i h1; exact absurd h h1
 rename_i a4
 split at h
 · cases h
 rename_i a5
 have e : check16 (unlink c) = (if check05 c.num ≠ 0 then check05 c.num else if label16 c.label ≠ 0 then label16 c.label else if moves16 c.moves ≠ 0 then moves16 c.moves else if parts16 c.parts ≠ 0 then parts16 c.parts else if partIn c.parts.length c.moves = false then 6 else next16 (unlink c)) := rfl
 rw [e, if_neg a1, if_neg a2, if_neg a3, if_neg a4, if_neg a5]
 unfold next16 at h
 split at h
 · cases h
 rename_i b1
 have e2 : next16 (unlink c) = (if c.follow ≠ -1 ∧ (c.follow < 25 ∨ 10000000 < c.follow) then 2 else if ([] : List UInt8) ≠ [] ∧ check05 [] ≠ 0 then check05 [] else if (0 : Int) < 0 ∨ (100 : Int) < 0 then 2 else if (0 : Int) < 0 ∧ ([] : List UInt8) = [] then 11 else 0) := rfl
 rw [e2, if_neg b1, if_neg (by simp), if_neg (by simp), if_neg (by simp)]
theorem num_unlink (xs : List Cue) (j : Nat) : ((xs.map unlink)[j]!).num = (xs[j]!).num := by
 rcases Nat.lt_or_ge j xs.length with h | h
 · rw [getElem!_pos _ j (by simpa using h), getElem!_pos _ j h, List.getElem_map]; rfl
 · rw [getElem!_neg _ j (by simpa using h), getElem!_neg _ j (by simpa using h)]
theorem cuesGo_unlink {xs : List Cue} : ∀ (cs : List Cue) (i : Nat), cuesGo order05 xs i cs = 0 → cuesGo order05 (xs.map unlink) i (cs.map unlink) = 0
 | [], _, _ => rfl
 | c :: cs, i, h => by
   simp only [List.map_cons, cuesGo] at h ⊢
   split at h
   · rename_i h1; exact absurd h h1
   rename_i h1
   split at h
   · cases h
   rename_i h2
   rw [if_neg (by simpa using check16_unlink (by simpa using h1)), if_neg, cuesGo_unlink cs (i + 1) h]
   rw [num_unlink]
   exact h2
theorem checkL_unlink {l : Lis} (h : checkL order05 l = 0) : checkL order05 { l with cues := l.cues.map unlink } = 0 := by
 simp only [checkL] at h ⊢
 split at h
 · cases h
 rename_i h1
 split at h
 · cases h
 rename_i h2
 rw [if_neg h1, if_neg (by simpa using h2)]
 exact cuesGo_unlink l.cues 0 h
theorem unlink_Ok {c : Cue} (h : c.Ok) : (unlink c).Ok := ⟨h.moves, h.parts, h.follow, (show I64 0 from ⟨by decide, by decide⟩)⟩
theorem law10f_typed : Contract Tryz.prog 10 fun args K => ∃ (l : Lis) (s : List UInt8), l.Ok ∧ args = [.agg l.enc, .str s] ∧ K [.d (.bool true)] := by
 refine .of c10 t10_ok ?_
 rintro _ K ⟨l, s, hl, rfl, hK⟩ hsm
 refine ⟨l.enc ++ [.str s], rfl, by exact has_s hl, ?_⟩
 refine denR_call good22_ok ⟨l, s, hl, by simp only [zz, reduceCtorEq, Lis.enc], fun b hb => ⟨[.bool b], rfl, ?_⟩⟩
 cases b with
 | false =>
   refine denR_iteT (by simp only [zz, reduceCtorEq, Lis.enc]) ?_
   refine denR_call awake22_ok ⟨rfl, _, rfl, ?_⟩
   simp only [zz, reduceCtorEq, Lis.enc]
   exact hK
 | true =>
 refine denR_iteF (by simp only [zz, reduceCtorEq, Lis.enc]) ?_
 have h := hb rfl
 have hchk := cue18_chk h
 have hlen := (rightL_of hchk).len
 have hL : Lis.Ok { l with cues := l.cues.map unlink } := ⟨hl.num, hl.prio, fun c hc => by obtain ⟨d, hd, rfl⟩ := List.mem_map.1 hc; exact unlink_Ok (hl.cues d hd)⟩
 have hcueL : cue18 { l with cues := l.cues.map unlink } s = 0 := by
   have h1 := checkL_unlink hchk
   unfold cue18 at h ⊢
   rw [if_neg (by simp [hchk])] at h
   rw [if_neg (by simp [h1])]
   unfold numbered18 at h ⊢
   rw [place_unlink]
   exact h
 have hlk : ∀ c ∈ l.cues.map unlink, c.link = [] := fun c hc => by obtain ⟨d, hd, rfl⟩ := List.mem_map.1 hc; rfl
 obtain ⟨a, hS⟩ := cue18_start hL hcueL
 have hcl : (l.cues.map unlink).length = l.cues.length := by simp
 intro b1 _
 cases b1
 all_goals simp only [zz, reduceCtorEq, Lis.enc, List.length_map]
 all_goals refine denR_call cloneF_ok ⟨l.cues, hl.cues, by omega, by simp only [zz, reduceCtorEq, Lis.enc], _, rfl, ?_⟩
 case' true =>
   refine fun b2 _ => ?_
   cases b2
 all_goals try simp only [zz, reduceCtorEq, Lis.enc, List.length_map]
 all_goals refine ⟨withMix, ?_⟩
 all_goals simp only [zz, reduceCtorEq, Lis.enc, List.length_map]
 all_goals intro _
 all_goals
   refine loop_goI l.cues (fun _ _ (_ : List Cue) => ()) (fun i a => [.int .i64 i, .slice (a.map Cue.enc)]) (fun i a => a = halfU l.cues i) l.cues () rfl (halfU_zero _).symm 0 (fun _ _ => rfl) rfl ?_ ?_
   · intro i hi a ha _
     subst ha
     have hls := halfU_succ hi
     simp only [zz, reduceCtorEq, hi, List.length_map, halfU_len, D.upd, List.length_modify]
     exact ⟨by omega, halfU l.cues (i + 1), ⟨by rw [wr64_eq (by omega)]; rfl, by rw [← hls]⟩, rfl⟩
   · intro X hX _
     rw [halfU_all] at hX
     subst hX
     simp only [zz, reduceCtorEq, List.length_map, Nat.lt_irrefl]
     generalize l.cues.map unlink = cs at hL hcueL hlk hS hcl
     have hR := hS.right
     have ha := hS.lt
     have hw := Good.start (cs := cs) ha
     have e1 : pathR { l with cues := cs } s 256 = ((cs.drop a).map (·.num), 0) := by
       unfold pathR; rw [if_neg (by simp [hcueL]), if_neg (by omega), hS.st]
       have := plain_path hR hlk hw (n := 256) (by show cs.length ≤ 256; omega)
       exact congrArg (·, 0) this
     have hvs := vis_spec hS
     have hend := plain_end hR hlk hw hvs
     have e2 : endR { l with cues := cs } s = (false, 0) := by
       unfold endR; rw [if_neg (by simp [hcueL]), hS.st]
       have : ¬ (walk cs (most cs) ⟨a, [], 0⟩).length = most cs := fun e => by
         have := hvs.end_.2 e
         rw [hend] at this; cases this
       exact congrArg (·, 0) (by simpa using this)
     have e3 : reachR { l with cues := cs } s = ((cs.drop a).map (·.num), 0) := by
       unfold reachR; rw [if_neg (by simp [hcueL]), hS.st]
       exact congrArg (·, 0) (plain_reach hR hlk hw)
     refine denR_call fpath_ok ⟨{ l with cues := cs }, s, 256, hL, ⟨by omega, by omega⟩, by simp only [zz, reduceCtorEq, Lis.enc], fun rvs hr => ?_⟩
     rw [e1] at hr
     refine ⟨[.slice (txts ((cs.drop a).map (·.num))), .int .i64 0], by rcases hr with rfl | rfl <;> rfl, ?_⟩
     refine denR_call fendless_ok ⟨{ l with cues := cs }, s, hL, by simp only [zz, reduceCtorEq, Lis.enc], ?_⟩
     rw [e2]
     refine ⟨_, rfl, ?_⟩
     refine denR_call freached_ok ⟨{ l with cues := cs }, s, hL, by simp only [zz, reduceCtorEq, Lis.enc], fun rvs hr => ?_⟩
     rw [e3] at hr
     refine ⟨[.slice (txts ((cs.drop a).map (·.num))), .int .i64 0], by rcases hr with rfl | rfl <;> rfl, ?_⟩
     refine denR_call place17_ok ⟨{ l with cues := cs }, s, hL, by simp only [zz, reduceCtorEq, Lis.enc], _, rfl, ?_⟩
     have hpl := hS.pl
     simp only at hpl
     refine denR_call numbers22_ok ⟨{ l with cues := cs }, a, hL, Nat.le_of_lt ha, by show cs.length ≤ 1000; omega, by simp only [zz, reduceCtorEq, Lis.enc, hpl], _, rfl, ?_⟩
     have h0 : wr64 0 = 0 := by rw [wr64_eq] <;> omega
     refine denR_gcall eqTxt_self true [.bool true] (by simp only [zz, reduceCtorEq, Lis.enc, Int.add_zero, h0] <;> simp) (fun _ => ⟨(cs.drop a).map (·.num), by simp only [zz, reduceCtorEq, Lis.enc], rfl⟩) (fun h => by cases h) ?_
     refine denR_gcall eqTxt_self true [.bool true] (by simp only [zz, reduceCtorEq, Lis.enc, Int.add_zero, h0] <;> simp) (fun _ => ⟨(cs.drop a).map (·.num), by simp only [zz, reduceCtorEq, Lis.enc], rfl⟩) (fun h => by cases h) ?_
     refine denR_gcall awake22_ok true [.bool true] (by simp only [zz, reduceCtorEq, Lis.enc, Int.add_zero, h0] <;> simp) (fun _ => ⟨rfl, rfl⟩) (fun h => by cases h) ?_
     simp only [zz, reduceCtorEq, Lis.enc, Int.add_zero, h0]
     simpa using hK
theorem law10f : Contract Tryz.prog 10 (LawSpec Tryz.prog 10) :=
 law10f_typed.weaken fun args K _ h => by
   obtain ⟨h1, h2, hK⟩ := lawArgs [.agg liKs, .cell .str] (by kernel_rfl) h
   match args, h1 with
   | [a, b], _ =>
     obtain ⟨l, hl, rfl⟩ := Lis.ofAgg (h2 0 _ _ rfl rfl)
     obtain ⟨s, rfl⟩ := str_of (h2 1 _ _ rfl rfl)
     exact ⟨l, s, hl, rfl, hK⟩
end Go.Sx.La
