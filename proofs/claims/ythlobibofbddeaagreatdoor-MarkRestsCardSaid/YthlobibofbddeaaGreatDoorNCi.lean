/-
 Part 9 of the proof: the executor over the kit's code with its soundness, or contracts of functions.
-/
import Derived.Test.YthlobibofbddeaaGreatDoorNCh
import Derived.Test.YthlobibofbddeaaGreatDoorProg
import Derived.WalkKit
import Derived.WalkSpells
import Derived.WalkLawsBesides
set_option linter.unusedSimpArgs false
set_option linter.unusedVariables false
set_option linter.unusedSectionVars false
set_option linter.defProp false
set_option maxRecDepth 100000
namespace Go.Sx.La
open Go Go.Sx Go.RowKit Go.Proofs
def givenM (p : Int) (es : List Ent) : List Mov := es.map fun e => ⟨e.pa, e.va, p⟩
noncomputable def t18 : R := let x0 : List K := [.int .i64, .int .i64, .slice [.str, .str, .slice [.int .i64, .int .i64, .int .i64, .int .i64, .int .i64], .slice [.int .i64, .int .i64, .int .i64, .int .i64, .int .i64, .int .i64], .bool, .bool, .int .i64, .str, .int .i64]]; let x1 : T := .o1 .not (.bool true); let x2 : T := .lcons (.var 1) (.lcons (.var 2) .lnil); let x3 : T := .lcons (.int .i64 2) (.lcons (.int .i64 1) .lnil); let x4 : T := .o1 .not (.o2 .ne (.o2 (.add .i64) (.o2 (.add .i64) (.o2 (.add .i64) (.var 4) (.var 6)) (.var 8)) (.var 10)) (.int .i64 0)); let x5 : List K := [.int .i64, .int .i64, .int .i64, .int .i64]; let x6 : T := .push (.push (.push .nils (.lcons (.int .i64 0) .lnil)) (.lcons (.int .i64 7) .lnil)) (.lcons (.int .i64 50) .lnil); let x7 : T := .push .nils (.lcons (.int .i64 80) .lnil); let x8 : T := .o1 .not (.bool false); let x9 : T := .lcons (.int .i64 9) .lnil; let x10 : T := .o2 .eq (.var 22) (.int .i64 0); let x11 : T := .o1 .not (.o1 .not (.var 12)); let x12 : T := .lcons (.int .i64 (-1)) .lnil; let x13 : T := .o1 .not (.o1 .not (.var 14)); .call none (.fn 68) [] [.agg x0] (.call none (.fn 19) [.lcons (.var 0) x2, .str [51]] [.cell (.slice x5), .cell (.int .i64)] (.call none (.fn 25) [.lcons (.var 0) x2, .str [51]] [.cell (.slice x5), .cell (.int .i64)] (.call none (.fn 27) [.lcons (.var 0) x2, .str [52]] [.cell (.slice x5), .cell (.int .i64)] (.call none (.fn 21) [.lcons (.var 0) x2, .str [52]] [.cell (.slice [.int .i64, .int .i64]), .cell (.int .i64)] (.call (some x4) (.fn 70) [.var 3] [.cell (.slice [.int .i64])] (.ite x4 (.call (some x8) (.fn 69) [.var 11, .push .nils (.lcons (.int .i64 7) .lnil)] [.cell .bool] (.call (some x11) (.fn 70) [.var 5] [.cell (.slice [.int .i64])] (.ite x11 (.call (some x8) (.fn 69) [.var 13, .push x6 x12] [.cell .bool] (.call (some x13) (.fn 70) [.var 7] [.cell (.slice [.int .i64])] (.ite x13 (.call (some x8) (.fn 69) [.var 15, .push x7 x9] [.cell .bool] (.ite (.o1 .not (.o1 .not (.var 16))) (.call (some x8) (.fn 24) [.var 9, .push .nils x3] [.cell .bool] (.ite (.o1 .not (.var 17)) (.ret [.d (.bool false)]) (.call none (.fn 71) [.lcons (.var 0) x2, .str [51]] [.agg x0] (.call none (.fn 19) [.lcons (.var 18) (.lcons (.var 19) (.lcons (.var 20) .lnil)), .str [50]] [.cell (.slice x5), .cell (.int .i64)] (.fact (.ite x10 (.o2 .le (.o1 .len (.var 21)) (.int .i64 140737488355328)) (.bool true)) (.ret [.d (.ite x10 (.o2 .eq (.o1 .len (.var 21)) (.int .i64 0)) (.bool false))])))))) (.call (some x1) (.fn 24) [.var 9, .nils] [.cell .bool] (.ret [.d (.bool false)])))) (.call (some x1) (.fn 69) [.var 15, .nils] [.cell .bool] (.ite x1 (.call none (.fn 24) [.var 9, .push .nils x3] [.cell .bool] (.ret [.d (.bool false)])) (.call (some (.bool false)) (.fn 24) [.var 9, .nils] [.cell .bool] (.ret [.d (.bool false)]))))))) (.call (some x1) (.fn 69) [.var 13, .nils] [.cell .bool] (.call (some x1) (.fn 70) [.var 7] [.cell (.slice [.int .i64])] (.ite x1 (.call none (.fn 69) [.var 15, .push x7 x9] [.cell .bool] (.call none (.fn 24) [.var 9, .push .nils x3] [.cell .bool] (.ret [.d (.bool false)]))) (.call (some (.bool false)) (.fn 69) [.var 15, .nils] [.cell .bool] (.call (some (.bool false)) (.fn 24) [.var 9, .nils] [.cell .bool] (.ret [.d (.bool false)]))))))))) (.call (some x1) (.fn 69) [.var 11, .nils] [.cell .bool] (.call (some x1) (.fn 70) [.var 5] [.cell (.slice [.int .i64])] (.ite x1 (.call none (.fn 69) [.var 13, .push x6 x12] [.cell .bool] (.call none (.fn 70) [.var 7] [.cell (.slice [.int .i64])] (.call none (.fn 69) [.var 15, .push x7 x9] [.cell .bool] (.call none (.fn 24) [.var 9, .push .nils x3] [.cell .bool] (.ret [.d (.bool false)]))))) (.call (some (.bool false)) (.fn 69) [.var 13, .nils] [.cell .bool] (.call (some (.bool false)) (.fn 70) [.var 7] [.cell (.slice [.int .i64])] (.call (some (.bool false)) (.fn 69) [.var 15, .nils] [.cell .bool] (.call (some (.bool false)) (.fn 24) [.var 9, .nils] [.cell .bool] (.ret [.d (.bool false)]))))))))))))))
theorem t18_ok : fnO Tryz.prog mdA 18 [] = t18 := by kernel_rfl
theorem c18 : callable Tryz.prog 18 = true := by kernel_rfl
noncomputable def t68 : R := let x1 : List K := [.int .i64, .int .i64, .int .i64, .int .i64, .int .i64]; let x0 : List K := [.str, .str, .slice x1, .slice [.int .i64, .int .i64, .int .i64, .int .i64, .int .i64, .int .i64], .bool, .bool, .int .i64, .str, .int .i64]; .call none (.fn 117) [.int .i64 1, .int .i64 0, .int .i64 80] [.agg x1] (.call none (.fn 117) [.int .i64 1, .int .i64 1, .int .i64 7] [.agg x1] (.call none (.fn 117) [.int .i64 2, .int .i64 1, .int .i64 9] [.agg x1] (.call none (.fn 116) [.str [52], .push (.push (.push .nils (.lcons (.var 0) (.lcons (.var 1) (.lcons (.var 2) (.lcons (.var 3) (.lcons (.var 4) .lnil)))))) (.lcons (.var 5) (.lcons (.var 6) (.lcons (.var 7) (.lcons (.var 8) (.lcons (.var 9) .lnil)))))) (.lcons (.var 10) (.lcons (.var 11) (.lcons (.var 12) (.lcons (.var 13) (.lcons (.var 14) .lnil)))))] [.agg x0] (.call none (.fn 117) [.int .i64 1, .int .i64 0, .int .i64 100] [.agg x1] (.call none (.fn 116) [.str [49], .push .nils (.lcons (.var 24) (.lcons (.var 25) (.lcons (.var 26) (.lcons (.var 27) (.lcons (.var 28) .lnil)))))] [.agg x0] (.call none (.fn 117) [.int .i64 1, .int .i64 0, .int .i64 0] [.agg x1] (.call none (.fn 117) [.int .i64 2, .int .i64 0, .int .i64 50] [.agg x1] (.call none (.fn 116) [.str [50], .push (.push .nils (.lcons (.var 38) (.lcons (.var 39) (.lcons (.var 40) (.lcons (.var 41) (.lcons (.var 42) .lnil)))))) (.lcons (.var 43) (.lcons (.var 44) (.lcons (.var 45) (.lcons (.var 46) (.lcons (.var 47) .lnil)))))] [.agg x0] (.call none (.fn 116) [.str [51], .nils] [.agg x0] (.ret [.d (.lcons (.int .i64 1) (.lcons (.int .i64 0) (.lcons (.push (.push (.push (.push .nils (.lcons (.var 29) (.lcons (.var 30) (.lcons (.var 31) (.lcons (.var 32) (.lcons (.var 33) (.lcons (.var 34) (.lcons (.var 35) (.lcons (.var 36) (.lcons (.var 37) .lnil)))))))))) (.lcons (.var 48) (.lcons (.var 49) (.lcons (.var 50) (.lcons (.var 51) (.lcons (.var 52) (.lcons (.var 53) (.lcons (.var 54) (.lcons (.var 55) (.lcons (.var 56) .lnil)))))))))) (.lcons (.var 57) (.lcons (.var 58) (.lcons (.var 59) (.lcons (.var 60) (.lcons (.var 61) (.lcons (.var 62) (.lcons (.var 63) (.lcons (.var 64) (.lcons (.var 65) .lnil)))))))))) (.lcons (.var 15) (.lcons (.var 16) (.lcons (.var 17) (.lcons (.var 18) (.lcons (.var 19) (.lcons (.bool true) (.lcons (.var 21) (.lcons (.var 22) (.lcons (.var 23) .lnil)))))))))) .lnil)))]))))))))))
theorem t68_ok : fnO Tryz.prog mdA 68 [] = t68 := by kernel_rfl
theorem c68 : callable Tryz.prog 68 = true := by kernel_rfl
noncomputable def t116 : R := let x0 : T := .lcons (.int .i64 0) .lnil; .ret [.d (.lcons (.var 0) (.lcons (.str []) (.lcons (.var 1) (.lcons (.rep (.int .i64 1) (.lcons (.int .i64 0) (.lcons (.int .i64 0) (.lcons (.int .i64 0) (.lcons (.int .i64 0) (.lcons (.int .i64 0) x0)))))) (.lcons (.bool false) (.lcons (.bool false) (.lcons (.int .i64 (-1)) (.lcons (.str []) x0))))))))]
theorem t116_ok : fnO Tryz.prog mdA 116 [.cell .str, .cell (.slice [.int .i64, .int .i64, .int .i64, .int .i64, .int .i64])] = t116 := by kernel_rfl
theorem c116 : callable Tryz.prog 116 = true := by kernel_rfl
noncomputable def t117 : R := .call none (.fn 149) [.var 2] [.agg [.int .i64, .int .i64]] (.ret [.d (.lcons (.var 0) (.lcons (.var 1) (.lcons (.var 3) (.lcons (.var 4) (.lcons (.int .i64 1) .lnil)))))])
theorem t117_ok : fnO Tryz.prog mdA 117 [.cell (.int .i64), .cell (.int .i64), .cell (.int .i64)] = t117 := by kernel_rfl
theorem c117 : callable Tryz.prog 117 = true := by kernel_rfl
noncomputable def t69 : R := let x0 : T := .o1 .len (.var 0); let x1 : T := .o1 .len (.var 1); .fact (.o2 .le x0 (.int .i64 140737488355328)) (.fact (.o2 .le x1 (.int .i64 140737488355328)) (.ite (.o2 .ne x0 x1) (.ret [.d (.bool false)]) (.loop 0 [.int .i64 0] [.int .i64] (.ite (.o2 .lt (.var 2) x0) (.need (.o2 .le (.int .i64 0) (.var 2)) (.need (.o2 .lt (.var 2) x1) (.ite (.o2 .ne (.idx (.var 0) (.var 2) 0 (.int .i64)) (.idx (.var 1) (.var 2) 0 (.int .i64))) (.ret [.d (.bool false)]) (.again 0 [.o2 (.add .i64) (.var 2) (.int .i64 1)])))) (.ret [.d (.bool true)])))))
theorem t69_ok : fnO Tryz.prog mdA 69 [.cell (.slice [.int .i64]), .cell (.slice [.int .i64])] = t69 := by kernel_rfl
theorem c69 : callable Tryz.prog 69 = true := by kernel_rfl
noncomputable def t70 : R := let x2 : T := .push .nils (.lcons (.int .i64 (-1)) .lnil); let x3 : T := .idx (.var 0) (.var 2) 3 (.int .i64); let x0 : T := .o2 .band (.o2 .eq (.idx (.var 0) (.var 2) 2 (.int .i64)) (.var 3)) (.o2 .band (.o2 .eq x3 (.var 4)) (.bool true)); let x1 : T := .push .nils (.lcons x3 .lnil); .fact (.o2 .le (.o1 .len (.var 0)) (.int .i64 140737488355328)) (.loop 0 [.nils, .int .i64 0] [.slice [.int .i64], .int .i64] (.ite (.o2 .lt (.var 2) (.o1 .len (.var 0))) (.need (.o2 .le (.int .i64 0) (.var 2)) (.call none (.fn 118) [] [.agg [.int .i64, .int .i64]] (.need (.ite x0 (.o2 .le (.o1 .len (.o2 .app (.var 1) x2)) (.int .i64 17592186044416)) (.bool true)) (.need (.ite (.o1 .not x0) (.o2 .le (.o1 .len (.o2 .app (.var 1) x1)) (.int .i64 17592186044416)) (.bool true)) (.lets [.ite x0 x2 x1, .ite x0 (.o2 .app (.var 1) x2) (.o2 .app (.var 1) x1)] (.again 0 [.var 6, .o2 (.add .i64) (.var 2) (.int .i64 1)])))))) (.ret [.own 1 (.var 1)])))
theorem t70_ok : fnO Tryz.prog mdA 70 [.cell (.slice [.int .i64, .int .i64, .int .i64, .int .i64])] = t70 := by kernel_rfl
theorem c70 : callable Tryz.prog 70 = true := by kernel_rfl
noncomputable def t29 : R := let x0 : T := .lcons (.var 1) (.lcons (.var 2) .lnil); .call none (.fn 17) [.lcons (.var 0) x0] [.cell .bool] (.call (some (.var 3)) (.fn 67) [.lcons (.var 0) x0] [.cell (.int .i64)] (.ret [.d (.ite (.var 3) (.o2 .eq (.var 4) (.int .i64 0)) (.bool false))]))
theorem t29_ok : fnO Tryz.prog mdA 29 [.agg [.int .i64, .int .i64, .slice [.str, .str, .slice [.int .i64, .int .i64, .int .i64, .int .i64, .int .i64], .slice [.int .i64, .int .i64, .int .i64, .int .i64, .int .i64, .int .i64], .bool, .bool, .int .i64, .str, .int .i64]]] = t29 := by kernel_rfl
theorem c29 : callable Tryz.prog 29 = true := by kernel_rfl
def dark4 : Cue := { cue169 [52] false [mv18 1 0 80, mv18 1 1 7, mv18 2 1 9] with mark := true }
def darkL : Lis := ⟨1, 0, [cue169 [49] false [mv18 1 0 100], cue169 [50] false [mv18 1 0 0, mv18 2 0 50], cue169 [51] false [], dark4]⟩
def dark3 : Lis := { darkL with cues := without darkL.cues [51] }
def e21 (v : Val) : Ent := ⟨⟨2, 1⟩, v⟩
theorem dk_e : earlyR darkL [51] = ([e11 ⟨0, 7⟩], 0) := by kernel_rfl
theorem dk_m : markedR darkL [51] = ([e10 ⟨0, 0⟩, e11 ⟨0, 7⟩, e20 ⟨0, 50⟩, e21 hval], 0) := by kernel_rfl
theorem dk_s : mstepsR darkL [52] = ([e10 ⟨0, 80⟩, e21 ⟨0, 9⟩], 0) := by kernel_rfl
theorem dk_l : lateR darkL [52] = ([⟨2, 1⟩], 0) := by kernel_rfl
theorem dk_3 : earlyR dark3 [50] = ([], 0) := by kernel_rfl
theorem sml {v : Int} (h : -1000 ≤ v ∧ v ≤ 1000) : I64 v := ⟨by omega, by omega⟩
theorem darkL_Ok : darkL.Ok := by
 have hc : ∀ (n : List UInt8) (b : Bool) (ms : List Mov), (∀ m ∈ ms, m.Ok) → (cue169 n b ms).Ok := fun n b ms h => ⟨h, by simp [cue169, zt, Tim.Ok, I64], by simp [cue169, I64], by simp [cue169, I64]⟩
 have m1 : ∀ {c a v : Int}, -1000 ≤ c ∧ c ≤ 1000 → -1000 ≤ a ∧ a ≤ 1000 → -1000 ≤ v ∧ v ≤ 1000 → (mv18 c a v).Ok := fun h1 h2 h3 => mv18_Ok (sml h1) (sml h2) (sml h3)
 refine ⟨by simp [darkL, I64], by simp [darkL, I64], fun c hcm => ?_⟩
 simp only [darkL, List.mem_cons, List.not_mem_nil, or_false] at hcm
 rcases hcm with rfl | rfl | rfl | rfl
 · exact hc _ _ _ fun m hm => by simp only [List.mem_cons, List.not_mem_nil, or_false] at hm; rcases hm with rfl; exact m1 (by omega) (by omega) (by omega)
 · exact hc _ _ _ fun m hm => by simp only [List.mem_cons, List.not_mem_nil, or_false] at hm; rcases hm with rfl | rfl <;> exact m1 (by omega) (by omega) (by omega)
 · exact hc _ _ _ fun m hm => by simp at hm
 · have h4 := hc [52] false [mv18 1 0 80, mv18 1 1 7, mv18 2 1 9] fun m hm => by simp only [List.mem_cons, List.not_mem_nil, or_false] at hm; rcases hm with rfl | rfl | rfl <;> exact m1 (by omega) (by omega) (by omega)
   exact ⟨h4.moves, h4.parts, h4.follow, h4.loops⟩
theorem dark3_Ok : dark3.Ok := ⟨darkL_Ok.num, darkL_Ok.prio, fun c hc => darkL_Ok.cues c (List.mem_filter.1 hc).1⟩
theorem mv117_ok : Contract Tryz.prog 117 fun args K => ∃ c a v : Int, I64 c ∧ I64 a ∧ I64 v ∧ args = [.int .i64 c, .int .i64 a, .int .i64 v] ∧ K [.d (.agg (mv18 c a v).enc)] := by
 refine .of c117 t117_ok ?_
 rintro _ K ⟨c, a, v, hc, ha, hv, rfl, hK⟩ hsm
 refine ⟨[.int .i64 c, .int .i64 a, .int .i64 v], rfl, ⟨i64_has hc, i64_has ha, i64_has hv, trivial⟩, ?_⟩
 refine denR_call at15_ok ⟨v, hv, rfl, _, rfl, ?_⟩
 simp only [zz, reduceCtorEq, Val.enc]
 exact hK
theorem cue116_ok : Contract Tryz.prog 116 fun args K => ∃ (n : List UInt8) (ms : List Mov), (∀ m ∈ ms, m.Ok) ∧ args = [.str n, .slice (ms.map Mov.enc)] ∧ K [.d (.agg (cue169 n false ms).enc)] := by
 refine .of c116 t116_ok ?_
 rintro _ K ⟨n, ms, hms, rfl, hK⟩ hsm
 refine ⟨[.str n, .slice (ms.map Mov.enc)], rfl, ⟨trivial, slice_has fun m hm => Mov.has (hms m hm), trivial⟩, ?_⟩
 exact hK
theorem darkL_ok : Contract Tryz.prog 68 fun args K => args = [] ∧ K [.d (.agg darkL.enc)] := by
 refine .of c68 t68_ok ?_
 rintro _ K ⟨rfl, hK⟩ hsm
 refine ⟨[], rfl, trivial, ?_⟩
 have m1 : ∀ {c a v : Int}, -1000 ≤ c ∧ c ≤ 1000 → -1000 ≤ a ∧ a ≤ 1000 → -1000 ≤ v ∧ v ≤ 1000 → (mv18 c a v).Ok := fun h1 h2 h3 => mv18_Ok (sml h1) (sml h2) (sml h3)
 refine denR_call mv117_ok ⟨1, 0, 80, sml (by omega), sml (by omega), sml (by omega), rfl, _, rfl, ?_⟩
 refine denR_call mv117_ok ⟨1, 1, 7, sml (by omega), sml (by omega), sml (by omega), rfl, _, rfl, ?_⟩
 refine denR_call mv117_ok ⟨2, 1, 9, sml (by omega), sml (by omega), sml (by omega), rfl, _, rfl, ?_⟩
 refine denR_call cue116_ok ⟨[52], [mv18 1 0 80, mv18 1 1 7, mv18 2 1 9], fun m hm => by simp only [List.mem_cons, List.not_mem_nil, or_false] at hm; rcases hm with rfl | rfl | rfl <;> exact m1 (by omega) (by omega) (by omega), rfl, _, rfl, ?_⟩
 refine denR_call mv117_ok ⟨1, 0, 100, sml (by omega), sml (by omega), sml (by omega), rfl, _, rfl, ?_⟩
 refine denR_call cue116_ok ⟨[49], [mv18 1 0 100], fun m hm => by simp only [List.mem_cons, List.not_mem_nil, or_false] at hm; rcases hm with rfl; exact m1 (by omega) (by omega) (by omega), rfl, _, rfl, ?_⟩
 refine denR_call mv117_ok ⟨1, 0, 0, sml (by omega), sml (by omega), sml (by omega), rfl, _, rfl, ?_⟩
 refine denR_call mv117_ok ⟨2, 0, 50, sml (by omega), sml (by omega), sml (by omega), rfl, _, rfl, ?_⟩
 refine denR_call cue116_ok ⟨[50], [mv18 1 0 0, mv18 2 0 50], fun m hm => by simp only [List.mem_cons, List.not_mem_nil, or_false] at hm; rcases hm with rfl | rfl <;> exact m1 (by omega) (by omega) (by omega), rfl, _, rfl, ?_⟩
 refine denR_call cue116_ok ⟨[51], [], by simp, rfl, _, rfl, ?_⟩
 exact hK
def levL (es : List Ent) : List Int := es.map fun e => if e.va = hval then -1 else e.va.lev
def encI (xs : List Int) : List (List D) := xs.map fun x => [.int .i64 x]
theorem levels_ok : Contract Tryz.prog 70 fun args K => ∃ (es : List Ent), (∀ e ∈ es, e.Ok) ∧ es.length ≤ 10000 ∧ args = [.slice (es.map Ent.enc)] ∧ K [.own 1 (encI (levL es))] := by
 refine .of c70 t70_ok ?_
 rintro _ K ⟨es, hes, hlen, rfl, hK⟩ hsm
 refine ⟨[.slice (es.map Ent.enc)], rfl, ⟨ents_has hes, trivial⟩, ?_⟩
 simp only [zz, reduceCtorEq, t70, List.length_map]
 intro hcap
 refine loop_goI es (fun _ es (acc : List Int) => acc ++ levL es) (fun i acc => [.slice (encI acc), .int .i64 i]) (fun i acc => acc.length = i) [] (levL es) rfl rfl 1 (fun _ _ => rfl) rfl ?_ ?_
 · intro i hi acc hI hgo
   have hv : (es[i].va = hval) ↔ (es[i].va.pal = -1 ∧ es[i].va.lev = 0) := val_eq _ _
   have hal : (encI acc).length = i := by simp [encI, hI]
   simp only [zz, reduceCtorEq, List.length_map, hi, getD_map hi, Ent.enc]
   refine ⟨by omega, ?_⟩
   refine denR_call home15_ok ⟨rfl, _, rfl, ?_⟩
   simp only [zz, reduceCtorEq, getD_map hi, Ent.enc, hval, Val.enc, List.length_append, hal]
   refine ⟨by simp <;> omega, by simp <;> omega, acc ++ [if es[i].va = hval then -1 else es[i].va.lev], ⟨?_, by rw [wr64_eq] <;> omega⟩, by simp [hI], by simp only [levL, List.append_assoc, List.singleton_append, List.map_cons, List.map_drop] at hgo ⊢; exact hgo⟩
   by_cases h : es[i].va = hval
   · rw [if_pos h]
     have := hv.1 h
     simp [this, encI]
   · rw [if_neg h]
     have : ¬ (es[i].va.pal = -1 ∧ es[i].va.lev = 0) := fun e => h (hv.2 e)
     simp [this, encI]
 · intro acc hI hgo
   simp only [zz, reduceCtorEq, List.length_map, Nat.lt_irrefl]
   simp only [levL, List.map_nil, List.append_nil] at hgo
   rw [hgo]; exact hK
theorem eqInts_ok : Contract Tryz.prog 69 fun args K => ∃ (xs : List Int), (∀ x ∈ xs, I64 x) ∧ args = [.slice (encI xs), .slice (encI xs)] ∧ K [.d (.bool true)] := by
 refine .of c69 t69_ok ?_
 rintro _ K ⟨xs, hxs, rfl, hK⟩ hsm
 have hh : HasK (.slice [.int .i64]) (.slice (encI xs)) := slice_has fun x hx => ⟨i64_has (hxs x hx), trivial⟩
 refine ⟨[.slice (encI xs), .slice (encI xs)], rfl, ⟨hh, hh, trivial⟩, ?_⟩
 have hl : (encI xs).length = xs.length := by simp [encI]
 simp only [zz, reduceCtorEq, t69, hl]
 intro hcap _
 refine loop_go xs (fun _ _ (_ : Unit) => ()) (fun i _ => [.int .i64 i]) () () rfl 0 (fun _ _ => rfl) rfl ?_ ?_
 · intro i hi _ _
   have hget : (encI xs).getD i [] = [.int .i64 xs[i]] := getD_map (enc := fun x => [D.int .i64 x]) hi
   simp only [zz, reduceCtorEq, hl, hi, hget]
   exact ⟨by omega, (), by rw [wr64_eq (by omega)]; rfl⟩
 · intro _ _
   simp only [zz, reduceCtorEq, hl, Nat.lt_irrefl]
   exact hK
theorem awake20_ok : Contract Tryz.prog 18 fun args K => args = [] ∧ K [.d (.bool true)] := by
 refine .of c18 t18_ok ?_
 rintro _ K ⟨rfl, hK⟩ hsm
 refine ⟨[], rfl, trivial, ?_⟩
 have s : ∀ {v : Val}, SmallV v → v.Ok := fun h => h.ok
 have p : ∀ {a b : Int}, -1000 ≤ a ∧ a ≤ 1000 → -1000 ≤ b ∧ b ≤ 1000 → Par.Ok ⟨a, b⟩ := fun h1 h2 => ⟨sml h1, sml h2⟩
 have e_Ok : ∀ {a b c d : Int}, -1000 ≤ a ∧ a ≤ 1000 → -1000 ≤ b ∧ b ≤ 1000 → -1000 ≤ c ∧ c ≤ 1000 → -1000 ≤ d ∧ d ≤ 1000 → Ent.Ok ⟨⟨a, b⟩, ⟨c, d⟩⟩ := fun h1 h2 h3 h4 => ⟨p h1 h2, sml h3, sml h4⟩
 have k1 : ∀ e ∈ [e11 ⟨0, 7⟩], e.Ok := fun e he => by
   simp only [List.mem_cons, List.not_mem_nil, or_false] at he
   subst he; exact e_Ok (by omega) (by omega) (by omega) (by omega)
 have k2 : ∀ e ∈ [e10 ⟨0, 0⟩, e11 ⟨0, 7⟩, e20 ⟨0, 50⟩, e21 hval], e.Ok := fun e he => by
   simp only [List.mem_cons, List.not_mem_nil, or_false] at he
   rcases he with rfl | rfl | rfl | rfl <;> exact e_Ok (by omega) (by omega) (by omega) (by omega)
 have k3 : ∀ e ∈ [e10 ⟨0, 80⟩, e21 ⟨0, 9⟩], e.Ok := fun e he => by
   simp only [List.mem_cons, List.not_mem_nil, or_false] at he
   rcases he with rfl | rfl <;> exact e_Ok (by omega) (by omega) (by omega) (by omega)
 refine denR_call darkL_ok ⟨rfl, _, rfl, ?_⟩
 refine denR_call earlyC_ok ⟨darkL, [51], darkL_Ok, rfl, ?_⟩
 rw [dk_e]
 intro rvs hr
 refine ⟨[.slice ([e11 ⟨0, 7⟩].map Ent.enc), .int .i64 0], by rcases hr with rfl | rfl <;> rfl, ?_⟩
 refine denR_call markedC_ok ⟨darkL, [51], darkL_Ok, rfl, ?_⟩
 rw [dk_m]
 refine ⟨_, rfl, ?_⟩
 refine denR_call mstepsC_ok ⟨darkL, [52], darkL_Ok, rfl, ?_⟩
 rw [dk_s]
 intro rvs hr
 refine ⟨[.slice ([e10 ⟨0, 80⟩, e21 ⟨0, 9⟩].map Ent.enc), .int .i64 0], by rcases hr with rfl | rfl <;> rfl, ?_⟩
 refine denR_call lateC_ok ⟨darkL, [52], darkL_Ok, rfl, ?_⟩
 rw [dk_l]
 intro rvs hr
 refine ⟨[.slice ([(⟨2, 1⟩ : Par)].map Par.enc), .int .i64 0], by rcases hr with rfl | rfl <;> rfl, ?_⟩
 refine denR_gcall levels_ok true [.slice (encI [7])] (by kernel_rfl) (fun _ => ⟨[e11 ⟨0, 7⟩], k1, by simp, rfl, rfl⟩) (fun h => by cases h) ?_
 refine denR_iteT (by kernel_rfl) ?_
 refine denR_gcall eqInts_ok true [.bool true] (by kernel_rfl) (fun _ => ⟨[7], fun x hx => by simp at hx; subst hx; exact sml (by omega), rfl, rfl⟩) (fun h => by cases h) ?_
 refine denR_gcall levels_ok true [.slice (encI [0, 7, 50, -1])] (by kernel_rfl) (fun _ => ⟨[e10 ⟨0, 0⟩, e11 ⟨0, 7⟩, e20 ⟨0, 50⟩, e21 hval], k2, by simp, rfl, rfl⟩) (fun h => by cases h) ?_
 refine denR_iteT (by kernel_rfl) ?_
 refine denR_gcall eqInts_ok true [.bool true] (by kernel_rfl) (fun _ => ⟨[0, 7, 50, -1], fun x hx => by simp at hx; rcases hx with rfl | rfl | rfl | rfl <;> exact sml (by omega), rfl, rfl⟩) (fun h => by cases h) ?_
 refine denR_gcall levels_ok true [.slice (encI [80, 9])] (by kernel_rfl) (fun _ => ⟨[e10 ⟨0, 80⟩, e21 ⟨0, 9⟩], k3, by simp, rfl, rfl⟩) (fun h => by cases h) ?_
 refine denR_iteT (by kernel_rfl) ?_
 refine denR_gcall eqInts_ok true [.bool true] (by kernel_rfl) (fun _ => ⟨[80, 9], fun x hx => by simp at hx; rcases hx with rfl | rfl <;> exact sml (by omega), rfl, rfl⟩) (fun h => by cases h) ?_
 refine denR_iteT (by kernel_rfl) ?_
 refine denR_gcall samePars_ok true [.bool true] (by kernel_rfl) (fun _ => ⟨[⟨2, 1⟩], fun x hx => by simp at hx; subst hx; exact p (by omega) (by omega), rfl, rfl⟩) (fun h => by cases h) ?_
 refine denR_iteF (by kernel_rfl) ?_
 refine denR_call without17_ok ⟨darkL, [51], darkL_Ok, by simp [darkL], rfl, _, rfl, ?_⟩
 refine denR_call earlyC_ok ⟨dark3, [50], dark3_Ok, rfl, ?_⟩
 rw [dk_3]
 intro rvs hr
 refine ⟨[.slice [], .int .i64 0], by rcases hr with rfl | rfl <;> rfl, ?_⟩
 intro _
 exact hK
theorem good20_ok : Contract Tryz.prog 29 fun args K => ∃ (l : Lis), l.Ok ∧ args = [.agg l.enc] ∧ ∀ b : Bool, (b = true → checkL order05 l = 0) → K [.d (.bool b)] := by
 refine .of c29 t29_ok ?_
 rintro _ K ⟨l, hl, rfl, hK⟩ hsm
 refine ⟨l.enc, rfl, Lis.has hl, ?_⟩
 refine denR_call few18_ok ⟨l, hl, by simp only [zz, reduceCtorEq, Lis.enc], fun b => ⟨[.bool b], rfl, ?_⟩⟩
 cases b with
 | true =>
   refine denR_gcall check17_ok true [.int .i64 (checkL order05 l)] rfl (fun _ => ⟨l, hl, by simp only [zz, reduceCtorEq, Lis.enc], rfl⟩) (fun h => by cases h) ?_
   simp only [zz, reduceCtorEq, Lis.enc]
   have := hK (decide (checkL order05 l = 0)) (by simp)
   simpa using this
 | false =>
   refine denR_gcall check17_ok false [.int .i64 0] rfl (fun h => by cases h) (fun _ => rfl) ?_
   simp only [zz, reduceCtorEq, Lis.enc]
   simpa using hK false (by simp)
noncomputable def t5 : R := let x0 : T := .idx (.var 2) (.var 4) 2 (.slice [.int .i64, .int .i64, .int .i64, .int .i64, .int .i64]); let x1 : T := .idx (.var 2) (.var 4) 5 .bool; let x2 : T := .lcons (.var 1) (.lcons (.var 2) .lnil); let x3 : T := .lcons (.ptr (.lcons (.idx (.var 7) (.var 13) 0 (.int .i64)) (.lcons (.idx (.var 7) (.var 13) 1 (.int .i64)) (.lcons (.idx (.var 7) (.var 13) 2 (.int .i64)) (.lcons (.idx (.var 7) (.var 13) 3 (.int .i64)) .lnil))))) .lnil; let x4 : List K := [.int .i64, .int .i64, .int .i64, .int .i64]; let x5 : T := .idx x0 (.var 14) 1 (.int .i64); let x6 : T := .idx x0 (.var 11) 1 (.int .i64); let x7 : T := .o2 (.sub .i64) (.var 4) (.int .i64 1); let x8 : T := .o2 .ne (.var 10) (.int .i64 0); let x9 : T := .o2 .ne (.var 8) (.int .i64 0); let x11 : T := .o2 .le (.o1 .len x0) (.int .i64 140737488355328); let x12 : T := .o1 .len (.var 2); let x13 : T := .o1 .len (.var 7); let x14 : T := .o2 .ne (.var 12) (.int .i64 0); let x15 : T := .idx x0 (.var 14) 0 (.int .i64); let x16 : T := .idx x0 (.var 11) 0 (.int .i64); let x17 : T := .o2 .ne (.var 6) (.int .i64 0); let x10 : T := .o2 .le x13 (.int .i64 140737488355328); .call none (.fn 29) [.lcons (.var 0) x2] [.cell .bool] (.ite (.o1 .not (.var 3)) (.call none (.fn 18) [] [.cell .bool] (.ret [.d (.var 4)])) (.fact (.o2 .le x12 (.int .i64 140737488355328)) (.loop 0 [.int .i64 0] [.int .i64] (.ite (.o2 .lt (.var 4) x12) (.need (.o2 .le (.int .i64 0) (.var 4)) (.call none (.fn 21) [.lcons (.var 0) x2, .idx (.var 2) (.var 4) 0 .str] [.cell (.slice [.int .i64, .int .i64]), .cell (.int .i64)] (.fact (.ite (.o2 .band (.o1 .not x17) (.o1 .not x1)) (.o2 .le (.o1 .len (.var 5)) (.int .i64 140737488355328)) (.bool true)) (.ite (.ite x17 (.bool true) (.ite (.o1 .not x1) (.o2 .gt (.o1 .len (.var 5)) (.int .i64 0)) (.bool false))) (.ret [.d (.bool false)]) (.ite (.o2 .gt (.var 4) (.int .i64 0)) (.need (.o2 .le (.int .i64 0) x7) (.need (.o2 .lt x7 x12) (.call none (.fn 19) [.lcons (.var 0) x2, .idx (.var 2) x7 0 .str] [.cell (.slice x4), .cell (.int .i64)] (.call none (.fn 27) [.lcons (.var 0) x2, .idx (.var 2) (.var 4) 0 .str] [.cell (.slice x4), .cell (.int .i64)] (.call none (.fn 19) [.lcons (.var 0) x2, .idx (.var 2) (.var 4) 0 .str] [.cell (.slice x4), .cell (.int .i64)] (.fact (.ite (.o2 .band (.o1 .not (.ite (.ite x9 (.bool true) x8) (.bool true) x14)) (.o1 .not x1)) x10 (.bool true)) (.ite (.ite (.ite (.ite x9 (.bool true) x8) (.bool true) x14) (.bool true) (.ite (.o1 .not x1) (.o2 .gt x13 (.int .i64 0)) (.bool false))) (.ret [.d (.bool false)]) (.fact x10 (.loop 1 [.int .i64 0] [.int .i64] (.ite (.o2 .lt (.var 13) x13) (.need (.o2 .le (.int .i64 0) (.var 13)) (.call none (.fn 31) [.var 9, .clo 30 x3] [.cell .bool] (.call (some (.var 14)) (.fn 31) [.var 11, .clo 30 x3] [.cell .bool] (.ite (.ite (.var 14) (.o1 .not (.var 15)) (.bool false)) (.ret [.d (.bool false)]) (.again 1 [.o2 (.add .i64) (.var 13) (.int .i64 1)]))))) (.fact x11 (.loop 2 [.int .i64 0] [.int .i64] (.ite (.o2 .lt (.var 14) (.o1 .len x0)) (.need (.o2 .le (.int .i64 0) (.var 14)) (.call none (.fn 32) [.var 7, .lcons x15 (.lcons x5 (.lcons (.idx x0 (.var 14) 2 (.int .i64)) (.lcons (.idx x0 (.var 14) 3 (.int .i64)) .lnil)))] [.cell .bool] (.call (some (.ite x1 (.o2 .ne x5 (.int .i64 0)) (.bool false))) (.fn 33) [.var 5, .lcons x15 (.lcons x5 .lnil)] [.cell .bool] (.ite (.ite (.ite x1 (.o2 .ne x5 (.int .i64 0)) (.bool false)) (.o2 .eq (.var 15) (.var 16)) (.bool false)) (.ret [.d (.bool false)]) (.again 2 [.o2 (.add .i64) (.var 14) (.int .i64 1)]))))) (.again 0 [.o2 (.add .i64) (.var 4) (.int .i64 1)])))))))))))))) (.call none (.fn 27) [.lcons (.var 0) x2, .idx (.var 2) (.var 4) 0 .str] [.cell (.slice x4), .cell (.int .i64)] (.call none (.fn 19) [.lcons (.var 0) x2, .idx (.var 2) (.var 4) 0 .str] [.cell (.slice x4), .cell (.int .i64)] (.ite (.ite (.ite x9 (.bool true) x8) (.bool true) (.ite (.o1 .not x1) (.o2 .gt (.int .i64 0) (.int .i64 0)) (.bool false))) (.ret [.d (.bool false)]) (.loop 1 [] [] (.ite (.o2 .lt (.int .i64 0) (.int .i64 0)) (.fail "law.go:144") (.fact x11 (.loop 2 [.int .i64 0] [.int .i64] (.ite (.o2 .lt (.var 11) (.o1 .len x0)) (.need (.o2 .le (.int .i64 0) (.var 11)) (.call none (.fn 32) [.nils, .lcons x16 (.lcons x6 (.lcons (.idx x0 (.var 11) 2 (.int .i64)) (.lcons (.idx x0 (.var 11) 3 (.int .i64)) .lnil)))] [.cell .bool] (.call (some (.ite x1 (.o2 .ne x6 (.int .i64 0)) (.bool false))) (.fn 33) [.var 5, .lcons x16 (.lcons x6 .lnil)] [.cell .bool] (.ite (.ite (.ite x1 (.o2 .ne x6 (.int .i64 0)) (.bool false)) (.o2 .eq (.var 12) (.var 13)) (.bool false)) (.ret [.d (.bool false)]) (.again 2 [.o2 (.add .i64) (.var 11) (.int .i64 1)]))))) (.again 0 [.o2 (.add .i64) (.var 4) (.int .i64 1)])))))))))))))) (.call none (.fn 18) [] [.cell .bool] (.ret [.d (.var 5)]))))))
theorem c5 : callable Tryz.prog 5 = true := by kernel_rfl
theorem earlyR_at {l : Lis} (h : checkL order05 l = 0) {i : Nat} (hi : i < l.cues.length) : earlyR l l.cues[i].num = (aheadL l.cues (i + 1), 0) := by
 obtain ⟨h1, h2, _⟩ := cue18_at h hi
 unfold earlyR
 rw [if_neg (by simp [h1]), h2]
theorem mstepsR_at {l : Lis} (h : checkL order05 l = 0) {i : Nat} (hi : i < l.cues.length) : mstepsR l l.cues[i].num = (diffE (markedL l.cues i) (markedL l.cues (i + 1)), 0) := by
 obtain ⟨h1, h2, _⟩ := cue18_at h hi
 unfold mstepsR
 rw [if_neg (by simp [h1]), h2, Nat.add_sub_cancel]
theorem diffE_sub' : ∀ {a b : List Ent}, ∀ e ∈ diffE a b, e ∈ b
 | [], b, e, he => by cases b <;> simp [diffE] at he
 | x :: a, [], e, he => by simp [diffE] at he
 | x :: a, y :: b, e, he => by
   simp only [diffE] at he
   split at he
   · exact List.mem_cons_of_mem _ (diffE_sub' e he)
   · rcases List.mem_cons.1 he with rfl | he
     · exact List.mem_cons_self
     · exact List.mem_cons_of_mem _ (diffE_sub' e he)
def unmark (c : Cue) : Cue := { c with mark := false }
theorem check16_unmark (c : Cue) : check16 (unmark c) = check16 c := rfl
theorem checkL_of' {l : Lis} (h0 : ¬ (l.num < 1 ∨ 1048576 < l.num ∨ l.prio < 0 ∨ 9 < l.prio)) (h1 : l.cues.length ≤ 64) (h2 : ∀ c ∈ l.cues, check16 c = 0) (h3 : Rising l.cues) : checkL order05 l = 0 := by
 have key : ∀ (cs : List Cue) (i : Nat), cs = l.cues.drop i → cuesGo order05 l.cues i cs = 0 := by
   intro cs
   induction cs with
   | nil => intro i _; rfl
   | cons c cs ih =>
     intro i he
     have hlt : i < l.cues.length := by
       rcases Nat.lt_or_ge i l.cues.length with h | h
       · exact h
       · rw [List.drop_eq_nil_of_le h] at he; cases he
     rw [List.drop_eq_getElem_cons hlt] at he
     obtain ⟨rfl, rfl⟩ := List.cons.inj he
     simp only [cuesGo]
     rw [if_neg (by simp [h2 _ (List.getElem_mem hlt)]), if_neg ?_]
     · exact ih (i + 1) rfl
     · rintro ⟨hi, ho⟩
       rw [getElem!_pos l.cues (i - 1) (by omega)] at ho
       rw [Rising, List.pairwise_iff_getElem] at h3
       have := h3 (i - 1) i (by omega) hlt (by omega)
       have := (order_neg _ _).2 this
       omega
 simp only [checkL]
 rw [if_neg h0, if_neg (by omega)]
 exact key l.cues 0 rfl
theorem head_of' {l : Lis} (h : checkL order05 l = 0) : ¬ (l.num < 1 ∨ 1048576 < l.num ∨ l.prio < 0 ∨ 9 < l.prio) := by
 simp only [checkL] at h
 split at h
 · cases h
 · assumption
theorem checkL_unmark {l l' : Lis} (h : checkL order05 l = 0) (h1 : l'.num = l.num) (h2 : l'.prio = l.prio) (hs : (l'.cues.map unmark).Sublist (l.cues.map unmark)) : checkL order05 l' = 0 := by
 have hR := rightL_of h
 refine checkL_of' (by rw [h1, h2]; exact head_of' h) ?_ (fun c hc => ?_) ?_
 · have := hs.length_le
   simp only [List.length_map] at this
   have := hR.len
   omega
 · obtain ⟨d, hd, e⟩ := List.mem_map.1 (hs.mem (List.mem_map.2 ⟨c, hc, rfl⟩))
   rw [← check16_unmark, ← e, check16_unmark]
   exact hR.cues d hd
 · have hr : (l.cues.map unmark).Pairwise fun a b => valOf a < valOf b := List.pairwise_map.2 hR.rising
   have h3 : (l'.cues.map unmark).Pairwise fun a b => valOf a < valOf b := List.Pairwise.sublist hs hr
   rw [List.pairwise_map] at h3
   exact h3
theorem ok_unmark {l l' : Lis} (h : l.Ok) (h1 : l'.num = l.num) (h2 : l'.prio = l.prio) (hs : (l'.cues.map unmark).Sublist (l.cues.map unmark)) : l'.Ok := by
 refine ⟨by rw [h1]; exact h.num, by rw [h2]; exact h.prio, fun c hc => ?_⟩
 obtain ⟨d, hd, e⟩ := List.mem_map.1 (hs.mem (List.mem_map.2 ⟨c, hc, rfl⟩))
 have ho := h.cues d hd
 simp only [unmark, Cue.mk.injEq] at e
 obtain ⟨_, _, e3, e4, _, _, e7, _, e9⟩ := e
 exact ⟨by rw [← e3]; exact ho.moves, by rw [← e4]; exact ho.parts, by rw [← e7]; exact ho.follow, by rw [← e9]; exact ho.loops⟩
theorem early_rest {cs : List Cue} (h : ∀ c ∈ cs, c.mark = false) (n : Nat) : earlyM cs n = [] := by
 unfold earlyM
 split
 · rfl
 split
 · rename_i c hc
   rw [if_neg (by simp [h c (List.mem_of_getElem? hc)])]
 · rfl
theorem ahead_rest {cs : List Cue} (h : ∀ c ∈ cs, c.mark = false) (n : Nat) : aheadL cs n = [] := by
 unfold aheadL
 rw [early_rest h]; rfl
theorem marked_rest {cs : List Cue} (h : ∀ c ∈ cs, c.mark = false) (n : Nat) : markedL cs n = lookL cs n := by
 unfold markedL
 rw [ahead_rest h]; rfl
def lessL (cs : List Cue) (k : Nat) : List Cue := (cs.take (min (k + 2) cs.length)).modify k fun c => { c with mark := !c.mark }
end Go.Sx.La
open Go Go.Proofs Go.RowKit
namespace Go.Sx
theorem cells_one1 {u : Value} (h : u.oneCell' = true) : u.cells = #[u] := by
 cases u <;> simp [Value.oneCell'] at h <;> rfl
set_option maxHeartbeats 4000000 in
theorem withWalk (x0 x1 x2 v : Value) (w : World) (h0 : x0.oneCell' = true) (h1 : x1.oneCell' = true) (h2 : v.oneCell' = true) :
   Calls Tryz.prog 34 #[.agg #[x0, x1, x2], v] w fun e w' => e = .returned (.agg #[x0, x1, v]) ∧ BelowD w.heap.size w w' := by
 have s0 : ∀ (W : World) (a : Addr) (m : Go.Mode), (store a x0 m).run Tryz.prog W = stored Tryz.prog W a x0 m := fun W a m => run_store _ W a x0 m h0
 have s1 : ∀ (W : World) (a : Addr) (m : Go.Mode), (store a x1 m).run Tryz.prog W = stored Tryz.prog W a x1 m := fun W a m => run_store _ W a x1 m h1
 have s2 : ∀ (W : World) (a : Addr) (m : Go.Mode), (store a v m).run Tryz.prog W = stored Tryz.prog W a v m := fun W a m => run_store _ W a v m h2
 have c0 := cells_one1 h0
 have c1 := cells_one1 h1
 have c2 := cells_one1 h2
 clear h0 h1 h2
 unfold Value.cells at c0 c1 c2
 go_enter Tryz.func34, Tryz.ntmps34
 go_wp2
 have hd : (Tryz.prog.underlying 24).any (fun d => match d with | .struct _ | .array _ _ => true | _ => false) = true := by kernel_rfl
 cases hu : Tryz.prog.underlying 24 with
 | none => rw [hu] at hd; cases hd
 | some d =>
 rw [hu] at hd
 refine bodyPost_ret (results_cell_row rfl _ _ (w.heap.size + 1) 24 #[x0, x1, v] (0, 0) d rfl (heap_alloc2_new w _ _) hu (by cases d <;> first | rfl | (simp at hd)) (by kernel_rfl)) rfl ?_
 refine ⟨rfl, ?_, Nat.le_refl _⟩
 refine ((Below.refl w.heap.size w).alloc (Nat.le_refl _) _).alloc ?_ _
 exact ((Below.refl w.heap.size w).alloc (Nat.le_refl _) _).size
theorem withMix : MixC Tryz.prog 34 [3, 0] [(0, some 0), (0, some 1), (1, none)] := by
 refine ⟨by kernel_rfl, fun vs us w hl hs hm h1 => ?_⟩
 match vs, hl with
 | [a, v], _ =>
 obtain ⟨arr, rfl, hsz⟩ := hs 0 3 a rfl (by decide) rfl
 obtain ⟨l⟩ := arr
 match l, hsz with
 | [x0, x1, x2], _ =>
 simp only [mixL, mix1, aggV, List.getElem?_cons_zero, List.getElem?_cons_succ, Option.bind_some, Option.some.injEq] at hm
 subst hm
 exact withWalk x0 x1 x2 v w (h1 _ (by simp)) (h1 _ (by simp)) (h1 _ (by simp))
end Go.Sx
namespace Go.Sx.La
open Go Go.Sx Go.RowKit Go.Proofs
def mdM : Go.Sx.Mode := { mdA with x := (34, [], false) :: mdA.x, mix := [(34, [3, 0], [(0, some 0), (0, some 1), (1, none)])] }
theorem c6 : callable Tryz.prog 6 = true := by kernel_rfl
theorem markedR_num {l : Lis} (h : checkL order05 l = 0) {i : Nat} (hi : i < l.cues.length) : markedR l l.cues[i].num = (markedL l.cues (i + 1), 0) := by
 obtain ⟨h1, h2, _⟩ := cue18_at h hi
 unfold markedR
 rw [if_neg (by simp [h1]), h2]
noncomputable def t7 : R := let x0 : List K := [.str, .str, .slice [.int .i64, .int .i64, .int .i64, .int .i64, .int .i64], .slice [.int .i64, .int .i64, .int .i64, .int .i64, .int .i64, .int .i64], .bool, .bool, .int .i64, .str, .int .i64]; let x1 : List K := [.int .i64, .int .i64, .int .i64, .int .i64]; let x2 : T := .o2 .ne (.o2 (.add .i64) (.o2 (.add .i64) (.o2 (.add .i64) (.var 11) (.var 13)) (.var 15)) (.var 17)) (.int .i64 0); let x3 : T := .lcons (.var 1) (.lcons (.var 8) .lnil); let x4 : T := .o2 .ne (.o2 (.add .i64) (.o2 (.add .i64) (.o2 (.add .i64) (.var 10) (.var 12)) (.var 14)) (.var 16)) (.int .i64 0); let x5 : T := .lcons (.var 1) (.lcons (.var 7) .lnil); let x7 : T := .o2 .ne (.var 21) (.int .i64 0); let x8 : T := .o1 .len (.var 8); let x9 : T := .o1 .not (.var 18); let x10 : T := .o2 .le (.o1 .len (.var 20)) (.int .i64 140737488355328); let x11 : T := .lcons (.bool false) .lnil; let x12 : T := .o1 .len (.var 5); let x13 : T := .o2 .gt (.o1 .len (.var 20)) (.int .i64 0); let x14 : T := .o2 .le x8 (.int .i64 140737488355328); let x15 : T := .o1 .not (.ite x2 (.bool true) x9); let x16 : T := .o1 .len (.var 7); let x17 : T := .o2 .ne (.var 20) (.int .i64 0); let x18 : T := .o2 .le (.int .i64 0) (.var 7); let x19 : T := .o2 .le (.int .i64 0) (.var 9); let x6 : T := .o2 .le x12 (.int .i64 140737488355328); .call none (.fn 29) [.lcons (.var 0) (.lcons (.var 1) (.lcons (.var 2) .lnil))] [.cell .bool] (.ite (.o1 .not (.var 3)) (.call none (.fn 18) [] [.cell .bool] (.ret [.d (.var 4)])) (.guess (.bool true) (.ite (.var 4) (.call none (.fn 35) [.var 2] [.own x0] (.guess (.bool true) (.ite (.var 6) (.mix 34 [3, 0] [(0, some 0), (0, some 1), (1, none)] (.fact x6 (.loop 0 [.int .i64 0, .var 5] [.int .i64, .slice x0] (.ite (.o2 .lt (.var 7) x12) (.need x18 (.need (.o2 .lt (.var 7) x8) (.again 0 [.o2 (.add .i64) (.var 7) (.int .i64 1), .upd (.var 8) (.var 7) 5 x11]))) (.fact x14 (.loop 1 [.int .i64 0] [.int .i64] (.ite (.o2 .lt (.var 9) x8) (.need x19 (.call none (.fn 36) [.lcons (.var 0) x3, .idx (.var 8) (.var 9) 0 .str] [.cell (.slice x1), .cell (.int .i64)] (.call none (.fn 25) [.lcons (.var 0) x3, .idx (.var 8) (.var 9) 0 .str] [.cell (.slice x1), .cell (.int .i64)] (.call none (.fn 37) [.lcons (.var 0) x3, .idx (.var 8) (.var 9) 0 .str] [.cell (.slice x1), .cell (.int .i64)] (.call none (.fn 27) [.lcons (.var 0) x3, .idx (.var 8) (.var 9) 0 .str] [.cell (.slice x1), .cell (.int .i64)] (.call (some (.o1 .not x2)) (.fn 38) [.var 10, .var 12] [.cell .bool] (.call (some x15) (.fn 38) [.var 14, .var 16] [.cell .bool] (.ite (.ite (.ite x2 (.bool true) x9) (.bool true) (.o1 .not (.var 19))) (.ret [.d (.bool false)]) (.call none (.fn 19) [.lcons (.var 0) x3, .idx (.var 8) (.var 9) 0 .str] [.cell (.slice x1), .cell (.int .i64)] (.fact (.ite (.o1 .not x7) x10 (.bool true)) (.ite (.ite x7 (.bool true) x13) (.ret [.d (.bool false)]) (.again 1 [.o2 (.add .i64) (.var 9) (.int .i64 1)])))))))))))) (.call none (.fn 18) [] [.cell .bool] (.ret [.d (.var 10)]))))))))) (.mix 34 [3, 0] [(0, some 0), (0, some 1), (1, none)] (.fact x6 (.loop 0 [.int .i64 0, .var 5] [.int .i64, .slice x0] (.ite (.o2 .lt (.var 7) x12) (.need x18 (.need (.o2 .lt (.var 7) x8) (.again 0 [.o2 (.add .i64) (.var 7) (.int .i64 1), .upd (.var 8) (.var 7) 5 x11]))) (.fact x14 (.loop 1 [.int .i64 0] [.int .i64] (.ite (.o2 .lt (.var 9) x8) (.need x19 (.call none (.fn 36) [.lcons (.var 0) x3, .idx (.var 8) (.var 9) 0 .str] [.cell (.slice x1), .cell (.int .i64)] (.call none (.fn 25) [.lcons (.var 0) x3, .idx (.var 8) (.var 9) 0 .str] [.cell (.slice x1), .cell (.int .i64)] (.call none (.fn 37) [.lcons (.var 0) x3, .idx (.var 8) (.var 9) 0 .str] [.cell (.slice x1), .cell (.int .i64)] (.call none (.fn 27) [.lcons (.var 0) x3, .idx (.var 8) (.var 9) 0 .str] [.cell (.slice x1), .cell (.int .i64)] (.call (some (.o1 .not x2)) (.fn 38) [.var 10, .var 12] [.cell .bool] (.call (some x15) (.fn 38) [.var 14, .var 16] [.cell .bool] (.ite (.ite (.ite x2 (.bool true) x9) (.bool true) (.o1 .not (.var 19))) (.ret [.d (.bool false)]) (.call none (.fn 19) [.lcons (.var 0) x3, .idx (.var 8) (.var 9) 0 .str] [.cell (.slice x1), .cell (.int .i64)] (.fact (.ite (.o1 .not x7) x10 (.bool true)) (.ite (.ite x7 (.bool true) x13) (.ret [.d (.bool false)]) (.again 1 [.o2 (.add .i64) (.var 9) (.int .i64 1)])))))))))))) (.call none (.fn 18) [] [.cell .bool] (.ret [.d (.var 10)])))))))))))) (.call none (.fn 35) [.var 2] [.own x0] (.mix 34 [3, 0] [(0, some 0), (0, some 1), (1, none)] (.fact x6 (.loop 0 [.int .i64 0, .var 5] [.int .i64, .slice x0] (.ite (.o2 .lt (.var 6) x12) (.need (.o2 .le (.int .i64 0) (.var 6)) (.need (.o2 .lt (.var 6) x16) (.again 0 [.o2 (.add .i64) (.var 6) (.int .i64 1), .upd (.var 7) (.var 6) 5 x11]))) (.fact (.o2 .le x16 (.int .i64 140737488355328)) (.loop 1 [.int .i64 0] [.int .i64] (.ite (.o2 .lt (.var 8) x16) (.need (.o2 .le (.int .i64 0) (.var 8)) (.call none (.fn 36) [.lcons (.var 0) x5, .idx (.var 7) (.var 8) 0 .str] [.cell (.slice x1), .cell (.int .i64)] (.call none (.fn 25) [.lcons (.var 0) x5, .idx (.var 7) (.var 8) 0 .str] [.cell (.slice x1), .cell (.int .i64)] (.call none (.fn 37) [.lcons (.var 0) x5, .idx (.var 7) (.var 8) 0 .str] [.cell (.slice x1), .cell (.int .i64)] (.call none (.fn 27) [.lcons (.var 0) x5, .idx (.var 7) (.var 8) 0 .str] [.cell (.slice x1), .cell (.int .i64)] (.call (some (.o1 .not x4)) (.fn 38) [.var 9, .var 11] [.cell .bool] (.call (some (.o1 .not (.ite x4 (.bool true) (.o1 .not (.var 17))))) (.fn 38) [.var 13, .var 15] [.cell .bool] (.ite (.ite (.ite x4 (.bool true) (.o1 .not (.var 17))) (.bool true) x9) (.ret [.d (.bool false)]) (.call none (.fn 19) [.lcons (.var 0) x5, .idx (.var 7) (.var 8) 0 .str] [.cell (.slice x1), .cell (.int .i64)] (.fact (.ite (.o1 .not x17) (.o2 .le (.o1 .len (.var 19)) (.int .i64 140737488355328)) (.bool true)) (.ite (.ite x17 (.bool true) (.o2 .gt (.o1 .len (.var 19)) (.int .i64 0))) (.ret [.d (.bool false)]) (.again 1 [.o2 (.add .i64) (.var 8) (.int .i64 1)])))))))))))) (.call none (.fn 18) [] [.cell .bool] (.ret [.d (.var 9)])))))))))))))
theorem t7_ok : fnO Tryz.prog mdM 7 [.agg [.int .i64, .int .i64, .slice [.str, .str, .slice [.int .i64, .int .i64, .int .i64, .int .i64, .int .i64], .slice [.int .i64, .int .i64, .int .i64, .int .i64, .int .i64, .int .i64], .bool, .bool, .int .i64, .str, .int .i64]]] = t7 := by kernel_rfl
theorem c7 : callable Tryz.prog 7 = true := by kernel_rfl
def half (cs : List Cue) (i : Nat) : List Cue := (cs.take i).map unmark ++ cs.drop i
theorem half_len (cs : List Cue) (i : Nat) : (half cs i).length = cs.length := by simp [half]; omega
theorem half_zero (cs : List Cue) : half cs 0 = cs := by simp [half]
theorem half_all (cs : List Cue) : half cs cs.length = cs.map unmark := by simp [half]
theorem half_at (cs : List Cue) (i j : Nat) : (half cs i)[j]? = cs[j]?.map fun c => if j < i then unmark c else c := by
 unfold half
 rw [List.getElem?_append]
 by_cases h : j < i
 · by_cases h2 : j < cs.length
   · rw [if_pos (by simp; omega), List.getElem?_map, List.getElem?_take, if_pos h]
     simp [h]
   · rw [if_neg (by simp; omega), List.getElem?_drop, List.getElem?_eq_none (by simp; omega), List.getElem?_eq_none (by omega)]
     rfl
 · rw [if_neg (by simp; omega), List.getElem?_drop]
   simp only [h, if_false, List.length_map, List.length_take]
   by_cases h2 : i ≤ cs.length
   · rw [Nat.min_eq_left h2, show i + (j - i) = j by omega]; simp
   · rw [List.getElem?_eq_none (by omega), List.getElem?_eq_none (by omega)]; rfl
theorem half_succ {cs : List Cue} {i : Nat} (hi : i < cs.length) : (((half cs i).map Cue.enc).modify i fun x => setCells x 5 [.bool false]) = (half cs (i + 1)).map Cue.enc := by
 apply List.ext_getElem?
 intro j
 rw [List.getElem?_modify, List.getElem?_map, List.getElem?_map, half_at, half_at]
 cases cs[j]? with
 | none => rfl
 | some c =>
   by_cases h : i = j
   · subst h
     simp [setCells, Cue.enc, unmark]
   · by_cases h2 : j < i
     · simp [h, h2, show j < i + 1 by omega]
     · simp [h, h2, show ¬ j < i + 1 by omega]
theorem rest_mark (cs : List Cue) : ∀ c ∈ cs.map unmark, c.mark = false := by
 intro c hc
 obtain ⟨d, _, rfl⟩ := List.mem_map.1 hc
 rfl
theorem rest_sub (cs : List Cue) : ((cs.map unmark).map unmark).Sublist (cs.map unmark) := by
 rw [List.map_map]
 exact List.Sublist.refl _
theorem law7m_typed : Contract Tryz.prog 7 fun args K => ∃ (l : Lis), l.Ok ∧ args = [.agg l.enc] ∧ K [.d (.bool true)] := by
 refine .of c7 t7_ok ?_
 rintro _ K ⟨l, hl, rfl, hK⟩ hsm
 refine ⟨l.enc, rfl, Lis.has hl, ?_⟩
 refine denR_call good20_ok ⟨l, hl, by simp only [zz, reduceCtorEq, Lis.enc], fun b hb => ⟨[.bool b], rfl, ?_⟩⟩
 simp only [zz, reduceCtorEq, Lis.enc, List.length_map]
 refine ⟨fun _ => denR_call awake20_ok ⟨rfl, _, rfl, by simp only [zz, reduceCtorEq]; exact hK⟩, fun hb1 => ?_⟩
 have hch := hb (by simpa using hb1)
 have hR := rightT_of hl hch
 have hlen := hR.len
 refine fun b1 _ => ?_
 cases b1
 all_goals simp only [zz, reduceCtorEq, Lis.enc, List.length_map]
 all_goals refine denR_call cloneA_ok ⟨l.cues, hl.cues, by omega, by simp only [zz, reduceCtorEq, Lis.enc], _, rfl, ?_⟩
 case' true =>
   refine fun b2 _ => ?_
   cases b2
 all_goals try simp only [zz, reduceCtorEq, Lis.enc, List.length_map]
 all_goals refine ⟨withMix, ?_⟩
 all_goals simp only [zz, reduceCtorEq, Lis.enc, List.length_map]
 all_goals intro _
 all_goals
   refine loop_goI l.cues (fun _ _ (_ : List Cue) => ()) (fun i a => [.int .i64 i, .slice (a.map Cue.enc)]) (fun i a => a = half l.cues i) l.cues () rfl (half_zero _).symm 0 (fun _ _ => rfl) rfl ?_ ?_
   · intro i hi a ha _
     subst ha
     simp only [zz, reduceCtorEq, hi, List.length_map, half_len]
     exact ⟨by omega, half l.cues (i + 1), ⟨by rw [wr64_eq (by omega)]; rfl, by rw [← half_succ hi]; rfl⟩, rfl⟩
   · intro a ha _
     rw [half_all] at ha
     subst ha
     simp only [zz, reduceCtorEq, List.length_map, Nat.lt_irrefl]
     intro _
     have hsub := rest_sub l.cues
     have hmk := rest_mark l.cues
     have hp : Lis.Ok { l with cues := l.cues.map unmark } := ok_unmark hl rfl rfl hsub
     have hchp : checkL order05 { l with cues := l.cues.map unmark } = 0 := checkL_unmark hch rfl rfl hsub
     have hcl : (l.cues.map unmark).length = l.cues.length := by simp
     generalize l.cues.map unmark = cs at hmk hp hchp hcl
     refine loop_go cs (fun _ _ (_ : Unit) => ()) (fun i _ => [.int .i64 i]) () () rfl 0 (fun _ _ => rfl) rfl ?_ ?_
     · intro i hi _ _
       simp only [zz, reduceCtorEq, hi, List.length_map]
       refine ⟨by omega, ?_⟩
       refine denR_call lookC_ok ⟨{ l with cues := cs }, cs[i].num, hp, by simp only [zz, reduceCtorEq, Lis.enc, getD_map hi, Cue.enc], ?_⟩
       rw [lookR_at (l := { l with cues := cs }) hchp hi]
       refine ⟨_, rfl, ?_⟩
       refine denR_call markedC_ok ⟨{ l with cues := cs }, cs[i].num, hp, by simp only [zz, reduceCtorEq, Lis.enc, getD_map hi, Cue.enc], ?_⟩
       rw [markedR_num (l := { l with cues := cs }) hchp hi]
       refine ⟨_, rfl, ?_⟩
       refine denR_call stepsC_ok ⟨{ l with cues := cs }, cs[i].num, hp, by simp only [zz, reduceCtorEq, Lis.enc, getD_map hi, Cue.enc], ?_⟩
       rw [stepsR_at (l := { l with cues := cs }) hchp hi]
       refine ⟨_, rfl, ?_⟩
       refine denR_call mstepsC_ok ⟨{ l with cues := cs }, cs[i].num, hp, by simp only [zz, reduceCtorEq, Lis.enc, getD_map hi, Cue.enc], ?_⟩
       rw [mstepsR_at (l := { l with cues := cs }) hchp hi]
       intro rvs hr
       refine ⟨[.slice ((diffE (markedL cs i) (markedL cs (i + 1))).map Ent.enc), .int .i64 0], by rcases hr with rfl | rfl <;> rfl, ?_⟩
       have hM : ∀ n, markedL cs n = lookL cs n := marked_rest hmk
       have hAok : ∀ e ∈ lookL cs (i + 1), e.Ok := (look_right (l := { l with cues := cs }) hp hchp (i + 1)).ok
       have hDok : ∀ e ∈ diffE (lookL cs i) (lookL cs (i + 1)), e.Ok := fun e he => hAok e (diffE_sub' e he)
       simp only [hM]
       generalize diffE (lookL cs i) (lookL cs (i + 1)) = S at hDok ⊢
       have h0 : wr64 0 = 0 := by rw [wr64_eq] <;> omega
       generalize lookL cs (i + 1) = A at hAok ⊢
       refine denR_gcall eqEnts_ok true [.bool true] (by simp only [zz, reduceCtorEq, Int.add_zero, h0] <;> simp) (fun _ => ⟨A, hAok, by simp only [zz, reduceCtorEq], rfl⟩) (fun h => by cases h) ?_
       refine denR_gcall eqEnts_ok true [.bool true] (by simp only [zz, reduceCtorEq, Int.add_zero, h0] <;> simp) (fun _ => ⟨S, hDok, by simp only [zz, reduceCtorEq], rfl⟩) (fun h => by cases h) ?_
       simp only [zz, reduceCtorEq, Lis.enc, List.length_map, Int.add_zero, h0]
       refine denR_call earlyC_ok ⟨{ l with cues := cs }, cs[i].num, hp, by simp only [zz, reduceCtorEq, Lis.enc, getD_map hi, Cue.enc], ?_⟩
       rw [earlyR_at (l := { l with cues := cs }) hchp hi]
       intro rvs hr
       have hE : aheadL cs (i + 1) = [] := ahead_rest hmk _
       refine ⟨[.slice ((aheadL cs (i + 1)).map Ent.enc), .int .i64 0], by rcases hr with rfl | rfl <;> rfl, ?_⟩
       rw [hE]
       simp only [zz, reduceCtorEq, Lis.enc, List.length_map, Int.add_zero, h0]
       exact fun _ => ⟨fun h => absurd h (by simp), fun _ => ⟨(), by rw [wr64_eq (by omega)]; rfl⟩⟩
     · intro _ _
       simp only [zz, reduceCtorEq, List.length_map, Nat.lt_irrefl]
       refine denR_call awake20_ok ⟨rfl, _, rfl, ?_⟩
       simp only [zz, reduceCtorEq]
       exact hK
theorem law7m : Contract Tryz.prog 7 (LawSpec Tryz.prog 7) :=
 law7m_typed.weaken fun args K _ h => by
   obtain ⟨h1, h2, hK⟩ := lawArgs [.agg liKs] (by kernel_rfl) h
   match args, h1 with
   | [a], _ =>
     obtain ⟨l, hl, rfl⟩ := Lis.ofAgg (h2 0 _ _ rfl rfl)
     exact ⟨l, hl, rfl, hK⟩
end Go.Sx.La
