/-
 Part 9 of the proof: the executor over the kit's code with its soundness, or contracts of functions.
-/
import Derived.Test.YthlobibofbddeaaGreatDoorMEh
set_option linter.unusedSimpArgs false
set_option linter.unusedVariables false
set_option linter.unusedSectionVars false
set_option linter.defProp false
set_option maxRecDepth 100000
namespace Go.Sx.La
open Go Go.Sx Go.RowKit Go.Proofs
def givenM (p : Int) (es : List Ent) : List Mov := es.map fun e => ⟨e.pa, e.va, p⟩
noncomputable def t18 : R := let x0 : List K := [.int .i64, .int .i64, .slice [.str, .str, .slice [.int .i64, .int .i64, .int .i64, .int .i64, .int .i64], .slice [.int .i64, .int .i64, .int .i64, .int .i64, .int .i64, .int .i64], .bool, .bool, .int .i64, .str, .int .i64]]; let x1 : T := .o1 .not (.bool true); let x2 : T := .lcons (.var 1) (.lcons (.var 2) .lnil); let x3 : T := .lcons (.int .i64 2) (.lcons (.int .i64 1) .lnil); let x4 : T := .o1 .not (.o2 .ne (.o2 (.add .i64) (.o2 (.add .i64) (.o2 (.add .i64) (.var 4) (.var 6)) (.var 8)) (.var 10)) (.int .i64 0)); let x5 : List K := [.int .i64, .int .i64, .int .i64, .int .i64]; let x6 : T := .push (.push (.push .nils (.lcons (.int .i64 0) .lnil)) (.lcons (.int .i64 7) .lnil)) (.lcons (.int .i64 50) .lnil); let x7 : T := .push .nils (.lcons (.int .i64 80) .lnil); let x8 : T := .o1 .not (.bool false); let x9 : T := .lcons (.int .i64 9) .lnil; let x10 : T := .o2 .eq (.var 22) (.int .i64 0); let x11 : T := .o1 .not (.o1 .not (.var 12)); let x12 : T := .lcons (.int .i64 (-1)) .lnil; let x13 : T := .o1 .not (.o1 .not (.var 14)); .call none (.fn 68) [] [.agg x0] (.call none (.fn 19) [.lcons (.var 0) x2, .str [51]] [.cell (.slice x5), .cell (.int .i64)] (.call none (.fn 25) [.lcons (.var 0) x2, .str [51]] [.cell (.slice x5), .cell (.int .i64)] (.call none (.fn 27) [.lcons (.var 0) x2, .str [52]] [.cell (.slice x5), .cell (.int .i64)] (.call none (.fn 21) [.lcons (.var 0) x2, .str [52]] [.cell (.slice [.int .i64, .int .i64]), .cell (.int .i64)] (.call (some x4) (.fn 70) [.var 3] [.cell (.slice [.int .i64])] (.ite x4 (.call (some x8) (.fn 69) [.var 11, .push .nils (.lcons (.int .i64 7) .lnil)] [.cell .bool] (.call (some x11) (.fn 70) [.var 5] [.cell (.slice [.int .i64])] (.ite x11 (.call (some x8) (.fn 69) [.var 13, .push x6 x12] [.cell .bool] (.call (some x13) (.fn 70) [.var 7] [.cell (.slice [.int .i64])] (.ite x13 (.call (some x8) (.fn 69) [.var 15, .push x7 x9] [.cell .bool] (.ite (.o1 .not (.o1 .not (.var 16))) (.call (some x8) (.fn 24) [.var 9, .push .nils x3] [.cell .bool] (.ite (.o1 .not (.var 17)) (.ret [.d (.bool false)]) (.call none (.fn 71) [.lcons (.var 0) x2, .str [51]] [.agg x0] (.call none (.fn 19) [.lcons (.var 18) (.lcons (.var 19) (.lcons (.var 20) .lnil)), .str [50]] [.cell (.slice x5), .cell (.int .i64)] (.fact (.ite x10 (.o2 .le (.o1 .len (.var 21)) (.int .i64 140737488355328)) (.bool true)) (.ret [.d (.ite x10 (.o2 .eq (.o1 .len (.var 21)) (.int .i64 0)) (.bool false))])))))) (.call (some x1) (.fn 24) [.var 9, .nils] [.cell .bool] (.ret [.d (.bool false)])))) (.call (some x1) (.fn 69) [.var 15, .nils] [.cell .bool] (.ite x1 (.call none (.fn 24) [.var 9, .push .nils x3] [.cell .bool] (.ret [.d (.bool false)])) (.call (some (.bool false)) (.fn 24) [.var 9, .nils] [.cell .bool] (.ret [.d (.bool false)]))))))) (.call (some x1) (.fn 69) [.var 13, .nils] [.cell .bool] (.call (some x1) (.fn 70) [.var 7] [.cell (.slice [.int .i64])] (.ite x1 (.call none (.fn 69) [.var 15, .push x7 x9] [.cell .bool] (.call none (.fn 24) [.var 9, .push .nils x3] [.cell .bool] (.ret [.d (.bool false)]))) (.call (some (.bool false)) (.fn 69) [.var 15, .nils] [.cell .bool] (.call (some (.bool false)) (.fn 24) [.var 9, .nils] [.cell .bool] (.ret [.d (.bool false)]))))))))) (.call (some x1) (.fn 69) [.var 11, .nils] [.cell .bool] (.call (some x1) (.fn 70) [.var 5] [.cell (.slice [.int .i64])] (.ite x1 (.call none (.fn 69) [.var 13, .push x6 x12] [.cell .bool] (.call none (.fn 70) [.var 7] [.cell (.slice [.int .i64])] (.call none (.fn 69) [.var 15, .push x7 x9] [.cell .bool] (.call none (.fn 24) [.var 9, .push .nils x3] [.cell .bool] (.ret [.d (.bool false)]))))) (.call (some (.bool false)) (.fn 69) [.var 13, .nils] [.cell .bool] (.call (some (.bool false)) (.fn 70) [.var 7] [.cell (.slice [.int .i64])] (.call (some (.bool false)) (.fn 69) [.var 15, .nils] [.cell .bool] (.call (some (.bool false)) (.fn 24) [.var 9, .nils] [.cell .bool] (.ret [.d (.bool false)]))))))))))))))
theorem t18_ok : fnO Tryz.prog mdA 18 [] = t18 := by kernel_rfl
theorem c18 : callable Tryz.prog 18 = true := by kernel_rfl
noncomputable def t68 : R := let x1 : List K := [.int .i64, .int .i64, .int .i64, .int .i64, .int .i64]; let x0 : List K := [.str, .str, .slice x1, .slice [.int .i64, .int .i64, .int .i64, .int .i64, .int .i64, .int .i64], .bool, .bool, .int .i64, .str, .int .i64]; .call none (.fn 117) [.int .i64 1, .int .i64 0, .int .i64 80] [.agg x1] (.call none (.fn 117) [.int .i64 1, .int .i64 1, .int .i64 7] [.agg x1] (.call none (.fn 117) [.int .i64 2, .int .i64 1, .int .i64 9] [.agg x1] (.call none (.fn 116) [.str [52], .push (.push (.push .nils (.lcons (.var 0) (.lcons (.var 1) (.lcons (.var 2) (.lcons (.var 3) (.lcons (.var 4) .lnil)))))) (.lcons (.var 5) (.lcons (.var 6) (.lcons (.var 7) (.lcons (.var 8) (.lcons (.var 9) .lnil)))))) (.lcons (.var 10) (.lcons (.var 11) (.lcons (.var 12) (.lcons (.var 13) (.lcons (.var 14) .lnil)))))] [.agg x0] (.call none (.fn 117) [.int .i64 1, .int .i64 0, .int .i64 100] [.agg x1] (.call none (.fn 116) [.str [49], .push .nils (.lcons (.var 24) (.lcons (.var 25) (.lcons (.var 26) (.lcons (.var 27) (.lcons (.var 28) .lnil)))))] [.agg x0] (.call none (.fn 117) [.int .i64 1, .int .i64 0, .int .i64 0] [.agg x1] (.call none (.fn 117) [.int .i64 2, .int .i64 0, .int .i64 50] [.agg x1] (.call none (.fn 116) [.str [50], .push (.push .nils (.lcons (.var 38) (.lcons (.var 39) (.lcons (.var 40) (.lcons (.var 41) (.lcons (.var 42) .lnil)))))) (.lcons (.var 43) (.lcons (.var 44) (.lcons (.var 45) (.lcons (.var 46) (.lcons (.var 47) .lnil)))))] [.agg x0] (.call none (.fn 116) [.str [51], .nils] [.agg x0] (.ret [.d (.lcons (.int .i64 1) (.lcons (.int .i64 0) (.lcons (.push (.push (.push (.push .nils (.lcons (.var 29) (.lcons (.var 30) (.lcons (.var 31) (.lcons (.var 32) (.lcons (.var 33) (.lcons (.var 34) (.lcons (.var 35) (.lcons (.var 36) (.lcons (.var 37) .lnil)))))))))) (.lcons (.var 48) (.lcons (.var 49) (.lcons (.var 50) (.lcons (.var 51) (.lcons (.var 52) (.lcons (.var 53) (.lcons (.var 54) (.lcons (.var 55) (.lcons (.var 56) .lnil)))))))))) (.lcons (.var 57) (.lcons (.var 58) (.lcons (.var 59) (.lcons (.var 60) (.lcons (.var 61) (.lcons (.var 62) (.lcons (.var 63) (.lcons (.var 64) (.lcons (.var 65) .lnil)))))))))) (.lcons (.var 15) (.lcons (.var 16) (.lcons (.var 17) (.lcons (.var 18) (.lcons (.var 19) (.lcons (.bool true) (.lcons (.var 21) (.lcons (.var 22) (.lcons (.var 23) .lnil)))))))))) .lnil)))]))))))))))
theorem t68_ok : fnO Tryz.prog mdA 68 [] = t68 := by kernel_rfl
theorem c68 : callable Tryz.prog 68 = true := by kernel_rfl
noncomputable def t116 : R := let x0 : T := .lcons (.int .i64 0) .lnil; .ret [.d (.lcons (.var 0) (.lcons (.str []) (.lcons (.var 1) (.lcons (.rep (.int .i64 1) (.lcons (.int .i64 0) (.lcons (.int .i64 0) (.lcons (.int .i64 0) (.lcons (.int .i64 0) (.lcons (.int .i64 0) x0)))))) (.lcons (.bool false) (.lcons (.bool false) (.lcons (.int .i64 (-1)) (.lcons (.str []) x0))))))))]
theorem t116_ok : fnO Tryz.prog mdA 116 [.cell .str, .cell (.slice [.int .i64, .int .i64, .int .i64, .int .i64, .int .i64])] = t116 := by kernel_rfl
theorem c116 : callable Tryz.prog 116 = true := by kernel_rfl
noncomputable def t117 : R := .call none (.fn 149) [.var 2] [.agg [.int .i64, .int .i64]] (.ret [.d (.lcons (.var 0) (.lcons (.var 1) (.lcons (.var 3) (.lcons (.var 4) (.lcons (.int .i64 1) .lnil)))))])
theorem t117_ok : fnO Tryz.prog mdA 117 [.cell (.int .i64), .cell (.int .i64), .cell (.int .i64)] = t117 := by kernel_rfl
theorem c117 : callable Tryz.prog 117 = true := by kernel_rfl
noncomputable def t69 : R := let x0 : T := .o1 .len (.var 0); let x1 : T := .o1 .len (.var 1); .fact (.o2 .le x0 (.int .i64 140737488355328)) (.fact (.o2 .le x1 (.int .i64 140737488355328)) (.ite (.o2 .ne x0 x1) (.ret [.d (.bool false)]) (.loop 0 [.int .i64 0] [.int .i64] (.ite (.o2 .lt (.var 2) x0) (.need (.o2 .le (.int .i64 0) (.var 2)) (.need (.o2 .lt (.var 2) x1) (.ite (.o2 .ne (.idx (.var 0) (.var 2) 0 (.int .i64)) (.idx (.var 1) (.var 2) 0 (.int .i64))) (.ret [.d (.bool false)]) (.again 0 [.o2 (.add .i64) (.var 2) (.int .i64 1)])))) (.ret [.d (.bool true)])))))
theorem t69_ok : fnO Tryz.prog mdA 69 [.cell (.slice [.int .i64]), .cell (.slice [.int .i64])] = t69 := by kernel_rfl
theorem c69 : callable Tryz.prog 69 = true := by kernel_rfl
noncomputable def t70 : R := let x2 : T := .push .nils (.lcons (.int .i64 (-1)) .lnil); let x3 : T := .idx (.var 0) (.var 2) 3 (.int .i64); let x0 : T := .o2 .band (.o2 .eq (.idx (.var 0) (.var 2) 2 (.int .i64)) (.var 3)) (.o2 .band (.o2 .eq x3 (.var 4)) (.bool true)); let x1 : T := .push .nils (.lcons x3 .lnil); .fact (.o2 .le (.o1 .len (.var 0)) (.int .i64 140737488355328)) (.loop 0 [.nils, .int .i64 0] [.slice [.int .i64], .int .i64] (.ite (.o2 .lt (.var 2) (.o1 .len (.var 0))) (.need (.o2 .le (.int .i64 0) (.var 2)) (.call none (.fn 118) [] [.agg [.int .i64, .int .i64]] (.need (.ite x0 (.o2 .le (.o1 .len (.o2 .app (.var 1) x2)) (.int .i64 17592186044416)) (.bool true)) (.need (.ite (.o1 .not x0) (.o2 .le (.o1 .len (.o2 .app (.var 1) x1)) (.int .i64 17592186044416)) (.bool true)) (.lets [.ite x0 x2 x1, .ite x0 (.o2 .app (.var 1) x2) (.o2 .app (.var 1) x1)] (.again 0 [.var 6, .o2 (.add .i64) (.var 2) (.int .i64 1)])))))) (.ret [.own 1 (.var 1)])))
theorem t70_ok : fnO Tryz.prog mdA 70 [.cell (.slice [.int .i64, .int .i64, .int .i64, .int .i64])] = t70 := by kernel_rfl
theorem c70 : callable Tryz.prog 70 = true := by kernel_rfl
noncomputable def t29 : R := let x0 : T := .lcons (.var 1) (.lcons (.var 2) .lnil); .call none (.fn 17) [.lcons (.var 0) x0] [.cell .bool] (.call (some (.var 3)) (.fn 67) [.lcons (.var 0) x0] [.cell (.int .i64)] (.ret [.d (.ite (.var 3) (.o2 .eq (.var 4) (.int .i64 0)) (.bool false))]))
theorem t29_ok : fnO Tryz.prog mdA 29 [.agg [.int .i64, .int .i64, .slice [.str, .str, .slice [.int .i64, .int .i64, .int .i64, .int .i64, .int .i64], .slice [.int .i64, .int .i64, .int .i64, .int .i64, .int .i64, .int .i64], .bool, .bool, .int .i64, .str, .int .i64]]] = t29 := by kernel_rfl
theorem c29 : callable Tryz.prog 29 = true := by kernel_rfl
def dark4 : Cue := { cue169 [52] false [mv18 1 0 80, mv18 1 1 7, mv18 2 1 9] with mark := true }
def darkL : Lis := ⟨1, 0, [cue169 [49] false [mv18 1 0 100], cue169 [50] false [mv18 1 0 0, mv18 2 0 50], cue169 [51] false [], dark4]⟩
def dark3 : Lis := { darkL with cues := without darkL.cues [51] }
def e21 (v : Val) : Ent := ⟨⟨2, 1⟩, v⟩
theorem dk_e : earlyR darkL [51] = ([e11 ⟨0, 7⟩], 0) := by kernel_rfl
theorem dk_m : markedR darkL [51] = ([e10 ⟨0, 0⟩, e11 ⟨0, 7⟩, e20 ⟨0, 50⟩, e21 hval], 0) := by kernel_rfl
theorem dk_s : mstepsR darkL [52] = ([e10 ⟨0, 80⟩, e21 ⟨0, 9⟩], 0) := by kernel_rfl
theorem dk_l : lateR darkL [52] = ([⟨2, 1⟩], 0) := by kernel_rfl
theorem dk_3 : earlyR dark3 [50] = ([], 0) := by kernel_rfl
theorem sml {v : Int} (h : -1000 ≤ v ∧ v ≤ 1000) : I64 v := ⟨by omega, by omega⟩
theorem darkL_Ok : darkL.Ok := by
 have hc : ∀ (n : List UInt8) (b : Bool) (ms : List Mov), (∀ m ∈ ms, m.Ok) → (cue169 n b ms).Ok := fun n b ms h => ⟨h, by simp [cue169, zt, Tim.Ok, I64], by simp [cue169, I64], by simp [cue169, I64]⟩
 have m1 : ∀ {c a v : Int}, -1000 ≤ c ∧ c ≤ 1000 → -1000 ≤ a ∧ a ≤ 1000 → -1000 ≤ v ∧ v ≤ 1000 → (mv18 c a v).Ok := fun h1 h2 h3 => mv18_Ok (sml h1) (sml h2) (sml h3)
 refine ⟨by simp [darkL, I64], by simp [darkL, I64], fun c hcm => ?_⟩
 simp only [darkL, List.mem_cons, List.not_mem_nil, or_false] at hcm
 rcases hcm with rfl | rfl | rfl | rfl
 · exact hc _ _ _ fun m hm => by simp only [List.mem_cons, List.not_mem_nil, or_false] at hm; rcases hm with rfl; exact m1 (by omega) (by omega) (by omega)
 · exact hc _ _ _ fun m hm => by simp only [List.mem_cons, List.not_mem_nil, or_false] at hm; rcases hm with rfl | rfl <;> exact m1 (by omega) (by omega) (by omega)
 · exact hc _ _ _ fun m hm => by simp at hm
 · have h4 := hc [52] false [mv18 1 0 80, mv18 1 1 7, mv18 2 1 9] fun m hm => by simp only [List.mem_cons, List.not_mem_nil, or_false] at hm; rcases hm with rfl | rfl | rfl <;> exact m1 (by omega) (by omega) (by omega)
   exact ⟨h4.moves, h4.parts, h4.follow, h4.loops⟩
theorem dark3_Ok : dark3.Ok := ⟨darkL_Ok.num, darkL_Ok.prio, fun c hc => darkL_Ok.cues c (List.mem_filter.1 hc).1⟩
theorem mv117_ok : Contract Tryz.prog 117 fun args K => ∃ c a v : Int, I64 c ∧ I64 a ∧ I64 v ∧ args = [.int .i64 c, .int .i64 a, .int .i64 v] ∧ K [.d (.agg (mv18 c a v).enc)] := by
 refine .of c117 t117_ok ?_
 rintro _ K ⟨c, a, v, hc, ha, hv, rfl, hK⟩ hsm
 refine ⟨[.int .i64 c, .int .i64 a, .int .i64 v], rfl, ⟨i64_has hc, i64_has ha, i64_has hv, trivial⟩, ?_⟩
 refine denR_call at15_ok ⟨v, hv, rfl, _, rfl, ?_⟩
 simp only [zz, reduceCtorEq, Val.enc]
 exact hK
theorem cue116_ok : Contract Tryz.prog 116 fun args K => ∃ (n : List UInt8) (ms : List Mov), (∀ m ∈ ms, m.Ok) ∧ args = [.str n, .slice (ms.map Mov.enc)] ∧ K [.d (.agg (cue169 n false ms).enc)] := by
 refine .of c116 t116_ok ?_
 rintro _ K ⟨n, ms, hms, rfl, hK⟩ hsm
 refine ⟨[.str n, .slice (ms.map Mov.enc)], rfl, ⟨trivial, slice_has fun m hm => Mov.has (hms m hm), trivial⟩, ?_⟩
 exact hK
theorem darkL_ok : Contract Tryz.prog 68 fun args K => args = [] ∧ K [.d (.agg darkL.enc)] := by
 refine .of c68 t68_ok ?_
 rintro _ K ⟨rfl, hK⟩ hsm
 refine ⟨[], rfl, trivial, ?_⟩
 have m1 : ∀ {c a v : Int}, -1000 ≤ c ∧ c ≤ 1000 → -1000 ≤ a ∧ a ≤ 1000 → -1000 ≤ v ∧ v ≤ 1000 → (mv18 c a v).Ok := fun h1 h2 h3 => mv18_Ok (sml h1) (sml h2) (sml h3)
 refine denR_call mv117_ok ⟨1, 0, 80, sml (by omega), sml (by omega), sml (by omega), rfl, _, rfl, ?_⟩
 refine denR_call mv117_ok ⟨1, 1, 7, sml (by omega), sml (by omega), sml (by omega), rfl, _, rfl, ?_⟩
 refine denR_call mv117_ok ⟨2, 1, 9, sml (by omega), sml (by omega), sml (by omega), rfl, _, rfl, ?_⟩
 refine denR_call cue116_ok ⟨[52], [mv18 1 0 80, mv18 1 1 7, mv18 2 1 9], fun m hm => by simp only [List.mem_cons, List.not_mem_nil, or_false] at hm; rcases hm with rfl | rfl | rfl <;> exact m1 (by omega) (by omega) (by omega), rfl, _, rfl, ?_⟩
 refine denR_call mv117_ok ⟨1, 0, 100, sml (by omega), sml (by omega), sml (by omega), rfl, _, rfl, ?_⟩
 refine denR_call cue116_ok ⟨[49], [mv18 1 0 100], fun m hm => by simp only [List.mem_cons, List.not_mem_nil, or_false] at hm; rcases hm with rfl; exact m1 (by omega) (by omega) (by omega), rfl, _, rfl, ?_⟩
 refine denR_call mv117_ok ⟨1, 0, 0, sml (by omega), sml (by omega), sml (by omega), rfl, _, rfl, ?_⟩
 refine denR_call mv117_ok ⟨2, 0, 50, sml (by omega), sml (by omega), sml (by omega), rfl, _, rfl, ?_⟩
 refine denR_call cue116_ok ⟨[50], [mv18 1 0 0, mv18 2 0 50], fun m hm => by simp only [List.mem_cons, List.not_mem_nil, or_false] at hm; rcases hm with rfl | rfl <;> exact m1 (by omega) (by omega) (by omega), rfl, _, rfl, ?_⟩
 refine denR_call cue116_ok ⟨[51], [], by simp, rfl, _, rfl, ?_⟩
 exact hK
def levL (es : List Ent) : List Int := es.map fun e => if e.va = hval then -1 else e.va.lev
def encI (xs : List Int) : List (List D) := xs.map fun x => [.int .i64 x]
theorem levels_ok : Contract Tryz.prog 70 fun args K => ∃ (es : List Ent), (∀ e ∈ es, e.Ok) ∧ es.length ≤ 10000 ∧ args = [.slice (es.map Ent.enc)] ∧ K [.own 1 (encI (levL es))] := by
 refine .of c70 t70_ok ?_
 rintro _ K ⟨es, hes, hlen, rfl, hK⟩ hsm
 refine ⟨[.slice (es.map Ent.enc)], rfl, ⟨ents_has hes, trivial⟩, ?_⟩
 simp only [zz, reduceCtorEq, t70, List.length_map]
 intro hcap
 refine loop_goI es (fun _ es (acc : List Int) => acc ++ levL es) (fun i acc => [.slice (encI acc), .int .i64 i]) (fun i acc => acc.length = i) [] (levL es) rfl rfl 1 (fun _ _ => rfl) rfl ?_ ?_
 · intro i hi acc hI hgo
   have hv : (es[i].va = hval) ↔ (es[i].va.pal = -1 ∧ es[i].va.lev = 0) := val_eq _ _
   have hal : (encI acc).length = i := by simp [encI, hI]
   simp only [zz, reduceCtorEq, List.length_map, hi, getD_map hi, Ent.enc]
   refine ⟨by omega, ?_⟩
   refine denR_call home15_ok ⟨rfl, _, rfl, ?_⟩
   simp only [zz, reduceCtorEq, getD_map hi, Ent.enc, hval, Val.enc, List.length_append, hal]
   refine ⟨by simp <;> omega, by simp <;> omega, acc ++ [if es[i].va = hval then -1 else es[i].va.lev], ⟨?_, by rw [wr64_eq] <;> omega⟩, by simp [hI], by simp only [levL, List.append_assoc, List.singleton_append, List.map_cons, List.map_drop] at hgo ⊢; exact hgo⟩
   by_cases h : es[i].va = hval
   · rw [if_pos h]
     have := hv.1 h
     simp [this, encI]
   · rw [if_neg h]
     have : ¬ (es[i].va.pal = -1 ∧ es[i].va.lev = 0) := fun e => h (hv.2 e)
     simp [this, encI]
 · intro acc hI hgo
   simp only [zz, reduceCtorEq, List.length_map, Nat.lt_irrefl]
   simp only [levL, List.map_nil, List.append_nil] at hgo
   rw [hgo]; exact hK
theorem eqInts_ok : Contract Tryz.prog 69 fun args K => ∃ (xs : List Int), (∀ x ∈ xs, I64 x) ∧ args = [.slice (encI xs), .slice (encI xs)] ∧ K [.d (.bool true)] := by
 refine .of c69 t69_ok ?_
 rintro _ K ⟨xs, hxs, rfl, hK⟩ hsm
 have hh : HasK (.slice [.int .i64]) (.slice (encI xs)) := slice_has fun x hx => ⟨i64_has (hxs x hx), trivial⟩
 refine ⟨[.slice (encI xs), .slice (encI xs)], rfl, ⟨hh, hh, trivial⟩, ?_⟩
 have hl : (encI xs).length = xs.length := by simp [encI]
 simp only [zz, reduceCtorEq, t69, hl]
 intro hcap _
 refine loop_go xs (fun _ _ (_ : Unit) => ()) (fun i _ => [.int .i64 i]) () () rfl 0 (fun _ _ => rfl) rfl ?_ ?_
 · intro i hi _ _
   have hget : (encI xs).getD i [] = [.int .i64 xs[i]] := getD_map (enc := fun x => [D.int .i64 x]) hi
   simp only [zz, reduceCtorEq, hl, hi, hget]
   exact ⟨by omega, (), by rw [wr64_eq (by omega)]; rfl⟩
 · intro _ _
   simp only [zz, reduceCtorEq, hl, Nat.lt_irrefl]
   exact hK
theorem awake20_ok : Contract Tryz.prog 18 fun args K => args = [] ∧ K [.d (.bool true)] := by
 refine .of c18 t18_ok ?_
 rintro _ K ⟨rfl, hK⟩ hsm
 refine ⟨[], rfl, trivial, ?_⟩
 have s : ∀ {v : Val}, SmallV v → v.Ok := fun h => h.ok
 have p : ∀ {a b : Int}, -1000 ≤ a ∧ a ≤ 1000 → -1000 ≤ b ∧ b ≤ 1000 → Par.Ok ⟨a, b⟩ := fun h1 h2 => ⟨sml h1, sml h2⟩
 have e_Ok : ∀ {a b c d : Int}, -1000 ≤ a ∧ a ≤ 1000 → -1000 ≤ b ∧ b ≤ 1000 → -1000 ≤ c ∧ c ≤ 1000 → -1000 ≤ d ∧ d ≤ 1000 → Ent.Ok ⟨⟨a, b⟩, ⟨c, d⟩⟩ := fun h1 h2 h3 h4 => ⟨p h1 h2, sml h3, sml h4⟩
 have k1 : ∀ e ∈ [e11 ⟨0, 7⟩], e.Ok := fun e he => by
   simp only [List.mem_cons, List.not_mem_nil, or_false] at he
   subst he; exact e_Ok (by omega) (by omega) (by omega) (by omega)
 have k2 : ∀ e ∈ [e10 ⟨0, 0⟩, e11 ⟨0, 7⟩, e20 ⟨0, 50⟩, e21 hval], e.Ok := fun e he => by
   simp only [List.mem_cons, List.not_mem_nil, or_false] at he
   rcases he with rfl | rfl | rfl | rfl <;> exact e_Ok (by omega) (by omega) (by omega) (by omega)
 have k3 : ∀ e ∈ [e10 ⟨0, 80⟩, e21 ⟨0, 9⟩], e.Ok := fun e he => by
   simp only [List.mem_cons, List.not_mem_nil, or_false] at he
   rcases he with rfl | rfl <;> exact e_Ok (by omega) (by omega) (by omega) (by omega)
 refine denR_call darkL_ok ⟨rfl, _, rfl, ?_⟩
 refine denR_call earlyC_ok ⟨darkL, [51], darkL_Ok, rfl, ?_⟩
 rw [dk_e]
 intro rvs hr
 refine ⟨[.slice ([e11 ⟨0, 7⟩].map Ent.enc), .int .i64 0], by rcases hr with rfl | rfl <;> rfl, ?_⟩
 refine denR_call markedC_ok ⟨darkL, [51], darkL_Ok, rfl, ?_⟩
 rw [dk_m]
 refine ⟨_, rfl, ?_⟩
 refine denR_call mstepsC_ok ⟨darkL, [52], darkL_Ok, rfl, ?_⟩
 rw [dk_s]
 intro rvs hr
 refine ⟨[.slice ([e10 ⟨0, 80⟩, e21 ⟨0, 9⟩].map Ent.enc), .int .i64 0], by rcases hr with rfl | rfl <;> rfl, ?_⟩
 refine denR_call lateC_ok ⟨darkL, [52], darkL_Ok, rfl, ?_⟩
 rw [dk_l]
 intro rvs hr
 refine ⟨[.slice ([(⟨2, 1⟩ : Par)].map Par.enc), .int .i64 0], by rcases hr with rfl | rfl <;> rfl, ?_⟩
 refine denR_gcall levels_ok true [.slice (encI [7])] (by kernel_rfl) (fun _ => ⟨[e11 ⟨0, 7⟩], k1, by simp, rfl, rfl⟩) (fun h => by cases h) ?_
 refine denR_iteT (by kernel_rfl) ?_
 refine denR_gcall eqInts_ok true [.bool true] (by kernel_rfl) (fun _ => ⟨[7], fun x hx => by simp at hx; subst hx; exact sml (by omega), rfl, rfl⟩) (fun h => by cases h) ?_
 refine denR_gcall levels_ok true [.slice (encI [0, 7, 50, -1])] (by kernel_rfl) (fun _ => ⟨[e10 ⟨0, 0⟩, e11 ⟨0, 7⟩, e20 ⟨0, 50⟩, e21 hval], k2, by simp, rfl, rfl⟩) (fun h => by cases h) ?_
 refine denR_iteT (by kernel_rfl) ?_
 refine denR_gcall eqInts_ok true [.bool true] (by kernel_rfl) (fun _ => ⟨[0, 7, 50, -1], fun x hx => by simp at hx; rcases hx with rfl | rfl | rfl | rfl <;> exact sml (by omega), rfl, rfl⟩) (fun h => by cases h) ?_
 refine denR_gcall levels_ok true [.slice (encI [80, 9])] (by kernel_rfl) (fun _ => ⟨[e10 ⟨0, 80⟩, e21 ⟨0, 9⟩], k3, by simp, rfl, rfl⟩) (fun h => by cases h) ?_
 refine denR_iteT (by kernel_rfl) ?_
 refine denR_gcall eqInts_ok true [.bool true] (by kernel_rfl) (fun _ => ⟨[80, 9], fun x hx => by simp at hx; rcases hx with rfl | rfl <;> exact sml (by omega), rfl, rfl⟩) (fun h => by cases h) ?_
 refine denR_iteT (by kernel_rfl) ?_
 refine denR_gcall samePars_ok true [.bool true] (by kernel_rfl) (fun _ => ⟨[⟨2, 1⟩], fun x hx => by simp at hx; subst hx; exact p (by omega) (by omega), rfl, rfl⟩) (fun h => by cases h) ?_
 refine denR_iteF (by kernel_rfl) ?_
 refine denR_call without17_ok ⟨darkL, [51], darkL_Ok, by simp [darkL], rfl, _, rfl, ?_⟩
 refine denR_call earlyC_ok ⟨dark3, [50], dark3_Ok, rfl, ?_⟩
 rw [dk_3]
 intro rvs hr
 refine ⟨[.slice [], .int .i64 0], by rcases hr with rfl | rfl <;> rfl, ?_⟩
 intro _
 exact hK
theorem good20_ok : Contract Tryz.prog 29 fun args K => ∃ (l : Lis), l.Ok ∧ args = [.agg l.enc] ∧ ∀ b : Bool, (b = true → checkL order05 l = 0) → K [.d (.bool b)] := by
 refine .of c29 t29_ok ?_
 rintro _ K ⟨l, hl, rfl, hK⟩ hsm
 refine ⟨l.enc, rfl, Lis.has hl, ?_⟩
 refine denR_call few18_ok ⟨l, hl, by simp only [zz, reduceCtorEq, Lis.enc], fun b => ⟨[.bool b], rfl, ?_⟩⟩
 cases b with
 | true =>
   refine denR_gcall check17_ok true [.int .i64 (checkL order05 l)] rfl (fun _ => ⟨l, hl, by simp only [zz, reduceCtorEq, Lis.enc], rfl⟩) (fun h => by cases h) ?_
   simp only [zz, reduceCtorEq, Lis.enc]
   have := hK (decide (checkL order05 l = 0)) (by simp)
   simpa using this
 | false =>
   refine denR_gcall check17_ok false [.int .i64 0] rfl (fun h => by cases h) (fun _ => rfl) ?_
   simp only [zz, reduceCtorEq, Lis.enc]
   simpa using hK false (by simp)
noncomputable def t5 : R := let x0 : T := .idx (.var 2) (.var 4) 2 (.slice [.int .i64, .int .i64, .int .i64, .int .i64, .int .i64]); let x1 : T := .idx (.var 2) (.var 4) 5 .bool; let x2 : T := .lcons (.var 1) (.lcons (.var 2) .lnil); let x3 : T := .lcons (.ptr (.lcons (.idx (.var 7) (.var 13) 0 (.int .i64)) (.lcons (.idx (.var 7) (.var 13) 1 (.int .i64)) (.lcons (.idx (.var 7) (.var 13) 2 (.int .i64)) (.lcons (.idx (.var 7) (.var 13) 3 (.int .i64)) .lnil))))) .lnil; let x4 : List K := [.int .i64, .int .i64, .int .i64, .int .i64]; let x5 : T := .idx x0 (.var 14) 1 (.int .i64); let x6 : T := .idx x0 (.var 11) 1 (.int .i64); let x7 : T := .o2 (.sub .i64) (.var 4) (.int .i64 1); let x8 : T := .o2 .ne (.var 10) (.int .i64 0); let x9 : T := .o2 .ne (.var 8) (.int .i64 0); let x11 : T := .o2 .le (.o1 .len x0) (.int .i64 140737488355328); let x12 : T := .o1 .len (.var 2); let x13 : T := .o1 .len (.var 7); let x14 : T := .o2 .ne (.var 12) (.int .i64 0); let x15 : T := .idx x0 (.var 14) 0 (.int .i64); let x16 : T := .idx x0 (.var 11) 0 (.int .i64); let x17 : T := .o2 .ne (.var 6) (.int .i64 0); let x10 : T := .o2 .le x13 (.int .i64 140737488355328); .call none (.fn 29) [.lcons (.var 0) x2] [.cell .bool] (.ite (.o1 .not (.var 3)) (.call none (.fn 18) [] [.cell .bool] (.ret [.d (.var 4)])) (.fact (.o2 .le x12 (.int .i64 140737488355328)) (.loop 0 [.int .i64 0] [.int .i64] (.ite (.o2 .lt (.var 4) x12) (.need (.o2 .le (.int .i64 0) (.var 4)) (.call none (.fn 21) [.lcons (.var 0) x2, .idx (.var 2) (.var 4) 0 .str] [.cell (.slice [.int .i64, .int .i64]), .cell (.int .i64)] (.fact (.ite (.o2 .band (.o1 .not x17) (.o1 .not x1)) (.o2 .le (.o1 .len (.var 5)) (.int .i64 140737488355328)) (.bool true)) (.ite (.ite x17 (.bool true) (.ite (.o1 .not x1) (.o2 .gt (.o1 .len (.var 5)) (.int .i64 0)) (.bool false))) (.ret [.d (.bool false)]) (.ite (.o2 .gt (.var 4) (.int .i64 0)) (.need (.o2 .le (.int .i64 0) x7) (.need (.o2 .lt x7 x12) (.call none (.fn 19) [.lcons (.var 0) x2, .idx (.var 2) x7 0 .str] [.cell (.slice x4), .cell (.int .i64)] (.call none (.fn 27) [.lcons (.var 0) x2, .idx (.var 2) (.var 4) 0 .str] [.cell (.slice x4), .cell (.int .i64)] (.call none (.fn 19) [.lcons (.var 0) x2, .idx (.var 2) (.var 4) 0 .str] [.cell (.slice x4), .cell (.int .i64)] (.fact (.ite (.o2 .band (.o1 .not (.ite (.ite x9 (.bool true) x8) (.bool true) x14)) (.o1 .not x1)) x10 (.bool true)) (.ite (.ite (.ite (.ite x9 (.bool true) x8) (.bool true) x14) (.bool true) (.ite (.o1 .not x1) (.o2 .gt x13 (.int .i64 0)) (.bool false))) (.ret [.d (.bool false)]) (.fact x10 (.loop 1 [.int .i64 0] [.int .i64] (.ite (.o2 .lt (.var 13) x13) (.need (.o2 .le (.int .i64 0) (.var 13)) (.call none (.fn 31) [.var 9, .clo 30 x3] [.cell .bool] (.call (some (.var 14)) (.fn 31) [.var 11, .clo 30 x3] [.cell .bool] (.ite (.ite (.var 14) (.o1 .not (.var 15)) (.bool false)) (.ret [.d (.bool false)]) (.again 1 [.o2 (.add .i64) (.var 13) (.int .i64 1)]))))) (.fact x11 (.loop 2 [.int .i64 0] [.int .i64] (.ite (.o2 .lt (.var 14) (.o1 .len x0)) (.need (.o2 .le (.int .i64 0) (.var 14)) (.call none (.fn 32) [.var 7, .lcons x15 (.lcons x5 (.lcons (.idx x0 (.var 14) 2 (.int .i64)) (.lcons (.idx x0 (.var 14) 3 (.int .i64)) .lnil)))] [.cell .bool] (.call (some (.ite x1 (.o2 .ne x5 (.int .i64 0)) (.bool false))) (.fn 33) [.var 5, .lcons x15 (.lcons x5 .lnil)] [.cell .bool] (.ite (.ite (.ite x1 (.o2 .ne x5 (.int .i64 0)) (.bool false)) (.o2 .eq (.var 15) (.var 16)) (.bool false)) (.ret [.d (.bool false)]) (.again 2 [.o2 (.add .i64) (.var 14) (.int .i64 1)]))))) (.again 0 [.o2 (.add .i64) (.var 4) (.int .i64 1)])))))))))))))) (.call none (.fn 27) [.lcons (.var 0) x2, .idx (.var 2) (.var 4) 0 .str] [.cell (.slice x4), .cell (.int .i64)] (.call none (.fn 19) [.lcons (.var 0) x2, .idx (.var 2) (.var 4) 0 .str] [.cell (.slice x4), .cell (.int .i64)] (.ite (.ite (.ite x9 (.bool true) x8) (.bool true) (.ite (.o1 .not x1) (.o2 .gt (.int .i64 0) (.int .i64 0)) (.bool false))) (.ret [.d (.bool false)]) (.loop 1 [] [] (.ite (.o2 .lt (.int .i64 0) (.int .i64 0)) (.fail "law.go:144") (.fact x11 (.loop 2 [.int .i64 0] [.int .i64] (.ite (.o2 .lt (.var 11) (.o1 .len x0)) (.need (.o2 .le (.int .i64 0) (.var 11)) (.call none (.fn 32) [.nils, .lcons x16 (.lcons x6 (.lcons (.idx x0 (.var 11) 2 (.int .i64)) (.lcons (.idx x0 (.var 11) 3 (.int .i64)) .lnil)))] [.cell .bool] (.call (some (.ite x1 (.o2 .ne x6 (.int .i64 0)) (.bool false))) (.fn 33) [.var 5, .lcons x16 (.lcons x6 .lnil)] [.cell .bool] (.ite (.ite (.ite x1 (.o2 .ne x6 (.int .i64 0)) (.bool false)) (.o2 .eq (.var 12) (.var 13)) (.bool false)) (.ret [.d (.bool false)]) (.again 2 [.o2 (.add .i64) (.var 11) (.int .i64 1)]))))) (.again 0 [.o2 (.add .i64) (.var 4) (.int .i64 1)])))))))))))))) (.call none (.fn 18) [] [.cell .bool] (.ret [.d (.var 5)]))))))
theorem t5_ok : fnO Tryz.prog mdA 5 [.agg [.int .i64, .int .i64, .slice [.str, .str, .slice [.int .i64, .int .i64, .int .i64, .int .i64, .int .i64], .slice [.int .i64, .int .i64, .int .i64, .int .i64, .int .i64, .int .i64], .bool, .bool, .int .i64, .str, .int .i64]]] = t5 := by kernel_rfl
theorem c5 : callable Tryz.prog 5 = true := by kernel_rfl
noncomputable def t30 : R := .ret [.d (.o2 .band (.o2 .eq (.var 0) (.fld (.padd (.var 4) 0) 0 (.int .i64))) (.o2 .band (.o2 .eq (.var 1) (.fld (.padd (.var 4) 0) 1 (.int .i64))) (.bool true)))]
theorem t30_ok : fnO Tryz.prog mdA 30 ([.agg [.int .i64, .int .i64, .int .i64, .int .i64]] ++ [.cell (.ptr [.int .i64, .int .i64, .int .i64, .int .i64])]) = t30 := by kernel_rfl
theorem c30 : callable Tryz.prog 30 = true := by kernel_rfl
theorem containsEg_ok : Contract Tryz.prog 32 fun args K => ∃ (a : List Ent) (e : Ent), (∀ x ∈ a, x.Ok) ∧ e.Ok ∧ args = [.slice (a.map Ent.enc), .agg e.enc] ∧ K [.d (.bool (a.any fun x => decide (x = e)))] := by
 refine .of c32 t32_ok ?_
 rintro _ K ⟨a, e, ha, heo, rfl, hK⟩ hsm
 refine ⟨.slice (a.map Ent.enc) :: e.enc, rfl, by exact (show HasKs (.slice enKs :: enKs) _ from ⟨ents_has ha, Ent.has heo⟩), ?_⟩
 refine denR_call indexE_ok ⟨a, e, ha, heo, by simp only [zz, reduceCtorEq, Ent.enc], _, rfl, ?_⟩
 rw [← idxGo_any _ _ 0] at hK
 simp only [zz, reduceCtorEq, Ent.enc]
 simpa using hK
theorem isEnt_ok : Contract Tryz.prog 30 fun args K => ∃ (y x : Ent), y.Ok ∧ x.Ok ∧ args = [.agg y.enc, .ptr x.enc] ∧ K [.d (.bool (decide (y.pa = x.pa)))] := by
 refine .of c30 t30_ok ?_
 rintro _ K ⟨y, x, hy, hx, rfl, hK⟩ hsm
 refine ⟨y.enc ++ [.ptr x.enc], rfl, by exact (Ent.has hy).append (show HasKs [.ptr enKs] [.ptr x.enc] from ⟨Ent.has hx, trivial⟩), ?_⟩
 have e : decide (y.pa = x.pa) = (decide (y.pa.ch = x.pa.ch) && decide (y.pa.at_ = x.pa.at_)) := by
   rw [Bool.eq_iff_iff]
   simp only [Bool.and_eq_true, decide_eq_true_eq]
   exact ⟨fun h => by rw [h]; exact ⟨rfl, rfl⟩, fun h => Par.ext' h.1 h.2⟩
 rw [e] at hK
 simp only [zz, reduceCtorEq, t30, Ent.enc]
 simpa using hK
theorem isEnt_says {es : List Ent} (hes : ∀ e ∈ es, e.Ok) {x : Ent} (hx : x.Ok) : SaysOf Tryz.prog (.clo 30 [.ptr x.enc]) Ent.enc es fun y => decide (y.pa = x.pa) := by
 refine ⟨fun as_ K => ∃ y : Ent, y.Ok ∧ as_ = [.agg y.enc] ∧ K [.d (.bool (decide (y.pa = x.pa)))], FvC.of c30 isEnt_ok ?_, fun y hy => ⟨y, hes y hy, rfl, rfl⟩⟩
 rintro _ K ⟨y, hy, rfl, hK⟩
 refine ⟨⟨y, x, hy, hx, rfl, hK⟩, argsTyped_of [some (.agg enKs)] (by kernel_rfl) ?_⟩
 intro i rk d h1 h2
 cases i with
 | zero => simp at h1 h2; subst h1 h2; exact Ent.has hy
 | succ i => simp at h1
theorem mfind_of' {ms : List Mov} (hr : RisingM ms) {m : Mov} (hm : m ∈ ms) : mfind ms m.pa = some m := by
 unfold mfind
 cases hf : ms.find? fun x => decide (x.pa = m.pa) with
 | none =>
   rw [List.find?_eq_none] at hf
   have := hf m hm
   simp at this
 | some x =>
   have hx := List.mem_of_find?_eq_some hf
   have he := List.find?_some hf
   simp only [decide_eq_true_eq] at he
   obtain ⟨i, hi, rfl⟩ := List.getElem_of_mem hx
   obtain ⟨j, hj, rfl⟩ := List.getElem_of_mem hm
   rcases Nat.lt_trichotomy i j with h | h | h
   · have := List.pairwise_iff_getElem.1 hr i j hi hj h
     rw [he, before_irr] at this; cases this
   · subst h; rfl
   · have := List.pairwise_iff_getElem.1 hr j i hj hi h
     rw [he, before_irr] at this; cases this
theorem lateR_at {l : Lis} (h : checkL order05 l = 0) {i : Nat} (hi : i < l.cues.length) : lateR l l.cues[i].num = ((lateM l.cues (i + 1)).map (·.pa), 0) := by
 obtain ⟨h1, h2, _⟩ := cue18_at h hi
 unfold lateR
 rw [if_neg (by simp [h1]), h2]
theorem earlyR_at {l : Lis} (h : checkL order05 l = 0) {i : Nat} (hi : i < l.cues.length) : earlyR l l.cues[i].num = (aheadL l.cues (i + 1), 0) := by
 obtain ⟨h1, h2, _⟩ := cue18_at h hi
 unfold earlyR
 rw [if_neg (by simp [h1]), h2]
theorem mstepsR_at {l : Lis} (h : checkL order05 l = 0) {i : Nat} (hi : i < l.cues.length) : mstepsR l l.cues[i].num = (diffE (markedL l.cues i) (markedL l.cues (i + 1)), 0) := by
 obtain ⟨h1, h2, _⟩ := cue18_at h hi
 unfold mstepsR
 rw [if_neg (by simp [h1]), h2, Nat.add_sub_cancel]
theorem late_none {cs : List Cue} {i : Nat} (hi : i < cs.length) (h : cs[i].mark = false) : lateM cs (i + 1) = [] := by
 unfold lateM
 simp only [Nat.add_sub_cancel, List.getElem?_eq_getElem hi, h]
 rfl
theorem ahead_none {cs : List Cue} {i : Nat} (hi : i < cs.length) (h : cs[i].mark = false) : aheadL cs i = [] := by
 unfold aheadL earlyM
 split
 · rfl
 · rw [List.getElem?_eq_getElem hi]; simp only [h]; rfl
theorem saves1 {l : Lis} (hl : l.Ok) (hch : checkL order05 l = 0) {i : Nat} {x : Ent} (hx : x ∈ aheadL l.cues i) (hs : ((diffE (markedL l.cues i) (markedL l.cues (i + 1))).any fun y => decide (y.pa = x.pa)) = true) :
   ((aheadL l.cues (i + 1)).any fun y => decide (y.pa = x.pa)) = true := by
 have hR := rightT_of hl hch
 obtain ⟨m, hm, rfl⟩ := List.mem_map.1 hx
 obtain ⟨h0, hi, hmk, hmm, _⟩ := earlyM_mem hm
 have hv0 : mvalued l.cues m.pa i = m.va := by simp [mvalued, mfind_of' (early_rising hR i) hm]
 have hv1 : valued l.cues m.pa (i + 1) = m.va := by rw [valued_succ hi, mfind_of' (hR.moves _ (List.getElem_mem hi)).rising hmm]; rfl
 rw [marked_eq hR, marked_eq hR, diff_map] at hs
 simp only [List.any_map, List.any_eq_true, Function.comp, decide_eq_true_eq, List.mem_filter] at hs
 obtain ⟨q, ⟨_, hne⟩, rfl⟩ := hs
 rw [hv0] at hne
 cases hf : mfind (earlyM l.cues (i + 1)) m.pa with
 | none => exact absurd (by simp [mvalued, hf, hv1]) hne
 | some y =>
   have hy := List.mem_of_find?_eq_some hf
   have hp : y.pa = m.pa := by have := List.find?_some hf; simpa using this
   simp only [aheadL, entsOf, List.any_map, List.any_eq_true, Function.comp, decide_eq_true_eq]
   exact ⟨y, hy, hp⟩
theorem saves2 {l : Lis} (hl : l.Ok) (hch : checkL order05 l = 0) {i : Nat} (hi : i < l.cues.length) {m : Mov} (hm : m ∈ l.cues[i].moves) (hmk : l.cues[i].mark = true) (hat : m.pa.at_ ≠ 0) :
   ((aheadL l.cues i).any fun y => decide (y = ⟨m.pa, m.va⟩)) = !(((lateM l.cues (i + 1)).map (·.pa)).any fun p => decide (p = m.pa)) := by
 have hR := rightT_of hl hch
 have e1 : ((aheadL l.cues i).any fun y => decide (y = ⟨m.pa, m.va⟩)) = (earlyM l.cues i).any fun x => decide (x.pa = m.pa) := by
   rw [Bool.eq_iff_iff]
   simp only [aheadL, entsOf, List.any_map, List.any_eq_true, Function.comp, decide_eq_true_eq, Ent.mk.injEq]
   constructor
   · rintro ⟨x, hx, h1, _⟩; exact ⟨x, hx, h1⟩
   · rintro ⟨x, hx, h1⟩
     obtain ⟨_, hi', _, hxm, _⟩ := earlyM_mem hx
     have a1 := mfind_of' (hR.moves _ (List.getElem_mem hi)).rising hxm
     have a2 := mfind_of' (hR.moves _ (List.getElem_mem hi)).rising hm
     rw [h1, a2] at a1
     have := Option.some.inj a1
     subst this
     exact ⟨_, hx, rfl, rfl⟩
 have e2 : (((lateM l.cues (i + 1)).map (·.pa)).any fun p => decide (p = m.pa)) = !((earlyM l.cues i).any fun x => decide (x.pa = m.pa)) := by
   have hlm : lateM l.cues (i + 1) = l.cues[i].moves.filter (fun m => !decide (m.pa.at_ = 0) && !((earlyM l.cues i).any fun x => decide (x.pa = m.pa))) := by
     unfold lateM
     simp only [Nat.add_sub_cancel, List.getElem?_eq_getElem hi, hmk, if_true]
   rw [hlm, Bool.eq_iff_iff]
   simp only [List.any_map, List.any_eq_true, Function.comp, decide_eq_true_eq, List.mem_filter]
   constructor
   · rintro ⟨y, ⟨_, h2⟩, h3⟩
     rw [h3] at h2
     simp only [Bool.and_eq_true] at h2
     exact h2.2
   · intro h
     exact ⟨m, ⟨hm, by rw [h]; simp [hat]⟩, rfl⟩
 rw [e1, e2]; simp
theorem late_okP {l : Lis} (hl : l.Ok) (n : Nat) : ∀ p ∈ (lateM l.cues n).map (·.pa), p.Ok := by
 intro p hp
 obtain ⟨m, hm, rfl⟩ := List.mem_map.1 hp
 exact (late_Ok hl n m hm).1
theorem diffE_sub' : ∀ {a b : List Ent}, ∀ e ∈ diffE a b, e ∈ b
 | [], b, e, he => by cases b <;> simp [diffE] at he
 | x :: a, [], e, he => by simp [diffE] at he
 | x :: a, y :: b, e, he => by
   simp only [diffE] at he
   split at he
   · exact List.mem_cons_of_mem _ (diffE_sub' e he)
   · rcases List.mem_cons.1 he with rfl | he
     · exact List.mem_cons_self
     · exact List.mem_cons_of_mem _ (diffE_sub' e he)
theorem law5m_typed : Contract Tryz.prog 5 fun args K => ∃ (l : Lis), l.Ok ∧ args = [.agg l.enc] ∧ K [.d (.bool true)] := by
 refine .of c5 t5_ok ?_
 rintro _ K ⟨l, hl, rfl, hK⟩ hsm
 refine ⟨l.enc, rfl, Lis.has hl, ?_⟩
 refine denR_call good20_ok ⟨l, hl, by simp only [zz, reduceCtorEq, Lis.enc], fun b hb => ⟨[.bool b], rfl, ?_⟩⟩
 simp only [zz, reduceCtorEq, Lis.enc, List.length_map]
 refine ⟨fun _ => ?_, fun hbt => ?_⟩
 · refine denR_call awake20_ok ⟨rfl, _, rfl, ?_⟩
   simp only [zz, reduceCtorEq]
   exact hK
 have hch := hb hbt
 have hR := rightT_of hl hch
 have hlen := hR.len
 intro hcap
 refine loop_go l.cues (fun _ _ (_ : Unit) => ()) (fun i _ => [.int .i64 i]) () () rfl 0 (fun _ _ => rfl) rfl ?_ ?_
 · intro i hi _ _
   simp only [zz, reduceCtorEq, hi, List.length_map]
   refine ⟨by omega, ?_⟩
   have hok := hl.cues _ (List.getElem_mem hi)
   refine denR_call lateC_ok ⟨l, l.cues[i].num, hl, by simp only [zz, reduceCtorEq, Lis.enc, getD_map hi, Cue.enc], ?_⟩
   rw [lateR_at hch hi]
   intro rvs hr
   refine ⟨[.slice (((lateM l.cues (i + 1)).map (·.pa)).map Par.enc), .int .i64 0], by rcases hr with rfl | rfl <;> rfl, ?_⟩
   have hS1 := fun x hx => saves1 hl hch (i := i) (x := x) hx
   have hS2 := fun m hm => saves2 hl hch hi (m := m) hm
   have hla := late_okP hl (i + 1)
   have hln : l.cues[i].mark = false → (lateM l.cues (i + 1)).map (·.pa) = [] := fun h => by rw [late_none hi h]; rfl
   have han : l.cues[i].mark = false → aheadL l.cues i = [] := fun h => ahead_none hi h
   have hAo := ahead_Ok hl i
   have hGo := ahead_Ok hl (i + 1)
   have hSo : ∀ e ∈ diffE (markedL l.cues i) (markedL l.cues (i + 1)), e.Ok := fun e he => (marked_right hl hch (i + 1)).ok e (diffE_sub' e he)
   have hA0 : i = 0 → aheadL l.cues i = [] := fun h => by subst h; rfl
   generalize (lateM l.cues (i + 1)).map (·.pa) = late at hS2 hla hln ⊢
   simp only [zz, reduceCtorEq, Lis.enc, getD_map hi, Cue.enc, List.length_map]
   intro _
   refine ⟨fun h => ?_, fun _ => ⟨fun h0 => ?_, fun h0 => ?_⟩⟩
   · exfalso
     rw [hln h.1] at h; simp at h
   · have e2 : wr64 ((i : Int) - 1) = ((i - 1 : Nat) : Int) := by rw [wr64_eq] <;> omega
     have hi1 : i - 1 < l.cues.length := by omega
     rw [e2]
     refine ⟨by omega, by omega, ?_⟩
     refine denR_call earlyC_ok ⟨l, l.cues[i - 1].num, hl, by simp only [zz, reduceCtorEq, Lis.enc, e2, getD_map hi1, Cue.enc], ?_⟩
     rw [earlyR_at hch hi1, show i - 1 + 1 = i by omega]
     intro rvs hr
     refine ⟨[.slice ((aheadL l.cues i).map Ent.enc), .int .i64 0], by rcases hr with rfl | rfl <;> rfl, ?_⟩
     refine denR_call mstepsC_ok ⟨l, l.cues[i].num, hl, by simp only [zz, reduceCtorEq, Lis.enc, getD_map hi, Cue.enc], ?_⟩
     rw [mstepsR_at hch hi]
     intro rvs hr
     refine ⟨[.slice ((diffE (markedL l.cues i) (markedL l.cues (i + 1))).map Ent.enc), .int .i64 0], by rcases hr with rfl | rfl <;> rfl, ?_⟩
     refine denR_call earlyC_ok ⟨l, l.cues[i].num, hl, by simp only [zz, reduceCtorEq, Lis.enc, getD_map hi, Cue.enc], ?_⟩
     rw [earlyR_at hch hi]
     intro rvs hr
     refine ⟨[.slice ((aheadL l.cues (i + 1)).map Ent.enc), .int .i64 0], by rcases hr with rfl | rfl <;> rfl, ?_⟩
     generalize aheadL l.cues i = A at hS1 hS2 hAo han ⊢
     generalize aheadL l.cues (i + 1) = G at hS1 hGo ⊢
     generalize diffE (markedL l.cues i) (markedL l.cues (i + 1)) = S at hS1 hSo ⊢
     simp only [zz, reduceCtorEq, Lis.enc, getD_map hi, Cue.enc, List.length_map]
     intro _
     refine ⟨fun h => ?_, fun _ _ => ?_⟩
     · exfalso
       have hm : l.cues[i].mark = false := by grind
       have hA := han hm
       subst hA
       simp at h
     refine loop_go A (fun _ _ (_ : Unit) => ()) (fun k _ => [.int .i64 k]) () () rfl 0 (fun _ _ => rfl) rfl ?_ ?_
     · intro k hk _ _
       have hxo := hAo _ (List.getElem_mem hk)
       have hs1 := hS1 _ (List.getElem_mem hk)
       have hw : wr64 ((k : Int) + 1) = ((k + 1 : Nat) : Int) := by rw [wr64_eq] <;> omega
       simp only [zz, reduceCtorEq, List.length_map, hk]
       refine ⟨by omega, ?_⟩
       refine denR_call containsEnt_ok ⟨S, fun y => decide (y.pa = A[k].pa), 30, [.ptr A[k].enc], hSo, by simp only [zz, reduceCtorEq, getD_map hk, Ent.enc], isEnt_says hSo hxo, _, rfl, ?_⟩
       by_cases hb : (S.any fun y => decide (y.pa = A[k].pa)) = true
       · have hg := hs1 hb
         rw [hb]
         refine denR_gcall containsEnt_ok true [.bool true] (by simp only [zz, reduceCtorEq]) (fun _ => ⟨G, fun y => decide (y.pa = A[k].pa), 30, [.ptr A[k].enc], hGo, by simp only [zz, reduceCtorEq, getD_map hk, Ent.enc], isEnt_says hGo hxo, by rw [hg]; rfl⟩) (fun e => by cases e) ?_
         simp only [zz, reduceCtorEq]
         exact ⟨(), hw ▸ rfl⟩
       · have hb : (S.any fun y => decide (y.pa = A[k].pa)) = false := by simpa using hb
         rw [hb]
         refine denR_gcall containsEnt_ok false [.bool false] (by simp only [zz, reduceCtorEq]) (fun e => by cases e) (fun _ => rfl) ?_
         simp only [zz, reduceCtorEq]
         exact ⟨(), hw ▸ rfl⟩
     intro _ _
     simp only [zz, reduceCtorEq, Lis.enc, getD_map hi, Cue.enc, List.length_map, Nat.lt_irrefl]
     intro _
     refine loop_go l.cues[i].moves (fun _ _ (_ : Unit) => ()) (fun j _ => [.int .i64 j]) () () rfl 0 (fun _ _ => rfl) rfl ?_ ?_
     · intro j hj _ _
       have hmj := hok.moves _ (List.getElem_mem hj)
       have hs2 := hS2 l.cues[i].moves[j] (List.getElem_mem hj)
       have hw : wr64 ((j : Int) + 1) = ((j + 1 : Nat) : Int) := by rw [wr64_eq] <;> omega
       simp only [zz, reduceCtorEq, Lis.enc, getD_map hi, Cue.enc, List.length_map, hj]
       refine ⟨by omega, ?_⟩
       refine denR_call containsEg_ok ⟨A, ⟨l.cues[i].moves[j].pa, l.cues[i].moves[j].va⟩, hAo, ⟨hmj.1, hmj.2.1⟩, by simp only [zz, reduceCtorEq, Lis.enc, getD_map hi, Cue.enc, getD_map hj, Mov.enc, Ent.enc], _, rfl, ?_⟩
       by_cases hc : l.cues[i].mark = true ∧ l.cues[i].moves[j].pa.at_ ≠ 0
       · have hs3 := hs2 hc.1 hc.2
         refine denR_gcall containsP_ok true [.bool (late.any fun p => decide (p = l.cues[i].moves[j].pa))] (by simp only [zz, reduceCtorEq, Lis.enc, getD_map hi, Cue.enc, getD_map hj, Mov.enc, hc.1] <;> simp [hc.2]) (fun _ => ⟨late, l.cues[i].moves[j].pa, hla, hmj.1, by simp only [zz, reduceCtorEq, Lis.enc, getD_map hi, Cue.enc, getD_map hj, Mov.enc, Par.enc], rfl⟩) (fun e => by cases e) ?_
         generalize (late.any fun p => decide (p = l.cues[i].moves[j].pa)) = y at hs3 ⊢
         generalize (A.any fun y => decide (y = (⟨l.cues[i].moves[j].pa, l.cues[i].moves[j].va⟩ : Ent))) = x at hs3 ⊢
         subst hs3
         simp only [zz, reduceCtorEq, Lis.enc, getD_map hi, Cue.enc, getD_map hj, Mov.enc, hc.1]
         exact ⟨fun h => by exfalso; cases y <;> simp at h, fun _ => ⟨(), hw ▸ rfl⟩⟩
       · refine denR_gcall containsP_ok false [.bool false] (by simp only [zz, reduceCtorEq, Lis.enc, getD_map hi, Cue.enc, getD_map hj, Mov.enc] <;> simp <;> grind) (fun e => by cases e) (fun _ => rfl) ?_
         simp only [zz, reduceCtorEq, Lis.enc, getD_map hi, Cue.enc, getD_map hj, Mov.enc]
         exact ⟨fun h => by exfalso; grind, fun _ => ⟨(), hw ▸ rfl⟩⟩
     · intro _ _
       simp only [zz, reduceCtorEq, Lis.enc, getD_map hi, Cue.enc, List.length_map, Nat.lt_irrefl]
       exact ⟨rfl, (), by rw [wr64_eq (by omega)]; rfl⟩
   · have hi0 : i = 0 := by omega
     have hA := hA0 hi0
     rw [hA] at hS2
     refine denR_call mstepsC_ok ⟨l, l.cues[i].num, hl, by simp only [zz, reduceCtorEq, Lis.enc, getD_map hi, Cue.enc], ?_⟩
     rw [mstepsR_at hch hi]
     intro rvs hr
     refine ⟨[.slice ((diffE (markedL l.cues i) (markedL l.cues (i + 1))).map Ent.enc), .int .i64 0], by rcases hr with rfl | rfl <;> rfl, ?_⟩
     refine denR_call earlyC_ok ⟨l, l.cues[i].num, hl, by simp only [zz, reduceCtorEq, Lis.enc, getD_map hi, Cue.enc], ?_⟩
     rw [earlyR_at hch hi]
     intro rvs hr
     refine ⟨[.slice ((aheadL l.cues (i + 1)).map Ent.enc), .int .i64 0], by rcases hr with rfl | rfl <;> rfl, ?_⟩
     simp only [zz, reduceCtorEq, Lis.enc, getD_map hi, Cue.enc, List.length_map]
     refine ⟨fun h => by exfalso; grind, fun _ => ?_⟩
     rw [denR_loop]
     refine ⟨fun c ys => c = none ∧ ys = [], fun _ => 0, ⟨rfl, rfl⟩, ?_⟩
     rintro _ _ _ ⟨rfl, rfl⟩
     simp only [zz, reduceCtorEq, Lis.enc, getD_map hi, Cue.enc, List.length_map, Nat.lt_irrefl]
     refine ⟨fun h => absurd h (by omega), fun _ _ => ?_⟩
     refine loop_go l.cues[i].moves (fun _ _ (_ : Unit) => ()) (fun j _ => [.int .i64 j]) () () rfl 0 (fun _ _ => rfl) rfl ?_ ?_
     · intro j hj _ _
       have hmj := hok.moves _ (List.getElem_mem hj)
       have hs2 := hS2 l.cues[i].moves[j] (List.getElem_mem hj)
       have hw : wr64 ((j : Int) + 1) = ((j + 1 : Nat) : Int) := by rw [wr64_eq] <;> omega
       simp only [zz, reduceCtorEq, Lis.enc, getD_map hi, Cue.enc, List.length_map, hj]
       refine ⟨by omega, ?_⟩
       refine denR_call containsEg_ok ⟨[], ⟨l.cues[i].moves[j].pa, l.cues[i].moves[j].va⟩, (by simp), ⟨hmj.1, hmj.2.1⟩, by simp only [zz, reduceCtorEq, Lis.enc, getD_map hi, Cue.enc, getD_map hj, Mov.enc, Ent.enc], _, rfl, ?_⟩
       by_cases hc : l.cues[i].mark = true ∧ l.cues[i].moves[j].pa.at_ ≠ 0
       · have hs3 := hs2 hc.1 hc.2
         refine denR_gcall containsP_ok true [.bool (late.any fun p => decide (p = l.cues[i].moves[j].pa))] (by simp only [zz, reduceCtorEq, Lis.enc, getD_map hi, Cue.enc, getD_map hj, Mov.enc, hc.1] <;> simp [hc.2]) (fun _ => ⟨late, l.cues[i].moves[j].pa, hla, hmj.1, by simp only [zz, reduceCtorEq, Lis.enc, getD_map hi, Cue.enc, getD_map hj, Mov.enc, Par.enc], rfl⟩) (fun e => by cases e) ?_
         generalize (late.any fun p => decide (p = l.cues[i].moves[j].pa)) = y at hs3 ⊢
         generalize (([] : List Ent).any fun y => decide (y = (⟨l.cues[i].moves[j].pa, l.cues[i].moves[j].va⟩ : Ent))) = x at hs3 ⊢
         subst hs3
         simp only [zz, reduceCtorEq, Lis.enc, getD_map hi, Cue.enc, getD_map hj, Mov.enc, hc.1]
         exact ⟨fun h => by exfalso; cases y <;> simp at h, fun _ => ⟨(), hw ▸ rfl⟩⟩
       · refine denR_gcall containsP_ok false [.bool false] (by simp only [zz, reduceCtorEq, Lis.enc, getD_map hi, Cue.enc, getD_map hj, Mov.enc] <;> simp <;> grind) (fun e => by cases e) (fun _ => rfl) ?_
         simp only [zz, reduceCtorEq, Lis.enc, getD_map hi, Cue.enc, getD_map hj, Mov.enc]
         exact ⟨fun h => by exfalso; grind, fun _ => ⟨(), hw ▸ rfl⟩⟩
     · intro _ _
       simp only [zz, reduceCtorEq, Lis.enc, getD_map hi, Cue.enc, List.length_map, Nat.lt_irrefl]
       exact ⟨rfl, (), by rw [wr64_eq (by omega)]; rfl⟩
 · intro _ _
   simp only [zz, reduceCtorEq, List.length_map, Nat.lt_irrefl]
   refine denR_call awake20_ok ⟨rfl, _, rfl, ?_⟩
   simp only [zz, reduceCtorEq]
   exact hK
theorem law5m : Contract Tryz.prog 5 (LawSpec Tryz.prog 5) :=
 law5m_typed.weaken fun args K _ h => by
   obtain ⟨h1, h2, hK⟩ := lawArgs [.agg liKs] (by kernel_rfl) h
   match args, h1 with
   | [a], _ =>
     obtain ⟨l, hl, rfl⟩ := Lis.ofAgg (h2 0 _ _ rfl rfl)
     exact ⟨l, hl, rfl, hK⟩
end Go.Sx.La
