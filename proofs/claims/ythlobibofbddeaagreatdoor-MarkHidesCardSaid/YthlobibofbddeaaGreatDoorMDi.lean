/-
 Part 9 of the proof: the executor over the kit's code with its soundness, or contracts of functions.
-/
import Derived.Test.YthlobibofbddeaaGreatDoorMDh
set_option linter.unusedSimpArgs false
set_option linter.unusedVariables false
set_option linter.unusedSectionVars false
set_option linter.defProp false
set_option maxRecDepth 100000
namespace Go.Sx.La
open Go Go.Sx Go.RowKit Go.Proofs
def givenM (p : Int) (es : List Ent) : List Mov := es.map fun e => ⟨e.pa, e.va, p⟩
noncomputable def t18 : R := let x0 : List K := [.int .i64, .int .i64, .slice [.str, .str, .slice [.int .i64, .int .i64, .int .i64, .int .i64, .int .i64], .slice [.int .i64, .int .i64, .int .i64, .int .i64, .int .i64, .int .i64], .bool, .bool, .int .i64, .str, .int .i64]]; let x1 : T := .o1 .not (.bool true); let x2 : T := .lcons (.var 1) (.lcons (.var 2) .lnil); let x3 : T := .lcons (.int .i64 2) (.lcons (.int .i64 1) .lnil); let x4 : T := .o1 .not (.o2 .ne (.o2 (.add .i64) (.o2 (.add .i64) (.o2 (.add .i64) (.var 4) (.var 6)) (.var 8)) (.var 10)) (.int .i64 0)); let x5 : List K := [.int .i64, .int .i64, .int .i64, .int .i64]; let x6 : T := .push (.push (.push .nils (.lcons (.int .i64 0) .lnil)) (.lcons (.int .i64 7) .lnil)) (.lcons (.int .i64 50) .lnil); let x7 : T := .push .nils (.lcons (.int .i64 80) .lnil); let x8 : T := .o1 .not (.bool false); let x9 : T := .lcons (.int .i64 9) .lnil; let x10 : T := .o2 .eq (.var 22) (.int .i64 0); let x11 : T := .o1 .not (.o1 .not (.var 12)); let x12 : T := .lcons (.int .i64 (-1)) .lnil; let x13 : T := .o1 .not (.o1 .not (.var 14)); .call none (.fn 68) [] [.agg x0] (.call none (.fn 19) [.lcons (.var 0) x2, .str [51]] [.cell (.slice x5), .cell (.int .i64)] (.call none (.fn 25) [.lcons (.var 0) x2, .str [51]] [.cell (.slice x5), .cell (.int .i64)] (.call none (.fn 27) [.lcons (.var 0) x2, .str [52]] [.cell (.slice x5), .cell (.int .i64)] (.call none (.fn 21) [.lcons (.var 0) x2, .str [52]] [.cell (.slice [.int .i64, .int .i64]), .cell (.int .i64)] (.call (some x4) (.fn 70) [.var 3] [.cell (.slice [.int .i64])] (.ite x4 (.call (some x8) (.fn 69) [.var 11, .push .nils (.lcons (.int .i64 7) .lnil)] [.cell .bool] (.call (some x11) (.fn 70) [.var 5] [.cell (.slice [.int .i64])] (.ite x11 (.call (some x8) (.fn 69) [.var 13, .push x6 x12] [.cell .bool] (.call (some x13) (.fn 70) [.var 7] [.cell (.slice [.int .i64])] (.ite x13 (.call (some x8) (.fn 69) [.var 15, .push x7 x9] [.cell .bool] (.ite (.o1 .not (.o1 .not (.var 16))) (.call (some x8) (.fn 24) [.var 9, .push .nils x3] [.cell .bool] (.ite (.o1 .not (.var 17)) (.ret [.d (.bool false)]) (.call none (.fn 71) [.lcons (.var 0) x2, .str [51]] [.agg x0] (.call none (.fn 19) [.lcons (.var 18) (.lcons (.var 19) (.lcons (.var 20) .lnil)), .str [50]] [.cell (.slice x5), .cell (.int .i64)] (.fact (.ite x10 (.o2 .le (.o1 .len (.var 21)) (.int .i64 140737488355328)) (.bool true)) (.ret [.d (.ite x10 (.o2 .eq (.o1 .len (.var 21)) (.int .i64 0)) (.bool false))])))))) (.call (some x1) (.fn 24) [.var 9, .nils] [.cell .bool] (.ret [.d (.bool false)])))) (.call (some x1) (.fn 69) [.var 15, .nils] [.cell .bool] (.ite x1 (.call none (.fn 24) [.var 9, .push .nils x3] [.cell .bool] (.ret [.d (.bool false)])) (.call (some (.bool false)) (.fn 24) [.var 9, .nils] [.cell .bool] (.ret [.d (.bool false)]))))))) (.call (some x1) (.fn 69) [.var 13, .nils] [.cell .bool] (.call (some x1) (.fn 70) [.var 7] [.cell (.slice [.int .i64])] (.ite x1 (.call none (.fn 69) [.var 15, .push x7 x9] [.cell .bool] (.call none (.fn 24) [.var 9, .push .nils x3] [.cell .bool] (.ret [.d (.bool false)]))) (.call (some (.bool false)) (.fn 69) [.var 15, .nils] [.cell .bool] (.call (some (.bool false)) (.fn 24) [.var 9, .nils] [.cell .bool] (.ret [.d (.bool false)]))))))))) (.call (some x1) (.fn 69) [.var 11, .nils] [.cell .bool] (.call (some x1) (.fn 70) [.var 5] [.cell (.slice [.int .i64])] (.ite x1 (.call none (.fn 69) [.var 13, .push x6 x12] [.cell .bool] (.call none (.fn 70) [.var 7] [.cell (.slice [.int .i64])] (.call none (.fn 69) [.var 15, .push x7 x9] [.cell .bool] (.call none (.fn 24) [.var 9, .push .nils x3] [.cell .bool] (.ret [.d (.bool false)]))))) (.call (some (.bool false)) (.fn 69) [.var 13, .nils] [.cell .bool] (.call (some (.bool false)) (.fn 70) [.var 7] [.cell (.slice [.int .i64])] (.call (some (.bool false)) (.fn 69) [.var 15, .nils] [.cell .bool] (.call (some (.bool false)) (.fn 24) [.var 9, .nils] [.cell .bool] (.ret [.d (.bool false)]))))))))))))))
theorem t18_ok : fnO Tryz.prog mdA 18 [] = t18 := by kernel_rfl
theorem c18 : callable Tryz.prog 18 = true := by kernel_rfl
noncomputable def t68 : R := let x1 : List K := [.int .i64, .int .i64, .int .i64, .int .i64, .int .i64]; let x0 : List K := [.str, .str, .slice x1, .slice [.int .i64, .int .i64, .int .i64, .int .i64, .int .i64, .int .i64], .bool, .bool, .int .i64, .str, .int .i64]; .call none (.fn 117) [.int .i64 1, .int .i64 0, .int .i64 80] [.agg x1] (.call none (.fn 117) [.int .i64 1, .int .i64 1, .int .i64 7] [.agg x1] (.call none (.fn 117) [.int .i64 2, .int .i64 1, .int .i64 9] [.agg x1] (.call none (.fn 116) [.str [52], .push (.push (.push .nils (.lcons (.var 0) (.lcons (.var 1) (.lcons (.var 2) (.lcons (.var 3) (.lcons (.var 4) .lnil)))))) (.lcons (.var 5) (.lcons (.var 6) (.lcons (.var 7) (.lcons (.var 8) (.lcons (.var 9) .lnil)))))) (.lcons (.var 10) (.lcons (.var 11) (.lcons (.var 12) (.lcons (.var 13) (.lcons (.var 14) .lnil)))))] [.agg x0] (.call none (.fn 117) [.int .i64 1, .int .i64 0, .int .i64 100] [.agg x1] (.call none (.fn 116) [.str [49], .push .nils (.lcons (.var 24) (.lcons (.var 25) (.lcons (.var 26) (.lcons (.var 27) (.lcons (.var 28) .lnil)))))] [.agg x0] (.call none (.fn 117) [.int .i64 1, .int .i64 0, .int .i64 0] [.agg x1] (.call none (.fn 117) [.int .i64 2, .int .i64 0, .int .i64 50] [.agg x1] (.call none (.fn 116) [.str [50], .push (.push .nils (.lcons (.var 38) (.lcons (.var 39) (.lcons (.var 40) (.lcons (.var 41) (.lcons (.var 42) .lnil)))))) (.lcons (.var 43) (.lcons (.var 44) (.lcons (.var 45) (.lcons (.var 46) (.lcons (.var 47) .lnil)))))] [.agg x0] (.call none (.fn 116) [.str [51], .nils] [.agg x0] (.ret [.d (.lcons (.int .i64 1) (.lcons (.int .i64 0) (.lcons (.push (.push (.push (.push .nils (.lcons (.var 29) (.lcons (.var 30) (.lcons (.var 31) (.lcons (.var 32) (.lcons (.var 33) (.lcons (.var 34) (.lcons (.var 35) (.lcons (.var 36) (.lcons (.var 37) .lnil)))))))))) (.lcons (.var 48) (.lcons (.var 49) (.lcons (.var 50) (.lcons (.var 51) (.lcons (.var 52) (.lcons (.var 53) (.lcons (.var 54) (.lcons (.var 55) (.lcons (.var 56) .lnil)))))))))) (.lcons (.var 57) (.lcons (.var 58) (.lcons (.var 59) (.lcons (.var 60) (.lcons (.var 61) (.lcons (.var 62) (.lcons (.var 63) (.lcons (.var 64) (.lcons (.var 65) .lnil)))))))))) (.lcons (.var 15) (.lcons (.var 16) (.lcons (.var 17) (.lcons (.var 18) (.lcons (.var 19) (.lcons (.bool true) (.lcons (.var 21) (.lcons (.var 22) (.lcons (.var 23) .lnil)))))))))) .lnil)))]))))))))))
theorem t68_ok : fnO Tryz.prog mdA 68 [] = t68 := by kernel_rfl
theorem c68 : callable Tryz.prog 68 = true := by kernel_rfl
noncomputable def t116 : R := let x0 : T := .lcons (.int .i64 0) .lnil; .ret [.d (.lcons (.var 0) (.lcons (.str []) (.lcons (.var 1) (.lcons (.rep (.int .i64 1) (.lcons (.int .i64 0) (.lcons (.int .i64 0) (.lcons (.int .i64 0) (.lcons (.int .i64 0) (.lcons (.int .i64 0) x0)))))) (.lcons (.bool false) (.lcons (.bool false) (.lcons (.int .i64 (-1)) (.lcons (.str []) x0))))))))]
theorem t116_ok : fnO Tryz.prog mdA 116 [.cell .str, .cell (.slice [.int .i64, .int .i64, .int .i64, .int .i64, .int .i64])] = t116 := by kernel_rfl
theorem c116 : callable Tryz.prog 116 = true := by kernel_rfl
noncomputable def t117 : R := .call none (.fn 149) [.var 2] [.agg [.int .i64, .int .i64]] (.ret [.d (.lcons (.var 0) (.lcons (.var 1) (.lcons (.var 3) (.lcons (.var 4) (.lcons (.int .i64 1) .lnil)))))])
theorem t117_ok : fnO Tryz.prog mdA 117 [.cell (.int .i64), .cell (.int .i64), .cell (.int .i64)] = t117 := by kernel_rfl
theorem c117 : callable Tryz.prog 117 = true := by kernel_rfl
noncomputable def t69 : R := let x0 : T := .o1 .len (.var 0); let x1 : T := .o1 .len (.var 1); .fact (.o2 .le x0 (.int .i64 140737488355328)) (.fact (.o2 .le x1 (.int .i64 140737488355328)) (.ite (.o2 .ne x0 x1) (.ret [.d (.bool false)]) (.loop 0 [.int .i64 0] [.int .i64] (.ite (.o2 .lt (.var 2) x0) (.need (.o2 .le (.int .i64 0) (.var 2)) (.need (.o2 .lt (.var 2) x1) (.ite (.o2 .ne (.idx (.var 0) (.var 2) 0 (.int .i64)) (.idx (.var 1) (.var 2) 0 (.int .i64))) (.ret [.d (.bool false)]) (.again 0 [.o2 (.add .i64) (.var 2) (.int .i64 1)])))) (.ret [.d (.bool true)])))))
theorem t69_ok : fnO Tryz.prog mdA 69 [.cell (.slice [.int .i64]), .cell (.slice [.int .i64])] = t69 := by kernel_rfl
theorem c69 : callable Tryz.prog 69 = true := by kernel_rfl
noncomputable def t70 : R := let x2 : T := .push .nils (.lcons (.int .i64 (-1)) .lnil); let x3 : T := .idx (.var 0) (.var 2) 3 (.int .i64); let x0 : T := .o2 .band (.o2 .eq (.idx (.var 0) (.var 2) 2 (.int .i64)) (.var 3)) (.o2 .band (.o2 .eq x3 (.var 4)) (.bool true)); let x1 : T := .push .nils (.lcons x3 .lnil); .fact (.o2 .le (.o1 .len (.var 0)) (.int .i64 140737488355328)) (.loop 0 [.nils, .int .i64 0] [.slice [.int .i64], .int .i64] (.ite (.o2 .lt (.var 2) (.o1 .len (.var 0))) (.need (.o2 .le (.int .i64 0) (.var 2)) (.call none (.fn 118) [] [.agg [.int .i64, .int .i64]] (.need (.ite x0 (.o2 .le (.o1 .len (.o2 .app (.var 1) x2)) (.int .i64 17592186044416)) (.bool true)) (.need (.ite (.o1 .not x0) (.o2 .le (.o1 .len (.o2 .app (.var 1) x1)) (.int .i64 17592186044416)) (.bool true)) (.lets [.ite x0 x2 x1, .ite x0 (.o2 .app (.var 1) x2) (.o2 .app (.var 1) x1)] (.again 0 [.var 6, .o2 (.add .i64) (.var 2) (.int .i64 1)])))))) (.ret [.own 1 (.var 1)])))
theorem t70_ok : fnO Tryz.prog mdA 70 [.cell (.slice [.int .i64, .int .i64, .int .i64, .int .i64])] = t70 := by kernel_rfl
theorem c70 : callable Tryz.prog 70 = true := by kernel_rfl
noncomputable def t29 : R := let x0 : T := .lcons (.var 1) (.lcons (.var 2) .lnil); .call none (.fn 17) [.lcons (.var 0) x0] [.cell .bool] (.call (some (.var 3)) (.fn 67) [.lcons (.var 0) x0] [.cell (.int .i64)] (.ret [.d (.ite (.var 3) (.o2 .eq (.var 4) (.int .i64 0)) (.bool false))]))
theorem t29_ok : fnO Tryz.prog mdA 29 [.agg [.int .i64, .int .i64, .slice [.str, .str, .slice [.int .i64, .int .i64, .int .i64, .int .i64, .int .i64], .slice [.int .i64, .int .i64, .int .i64, .int .i64, .int .i64, .int .i64], .bool, .bool, .int .i64, .str, .int .i64]]] = t29 := by kernel_rfl
theorem c29 : callable Tryz.prog 29 = true := by kernel_rfl
def dark4 : Cue := { cue169 [52] false [mv18 1 0 80, mv18 1 1 7, mv18 2 1 9] with mark := true }
def darkL : Lis := ⟨1, 0, [cue169 [49] false [mv18 1 0 100], cue169 [50] false [mv18 1 0 0, mv18 2 0 50], cue169 [51] false [], dark4]⟩
def dark3 : Lis := { darkL with cues := without darkL.cues [51] }
def e21 (v : Val) : Ent := ⟨⟨2, 1⟩, v⟩
theorem dk_e : earlyR darkL [51] = ([e11 ⟨0, 7⟩], 0) := by kernel_rfl
theorem dk_m : markedR darkL [51] = ([e10 ⟨0, 0⟩, e11 ⟨0, 7⟩, e20 ⟨0, 50⟩, e21 hval], 0) := by kernel_rfl
theorem dk_s : mstepsR darkL [52] = ([e10 ⟨0, 80⟩, e21 ⟨0, 9⟩], 0) := by kernel_rfl
theorem dk_l : lateR darkL [52] = ([⟨2, 1⟩], 0) := by kernel_rfl
theorem dk_3 : earlyR dark3 [50] = ([], 0) := by kernel_rfl
theorem sml {v : Int} (h : -1000 ≤ v ∧ v ≤ 1000) : I64 v := ⟨by omega, by omega⟩
theorem darkL_Ok : darkL.Ok := by
 have hc : ∀ (n : List UInt8) (b : Bool) (ms : List Mov), (∀ m ∈ ms, m.Ok) → (cue169 n b ms).Ok := fun n b ms h => ⟨h, by simp [cue169, zt, Tim.Ok, I64], by simp [cue169, I64], by simp [cue169, I64]⟩
 have m1 : ∀ {c a v : Int}, -1000 ≤ c ∧ c ≤ 1000 → -1000 ≤ a ∧ a ≤ 1000 → -1000 ≤ v ∧ v ≤ 1000 → (mv18 c a v).Ok := fun h1 h2 h3 => mv18_Ok (sml h1) (sml h2) (sml h3)
 refine ⟨by simp [darkL, I64], by simp [darkL, I64], fun c hcm => ?_⟩
 simp only [darkL, List.mem_cons, List.not_mem_nil, or_false] at hcm
 rcases hcm with rfl | rfl | rfl | rfl
 · exact hc _ _ _ fun m hm => by simp only [List.mem_cons, List.not_mem_nil, or_false] at hm; rcases hm with rfl; exact m1 (by omega) (by omega) (by omega)
 · exact hc _ _ _ fun m hm => by simp only [List.mem_cons, List.not_mem_nil, or_false] at hm; rcases hm with rfl | rfl <;> exact m1 (by omega) (by omega) (by omega)
 · exact hc _ _ _ fun m hm => by simp at hm
 · have h4 := hc [52] false [mv18 1 0 80, mv18 1 1 7, mv18 2 1 9] fun m hm => by simp only [List.mem_cons, List.not_mem_nil, or_false] at hm; rcases hm with rfl | rfl | rfl <;> exact m1 (by omega) (by omega) (by omega)
   exact ⟨h4.moves, h4.parts, h4.follow, h4.loops⟩
theorem dark3_Ok : dark3.Ok := ⟨darkL_Ok.num, darkL_Ok.prio, fun c hc => darkL_Ok.cues c (List.mem_filter.1 hc).1⟩
theorem mv117_ok : Contract Tryz.prog 117 fun args K => ∃ c a v : Int, I64 c ∧ I64 a ∧ I64 v ∧ args = [.int .i64 c, .int .i64 a, .int .i64 v] ∧ K [.d (.agg (mv18 c a v).enc)] := by
 refine .of c117 t117_ok ?_
 rintro _ K ⟨c, a, v, hc, ha, hv, rfl, hK⟩ hsm
 refine ⟨[.int .i64 c, .int .i64 a, .int .i64 v], rfl, ⟨i64_has hc, i64_has ha, i64_has hv, trivial⟩, ?_⟩
 refine denR_call at15_ok ⟨v, hv, rfl, _, rfl, ?_⟩
 simp only [zz, reduceCtorEq, Val.enc]
 exact hK
theorem cue116_ok : Contract Tryz.prog 116 fun args K => ∃ (n : List UInt8) (ms : List Mov), (∀ m ∈ ms, m.Ok) ∧ args = [.str n, .slice (ms.map Mov.enc)] ∧ K [.d (.agg (cue169 n false ms).enc)] := by
 refine .of c116 t116_ok ?_
 rintro _ K ⟨n, ms, hms, rfl, hK⟩ hsm
 refine ⟨[.str n, .slice (ms.map Mov.enc)], rfl, ⟨trivial, slice_has fun m hm => Mov.has (hms m hm), trivial⟩, ?_⟩
 exact hK
theorem darkL_ok : Contract Tryz.prog 68 fun args K => args = [] ∧ K [.d (.agg darkL.enc)] := by
 refine .of c68 t68_ok ?_
 rintro _ K ⟨rfl, hK⟩ hsm
 refine ⟨[], rfl, trivial, ?_⟩
 have m1 : ∀ {c a v : Int}, -1000 ≤ c ∧ c ≤ 1000 → -1000 ≤ a ∧ a ≤ 1000 → -1000 ≤ v ∧ v ≤ 1000 → (mv18 c a v).Ok := fun h1 h2 h3 => mv18_Ok (sml h1) (sml h2) (sml h3)
 refine denR_call mv117_ok ⟨1, 0, 80, sml (by omega), sml (by omega), sml (by omega), rfl, _, rfl, ?_⟩
 refine denR_call mv117_ok ⟨1, 1, 7, sml (by omega), sml (by omega), sml (by omega), rfl, _, rfl, ?_⟩
 refine denR_call mv117_ok ⟨2, 1, 9, sml (by omega), sml (by omega), sml (by omega), rfl, _, rfl, ?_⟩
 refine denR_call cue116_ok ⟨[52], [mv18 1 0 80, mv18 1 1 7, mv18 2 1 9], fun m hm => by simp only [List.mem_cons, List.not_mem_nil, or_false] at hm; rcases hm with rfl | rfl | rfl <;> exact m1 (by omega) (by omega) (by omega), rfl, _, rfl, ?_⟩
 refine denR_call mv117_ok ⟨1, 0, 100, sml (by omega), sml (by omega), sml (by omega), rfl, _, rfl, ?_⟩
 refine denR_call cue116_ok ⟨[49], [mv18 1 0 100], fun m hm => by simp only [List.mem_cons, List.not_mem_nil, or_false] at hm; rcases hm with rfl; exact m1 (by omega) (by omega) (by omega), rfl, _, rfl, ?_⟩
 refine denR_call mv117_ok ⟨1, 0, 0, sml (by omega), sml (by omega), sml (by omega), rfl, _, rfl, ?_⟩
 refine denR_call mv117_ok ⟨2, 0, 50, sml (by omega), sml (by omega), sml (by omega), rfl, _, rfl, ?_⟩
 refine denR_call cue116_ok ⟨[50], [mv18 1 0 0, mv18 2 0 50], fun m hm => by simp only [List.mem_cons, List.not_mem_nil, or_false] at hm; rcases hm with rfl | rfl <;> exact m1 (by omega) (by omega) (by omega), rfl, _, rfl, ?_⟩
 refine denR_call cue116_ok ⟨[51], [], by simp, rfl, _, rfl, ?_⟩
 exact hK
def levL (es : List Ent) : List Int := es.map fun e => if e.va = hval then -1 else e.va.lev
def encI (xs : List Int) : List (List D) := xs.map fun x => [.int .i64 x]
theorem levels_ok : Contract Tryz.prog 70 fun args K => ∃ (es : List Ent), (∀ e ∈ es, e.Ok) ∧ es.length ≤ 10000 ∧ args = [.slice (es.map Ent.enc)] ∧ K [.own 1 (encI (levL es))] := by
 refine .of c70 t70_ok ?_
 rintro _ K ⟨es, hes, hlen, rfl, hK⟩ hsm
 refine ⟨[.slice (es.map Ent.enc)], rfl, ⟨ents_has hes, trivial⟩, ?_⟩
 simp only [zz, reduceCtorEq, t70, List.length_map]
 intro hcap
 refine loop_goI es (fun _ es (acc : List Int) => acc ++ levL es) (fun i acc => [.slice (encI acc), .int .i64 i]) (fun i acc => acc.length = i) [] (levL es) rfl rfl 1 (fun _ _ => rfl) rfl ?_ ?_
 · intro i hi acc hI hgo
   have hv : (es[i].va = hval) ↔ (es[i].va.pal = -1 ∧ es[i].va.lev = 0) := val_eq _ _
   have hal : (encI acc).length = i := by simp [encI, hI]
   simp only [zz, reduceCtorEq, List.length_map, hi, getD_map hi, Ent.enc]
   refine ⟨by omega, ?_⟩
   refine denR_call home15_ok ⟨rfl, _, rfl, ?_⟩
   simp only [zz, reduceCtorEq, getD_map hi, Ent.enc, hval, Val.enc, List.length_append, hal]
   refine ⟨by simp <;> omega, by simp <;> omega, acc ++ [if es[i].va = hval then -1 else es[i].va.lev], ⟨?_, by rw [wr64_eq] <;> omega⟩, by simp [hI], by simp only [levL, List.append_assoc, List.singleton_append, List.map_cons, List.map_drop] at hgo ⊢; exact hgo⟩
   by_cases h : es[i].va = hval
   · rw [if_pos h]
     have := hv.1 h
     simp [this, encI]
   · rw [if_neg h]
     have : ¬ (es[i].va.pal = -1 ∧ es[i].va.lev = 0) := fun e => h (hv.2 e)
     simp [this, encI]
 · intro acc hI hgo
   simp only [zz, reduceCtorEq, List.length_map, Nat.lt_irrefl]
   simp only [levL, List.map_nil, List.append_nil] at hgo
   rw [hgo]; exact hK
theorem eqInts_ok : Contract Tryz.prog 69 fun args K => ∃ (xs : List Int), (∀ x ∈ xs, I64 x) ∧ args = [.slice (encI xs), .slice (encI xs)] ∧ K [.d (.bool true)] := by
 refine .of c69 t69_ok ?_
 rintro _ K ⟨xs, hxs, rfl, hK⟩ hsm
 have hh : HasK (.slice [.int .i64]) (.slice (encI xs)) := slice_has fun x hx => ⟨i64_has (hxs x hx), trivial⟩
 refine ⟨[.slice (encI xs), .slice (encI xs)], rfl, ⟨hh, hh, trivial⟩, ?_⟩
 have hl : (encI xs).length = xs.length := by simp [encI]
 simp only [zz, reduceCtorEq, t69, hl]
 intro hcap _
 refine loop_go xs (fun _ _ (_ : Unit) => ()) (fun i _ => [.int .i64 i]) () () rfl 0 (fun _ _ => rfl) rfl ?_ ?_
 · intro i hi _ _
   have hget : (encI xs).getD i [] = [.int .i64 xs[i]] := getD_map (enc := fun x => [D.int .i64 x]) hi
   simp only [zz, reduceCtorEq, hl, hi, hget]
   exact ⟨by omega, (), by rw [wr64_eq (by omega)]; rfl⟩
 · intro _ _
   simp only [zz, reduceCtorEq, hl, Nat.lt_irrefl]
   exact hK
theorem awake20_ok : Contract Tryz.prog 18 fun args K => args = [] ∧ K [.d (.bool true)] := by
 refine .of c18 t18_ok ?_
 rintro _ K ⟨rfl, hK⟩ hsm
 refine ⟨[], rfl, trivial, ?_⟩
 have s : ∀ {v : Val}, SmallV v → v.Ok := fun h => h.ok
 have p : ∀ {a b : Int}, -1000 ≤ a ∧ a ≤ 1000 → -1000 ≤ b ∧ b ≤ 1000 → Par.Ok ⟨a, b⟩ := fun h1 h2 => ⟨sml h1, sml h2⟩
 have e_Ok : ∀ {a b c d : Int}, -1000 ≤ a ∧ a ≤ 1000 → -1000 ≤ b ∧ b ≤ 1000 → -1000 ≤ c ∧ c ≤ 1000 → -1000 ≤ d ∧ d ≤ 1000 → Ent.Ok ⟨⟨a, b⟩, ⟨c, d⟩⟩ := fun h1 h2 h3 h4 => ⟨p h1 h2, sml h3, sml h4⟩
 have k1 : ∀ e ∈ [e11 ⟨0, 7⟩], e.Ok := fun e he => by
   simp only [List.mem_cons, List.not_mem_nil, or_false] at he
   subst he; exact e_Ok (by omega) (by omega) (by omega) (by omega)
 have k2 : ∀ e ∈ [e10 ⟨0, 0⟩, e11 ⟨0, 7⟩, e20 ⟨0, 50⟩, e21 hval], e.Ok := fun e he => by
   simp only [List.mem_cons, List.not_mem_nil, or_false] at he
   rcases he with rfl | rfl | rfl | rfl <;> exact e_Ok (by omega) (by omega) (by omega) (by omega)
 have k3 : ∀ e ∈ [e10 ⟨0, 80⟩, e21 ⟨0, 9⟩], e.Ok := fun e he => by
   simp only [List.mem_cons, List.not_mem_nil, or_false] at he
   rcases he with rfl | rfl <;> exact e_Ok (by omega) (by omega) (by omega) (by omega)
 refine denR_call darkL_ok ⟨rfl, _, rfl, ?_⟩
 refine denR_call earlyC_ok ⟨darkL, [51], darkL_Ok, rfl, ?_⟩
 rw [dk_e]
 intro rvs hr
 refine ⟨[.slice ([e11 ⟨0, 7⟩].map Ent.enc), .int .i64 0], by rcases hr with rfl | rfl <;> rfl, ?_⟩
 refine denR_call markedC_ok ⟨darkL, [51], darkL_Ok, rfl, ?_⟩
 rw [dk_m]
 refine ⟨_, rfl, ?_⟩
 refine denR_call mstepsC_ok ⟨darkL, [52], darkL_Ok, rfl, ?_⟩
 rw [dk_s]
 intro rvs hr
 refine ⟨[.slice ([e10 ⟨0, 80⟩, e21 ⟨0, 9⟩].map Ent.enc), .int .i64 0], by rcases hr with rfl | rfl <;> rfl, ?_⟩
 refine denR_call lateC_ok ⟨darkL, [52], darkL_Ok, rfl, ?_⟩
 rw [dk_l]
 intro rvs hr
 refine ⟨[.slice ([(⟨2, 1⟩ : Par)].map Par.enc), .int .i64 0], by rcases hr with rfl | rfl <;> rfl, ?_⟩
 refine denR_gcall levels_ok true [.slice (encI [7])] (by kernel_rfl) (fun _ => ⟨[e11 ⟨0, 7⟩], k1, by simp, rfl, rfl⟩) (fun h => by cases h) ?_
 refine denR_iteT (by kernel_rfl) ?_
 refine denR_gcall eqInts_ok true [.bool true] (by kernel_rfl) (fun _ => ⟨[7], fun x hx => by simp at hx; subst hx; exact sml (by omega), rfl, rfl⟩) (fun h => by cases h) ?_
 refine denR_gcall levels_ok true [.slice (encI [0, 7, 50, -1])] (by kernel_rfl) (fun _ => ⟨[e10 ⟨0, 0⟩, e11 ⟨0, 7⟩, e20 ⟨0, 50⟩, e21 hval], k2, by simp, rfl, rfl⟩) (fun h => by cases h) ?_
 refine denR_iteT (by kernel_rfl) ?_
 refine denR_gcall eqInts_ok true [.bool true] (by kernel_rfl) (fun _ => ⟨[0, 7, 50, -1], fun x hx => by simp at hx; rcases hx with rfl | rfl | rfl | rfl <;> exact sml (by omega), rfl, rfl⟩) (fun h => by cases h) ?_
 refine denR_gcall levels_ok true [.slice (encI [80, 9])] (by kernel_rfl) (fun _ => ⟨[e10 ⟨0, 80⟩, e21 ⟨0, 9⟩], k3, by simp, rfl, rfl⟩) (fun h => by cases h) ?_
 refine denR_iteT (by kernel_rfl) ?_
 refine denR_gcall eqInts_ok true [.bool true] (by kernel_rfl) (fun _ => ⟨[80, 9], fun x hx => by simp at hx; rcases hx with rfl | rfl <;> exact sml (by omega), rfl, rfl⟩) (fun h => by cases h) ?_
 refine denR_iteT (by kernel_rfl) ?_
 refine denR_gcall samePars_ok true [.bool true] (by kernel_rfl) (fun _ => ⟨[⟨2, 1⟩], fun x hx => by simp at hx; subst hx; exact p (by omega) (by omega), rfl, rfl⟩) (fun h => by cases h) ?_
 refine denR_iteF (by kernel_rfl) ?_
 refine denR_call without17_ok ⟨darkL, [51], darkL_Ok, by simp [darkL], rfl, _, rfl, ?_⟩
 refine denR_call earlyC_ok ⟨dark3, [50], dark3_Ok, rfl, ?_⟩
 rw [dk_3]
 intro rvs hr
 refine ⟨[.slice [], .int .i64 0], by rcases hr with rfl | rfl <;> rfl, ?_⟩
 intro _
 exact hK
noncomputable def t14 : R := let x0 : T := .o2 (.add .i64) (.var 4) (.int .i64 1); let x1 : T := .idx (.var 2) x0 2 (.slice [.int .i64, .int .i64, .int .i64, .int .i64, .int .i64]); let x5 : T := .idx (.var 5) (.var 9) 1 (.int .i64); let x7 : T := .o1 .len (.var 2); let x8 : T := .lcons (.var 1) (.lcons (.var 2) .lnil); let x9 : T := .idx (.var 5) (.var 9) 0 (.int .i64); let x10 : T := .o2 .ne (.var 14) (.int .i64 0); let x11 : T := .o2 .lt (.var 12) (.int .i64 0); let x13 : List K := [.int .i64, .int .i64, .int .i64, .int .i64]; let x14 : T := .idx (.var 7) (.var 9) 0 (.int .i64); let x15 : T := .idx (.var 7) (.var 9) 1 (.int .i64); let x16 : T := .idx (.var 7) (.var 9) 2 (.int .i64); let x17 : T := .idx (.var 7) (.var 9) 3 (.int .i64); let x18 : T := .o1 .not (.var 13); let x19 : T := .o1 .len (.var 7); let x20 : T := .o1 .len (.var 5); let x21 : T := .o2 .ne (.var 11) (.int .i64 0); let x22 : T := .o2 .ge (.var 12) (.o1 .len x1); let x23 : T := .o2 .ne (.var 6) (.int .i64 0); let x24 : T := .o2 .ne (.var 8) (.int .i64 0); let x3 : T := .o1 .not (.o2 .band (.o2 .eq x14 x9) (.o2 .band (.o2 .eq x15 x5) (.bool true))); let x4 : T := .o1 .not (.ite (.ite (.ite x18 (.bool true) x10) (.bool true) x11) (.bool true) x22); let x6 : T := .o1 .not (.ite x23 (.bool true) x24); let x12 : T := .o2 .le x20 (.int .i64 140737488355328); let x2 : T := .o1 .not (.ite (.ite (.ite (.ite x3 (.bool true) (.o2 .eq x5 (.int .i64 0))) (.bool true) (.o1 .not (.var 10))) (.bool true) x21) (.bool true) (.o2 .ge x0 x7)); .call none (.fn 29) [.lcons (.var 0) x8] [.cell .bool] (.ite (.o1 .not (.var 3)) (.call none (.fn 18) [] [.cell .bool] (.ret [.d (.var 4)])) (.fact (.o2 .le x7 (.int .i64 140737488355328)) (.loop 0 [.int .i64 0] [.int .i64] (.ite (.o2 .lt (.var 4) x7) (.need (.o2 .le (.int .i64 0) (.var 4)) (.call none (.fn 36) [.lcons (.var 0) x8, .idx (.var 2) (.var 4) 0 .str] [.cell (.slice x13), .cell (.int .i64)] (.call none (.fn 25) [.lcons (.var 0) x8, .idx (.var 2) (.var 4) 0 .str] [.cell (.slice x13), .cell (.int .i64)] (.fact (.ite x6 x12 (.bool true)) (.fact (.ite x6 (.o2 .le x19 (.int .i64 140737488355328)) (.bool true)) (.ite (.ite (.ite x23 (.bool true) x24) (.bool true) (.o2 .ne x20 x19)) (.ret [.d (.bool false)]) (.fact x12 (.loop 1 [.int .i64 0] [.int .i64] (.ite (.o2 .lt (.var 9) x20) (.need (.o2 .le (.int .i64 0) (.var 9)) (.need (.o2 .lt (.var 9) x19) (.ite (.o2 .band (.o2 .band (.o2 .eq x9 x14) (.o2 .band (.o2 .eq x5 x15) (.bool true))) (.o2 .band (.o2 .band (.o2 .eq (.idx (.var 5) (.var 9) 2 (.int .i64)) x16) (.o2 .band (.o2 .eq (.idx (.var 5) (.var 9) 3 (.int .i64)) x17) (.bool true))) (.bool true))) (.again 1 [.o2 (.add .i64) (.var 9) (.int .i64 1)]) (.call none (.fn 55) [.var 5, .idx (.var 5) (.var 9) 0 (.int .i64)] [.cell .bool, .cell (.int .i64)] (.need (.ite x2 (.o2 .le (.int .i64 0) x0) (.bool true)) (.need (.ite x2 (.o2 .lt x0 x7) (.bool true)) (.ite (.ite (.ite (.ite (.ite (.ite x3 (.bool true) (.o2 .eq x5 (.int .i64 0))) (.bool true) (.o1 .not (.var 10))) (.bool true) x21) (.bool true) (.o2 .ge x0 x7)) (.bool true) (.o1 .not (.idx (.var 2) x0 5 .bool))) (.ret [.d (.bool false)]) (.need (.o2 .le (.int .i64 0) x0) (.need (.o2 .lt x0 x7) (.call none (.fn 62) [.lcons (.idx (.var 2) x0 0 .str) (.lcons (.idx (.var 2) x0 1 .str) (.lcons x1 (.lcons (.idx (.var 2) x0 3 (.slice [.int .i64, .int .i64, .int .i64, .int .i64, .int .i64, .int .i64])) (.lcons (.idx (.var 2) x0 4 .bool) (.lcons (.idx (.var 2) x0 5 .bool) (.lcons (.idx (.var 2) x0 6 (.int .i64)) (.lcons (.idx (.var 2) x0 7 .str) (.lcons (.idx (.var 2) x0 8 (.int .i64)) .lnil)))))))), .lcons x9 (.lcons x5 .lnil)] [.cell (.int .i64), .cell .bool, .cell (.int .i64)] (.fact (.ite (.o1 .not (.ite (.ite x18 (.bool true) x10) (.bool true) x11)) (.o2 .le (.o1 .len x1) (.int .i64 140737488355328)) (.bool true)) (.need (.ite x4 (.o2 .le (.int .i64 0) (.var 12)) (.bool true)) (.need (.ite x4 (.o2 .lt (.var 12) (.o1 .len x1)) (.bool true)) (.ite (.ite (.ite (.ite (.ite x18 (.bool true) x10) (.bool true) x11) (.bool true) x22) (.bool true) (.o1 .not (.o2 .band (.o2 .eq (.idx x1 (.var 12) 2 (.int .i64)) x16) (.o2 .band (.o2 .eq (.idx x1 (.var 12) 3 (.int .i64)) x17) (.bool true))))) (.ret [.d (.bool false)]) (.again 1 [.o2 (.add .i64) (.var 9) (.int .i64 1)]))))))))))))))) (.again 0 [.o2 (.add .i64) (.var 4) (.int .i64 1)])))))))))) (.call none (.fn 18) [] [.cell .bool] (.ret [.d (.var 5)]))))))
theorem t14_ok : fnO Tryz.prog mdA 14 [.agg [.int .i64, .int .i64, .slice [.str, .str, .slice [.int .i64, .int .i64, .int .i64, .int .i64, .int .i64], .slice [.int .i64, .int .i64, .int .i64, .int .i64, .int .i64, .int .i64], .bool, .bool, .int .i64, .str, .int .i64]]] = t14 := by kernel_rfl
theorem c14 : callable Tryz.prog 14 = true := by kernel_rfl
theorem few18n_ok : Contract Tryz.prog 17 fun args K => ∃ (l : Lis), l.Ok ∧ args = [.agg l.enc] ∧ ∀ b : Bool, (b = true → checkL order05 l = 0 → (pars l.cues).length ≤ 30) → K [.d (.bool b)] := by
 refine .of c17 t17_ok ?_
 rintro _ K ⟨l, hl, rfl, hK⟩ hsm
 refine ⟨l.enc, rfl, Lis.has hl, ?_⟩
 refine denR_call few17_ok ⟨l, hl, by simp only [zz, reduceCtorEq, Lis.enc], _, rfl, ?_⟩
 simp only [zz, reduceCtorEq, Lis.enc, List.length_map]
 have hck : K [.d (.bool (decide (¬ checkL order05 l = 0)))] := hK _ fun h h2 => by simp [h2] at h
 refine ⟨fun _ => hK false (by simp), fun _ hcap => ⟨fun _ => ?_, fun h10 => ?_⟩⟩
 · refine denR_call check17_ok ⟨l, hl, by simp only [zz, reduceCtorEq, Lis.enc], _, rfl, ?_⟩
   simp only [zz, reduceCtorEq]
   simpa using hck
 · rw [denR_loop]
   refine ⟨fun c ys => c = none ∧ ∃ (i m : Nat), i ≤ l.cues.length ∧ m ≤ 30 ∧ m = (pars (l.cues.take i)).length ∧ ys = [.int .i64 m, .int .i64 i], fun ys => match ys with | [_, .int _ i] => l.cues.length - i.toNat | _ => 0, ⟨rfl, 0, 0, Nat.zero_le _, by omega, rfl, rfl⟩, ?_⟩
   rintro _ _ _ ⟨rfl, i, m, hi, hm, hmp, rfl⟩
   simp only [zz, reduceCtorEq, List.length_map]
   refine ⟨fun h => ?_, fun h => hK true fun _ _ => ?_⟩
   · have h : i < l.cues.length := by omega
     have hps : (pars (l.cues.take (i + 1))).length = m + l.cues[i].moves.length := by
       rw [hmp, List.take_succ_eq_append_getElem h]
       simp only [pars, List.flatMap_append, List.length_append, List.flatMap_cons, List.flatMap_nil, List.append_nil, List.length_map]
     simp only [zz, reduceCtorEq, getD_map h, Cue.enc, List.length_map]
     refine ⟨by omega, fun hcap2 => ⟨fun _ => ?_, fun hh => ?_⟩⟩
     · refine denR_call check17_ok ⟨l, hl, by simp only [zz, reduceCtorEq, Lis.enc], _, rfl, ?_⟩
       simp only [zz, reduceCtorEq]
       simpa using hck
     · have hw : wr64 ((m : Int) + (l.cues[i].moves.length : Int)) = ((m + l.cues[i].moves.length : Nat) : Int) := by rw [wr64_eq] <;> omega
       rw [hw] at hh ⊢
       have hh : m + l.cues[i].moves.length ≤ 30 := by grind
       refine ⟨⟨rfl, i + 1, m + l.cues[i].moves.length, by omega, hh, hps.symm, by rw [wr64_eq (by omega)]; exact ⟨rfl, by omega⟩⟩, ?_⟩
       rw [wr64_eq (by omega)]
       show l.cues.length - ((i : Int) + 1).toNat < l.cues.length - ((i : Int)).toNat
       omega
   · have : i = l.cues.length := by omega
     subst this
     rw [List.take_length] at hmp
     omega
theorem good20n_ok : Contract Tryz.prog 29 fun args K => ∃ (l : Lis), l.Ok ∧ args = [.agg l.enc] ∧ ∀ b : Bool, (b = true → checkL order05 l = 0 ∧ (pars l.cues).length ≤ 30) → K [.d (.bool b)] := by
 refine .of c29 t29_ok ?_
 rintro _ K ⟨l, hl, rfl, hK⟩ hsm
 refine ⟨l.enc, rfl, Lis.has hl, ?_⟩
 refine denR_call few18n_ok ⟨l, hl, by simp only [zz, reduceCtorEq, Lis.enc], fun b hb => ⟨[.bool b], rfl, ?_⟩⟩
 cases b with
 | true =>
   refine denR_gcall check17_ok true [.int .i64 (checkL order05 l)] rfl (fun _ => ⟨l, hl, by simp only [zz, reduceCtorEq, Lis.enc], rfl⟩) (fun h => by cases h) ?_
   simp only [zz, reduceCtorEq, Lis.enc]
   have := hK (decide (checkL order05 l = 0)) (fun h => by have h := of_decide_eq_true h; exact ⟨h, hb rfl h⟩)
   simpa using this
 | false =>
   refine denR_gcall check17_ok false [.int .i64 0] rfl (fun h => by cases h) (fun _ => rfl) ?_
   simp only [zz, reduceCtorEq, Lis.enc]
   simpa using hK false (by simp)
theorem entsGo_right {xs : List Ent} (h : RightE xs) : ∀ (cs : List Ent) (i : Nat), cs = xs.drop i → entsGo xs i cs = 0
 | [], _, _ => rfl
 | c :: cs, i, he => by
   have hlt : i < xs.length := by
     rcases Nat.lt_or_ge i xs.length with h | h
     · exact h
     · rw [List.drop_eq_nil_of_le h] at he; cases he
   rw [List.drop_eq_getElem_cons hlt] at he
   obtain ⟨rfl, rfl⟩ := List.cons.inj he
   have hm := List.getElem_mem hlt
   have e0 : e15 xs[i] = 0 := by unfold e15; rw [if_neg (by simp [h.par _ hm])]; exact h.val _ hm
   simp only [entsGo]
   rw [if_neg (by simp [e0]), if_neg ?_]
   · exact entsGo_right h _ (i + 1) rfl
   · rintro ⟨h0, hb⟩
     rw [getElem!_pos xs (i - 1) (by omega)] at hb
     have := List.pairwise_iff_getElem.1 h.rising (i - 1) i (by omega) hlt (by omega)
     rw [this] at hb; cases hb
theorem ents15_right {xs : List Ent} (h : RightE xs) (hl : xs.length ≤ 4096) : ents15 xs = 0 := by
 unfold ents15
 rw [if_neg (by omega)]
 exact entsGo_right h xs 0 rfl
theorem moved_few {l : Lis} (h : (pars l.cues).length ≤ 30) : (movedL l.cues).length ≤ 30 := by
 have := length_putAll (ps := pars l.cues) (a := [])
 simp only [movedL, List.length_nil] at this ⊢
 omega
theorem mfind_of {ms : List Mov} (hr : RisingM ms) {m : Mov} (hm : m ∈ ms) : mfind ms m.pa = some m := by
 unfold mfind
 cases hf : ms.find? fun x => decide (x.pa = m.pa) with
 | none =>
   rw [List.find?_eq_none] at hf
   have := hf m hm
   simp at this
 | some x =>
   have hx := List.mem_of_find?_eq_some hf
   have he := List.find?_some hf
   simp only [decide_eq_true_eq] at he
   obtain ⟨i, hi, rfl⟩ := List.getElem_of_mem hx
   obtain ⟨j, hj, rfl⟩ := List.getElem_of_mem hm
   rcases Nat.lt_trichotomy i j with h | h | h
   · have := List.pairwise_iff_getElem.1 hr i j hi hj h
     rw [he, before_irr] at this; cases this
   · subst h; rfl
   · have := List.pairwise_iff_getElem.1 hr j i hj hi h
     rw [he, before_irr] at this; cases this
structure Hides (l : Lis) (n : Nat) (p : Par) : Prop where
 lt : n < l.cues.length
 mark : l.cues[n].mark = true
 move : ∃ m, mfind l.cues[n].moves p = some m ∧ m.va = mvalued l.cues p n
 att : p.at_ ≠ 0
 dark : isDark (lookL l.cues n) p.ch = true
theorem hides {l : Lis} (hR : RightT l) {n : Nat} {p : Par} (h : valued l.cues p n ≠ mvalued l.cues p n) : Hides l n p := by
 unfold mvalued at h
 cases hf : mfind (earlyM l.cues n) p with
 | none => rw [hf] at h; exact absurd rfl h
 | some m =>
   have hm : m ∈ earlyM l.cues n := List.mem_of_find?_eq_some hf
   have hp : m.pa = p := by have := List.find?_some hf; simpa using this
   obtain ⟨_, hn, hmk, hmm, hb⟩ := earlyM_mem hm
   subst hp
   unfold earlyB at hb
   simp only [Bool.and_eq_true, Bool.not_eq_true', decide_eq_false_iff_not] at hb
   exact ⟨hn, hmk, ⟨m, mfind_of (hR.moves _ (List.getElem_mem hn)).rising hmm, by simp [mvalued, hf]⟩, hb.1, hb.2.1⟩
theorem markedR_at {l : Lis} (h : checkL order05 l = 0) {i : Nat} (hi : i < l.cues.length) : markedR l l.cues[i].num = (markedL l.cues (i + 1), 0) := by
 obtain ⟨h1, h2, _⟩ := cue18_at h hi
 unfold markedR
 rw [if_neg (by simp [h1]), h2]
theorem law14m_typed : Contract Tryz.prog 14 fun args K => ∃ (l : Lis), l.Ok ∧ args = [.agg l.enc] ∧ K [.d (.bool true)] := by
 refine .of c14 t14_ok ?_
 rintro _ K ⟨l, hl, rfl, hK⟩ hsm
 refine ⟨l.enc, rfl, Lis.has hl, ?_⟩
 refine denR_call good20n_ok ⟨l, hl, by simp only [zz, reduceCtorEq, Lis.enc], fun b hb => ⟨[.bool b], rfl, ?_⟩⟩
 simp only [zz, reduceCtorEq, Lis.enc, List.length_map]
 refine ⟨fun _ => ?_, fun hbt => ?_⟩
 · refine denR_call awake20_ok ⟨rfl, _, rfl, ?_⟩
   simp only [zz, reduceCtorEq]
   exact hK
 obtain ⟨hch, hfew⟩ := hb hbt
 have hR := rightT_of hl hch
 have hlen := hR.len
 intro hcap
 refine loop_go l.cues (fun _ _ (_ : Unit) => ()) (fun i _ => [.int .i64 i]) () () rfl 0 (fun _ _ => rfl) rfl ?_ ?_
 · intro i hi _ _
   simp only [zz, reduceCtorEq, hi, List.length_map]
   refine ⟨by omega, ?_⟩
   refine denR_call lookC_ok ⟨l, l.cues[i].num, hl, by simp only [zz, reduceCtorEq, Lis.enc, getD_map hi, Cue.enc], ?_⟩
   rw [lookR_at hch hi]
   refine ⟨_, rfl, ?_⟩
   refine denR_call markedC_ok ⟨l, l.cues[i].num, hl, by simp only [zz, reduceCtorEq, Lis.enc, getD_map hi, Cue.enc], ?_⟩
   rw [markedR_at hch hi]
   refine ⟨_, rfl, ?_⟩
   have hRE := look_right hl hch (i + 1)
   have hRM := marked_right hl hch (i + 1)
   have hll : (lookL l.cues (i + 1)).length = (movedL l.cues).length := by simp [lookL]
   have hml : (markedL l.cues (i + 1)).length = (movedL l.cues).length := by rw [marked_eq hR]; simp
   have hmf := moved_few hfew
   have h15 := ents15_right hRE (by omega)
   have hat : ∀ (k : Nat) (hk : k < (lookL l.cues (i + 1)).length) (hk' : k < (markedL l.cues (i + 1)).length) (hk2 : k < (movedL l.cues).length),
       (lookL l.cues (i + 1))[k] = ⟨(movedL l.cues)[k], valued l.cues (movedL l.cues)[k] (i + 1)⟩ ∧ (markedL l.cues (i + 1))[k] = ⟨(movedL l.cues)[k], mvalued l.cues (movedL l.cues)[k] (i + 1)⟩ := by
     intro k hk hk' hk2
     have e := marked_eq hR (i + 1)
     refine ⟨by simp [lookL], ?_⟩
     simp [e]
   have hdk : ∀ p : Par, param15 p = 0 → darkR (lookL l.cues (i + 1)) p.ch = (isDark (lookL l.cues (i + 1)) p.ch, 0) := by
     intro p hp
     have := param15_ok' hp
     unfold darkR
     rw [if_neg (by simp [h15]), if_neg (by omega)]
   generalize hA : lookL l.cues (i + 1) = A at hRE hll hat hdk h15
   generalize hB : markedL l.cues (i + 1) = B at hRM hml hat
   have hAB : A.length = B.length := by omega
   simp only [zz, reduceCtorEq, Lis.enc, List.length_map, hAB]
   intro _ _ _
   refine loop_go A (fun _ _ (_ : Unit) => ()) (fun k _ => [.int .i64 k]) () () rfl 0 (fun _ _ => rfl) rfl ?_ ?_
   · intro k hk _ _
     have hkB : k < B.length := by omega
     have hkm : k < (movedL l.cues).length := by omega
     obtain ⟨ea, eb⟩ := hat k hk hkB hkm
     have hpp := moved_par hR _ (List.getElem_mem hkm)
     have hv := val_eq (valued l.cues (movedL l.cues)[k] (i + 1)) (mvalued l.cues (movedL l.cues)[k] (i + 1))
     have hhid := hides hR (n := i + 1) (p := (movedL l.cues)[k])
     generalize (movedL l.cues)[k] = p at ea eb hpp hv hhid
     generalize valued l.cues p (i + 1) = v at ea hv hhid
     generalize hw : mvalued l.cues p (i + 1) = w at eb hv hhid
     simp only [zz, reduceCtorEq, List.length_map, hk, hkB, hAB, getD_map hk, getD_map hkB, Ent.enc, ea, eb]
     refine ⟨by omega, fun _ => ⟨(), by rw [wr64_eq] <;> omega⟩, fun hne => ?_⟩
     have hne' : v ≠ w := fun e => by
       have := hv.1 e
       simp [this] at hne
     obtain ⟨hlt, hmk, ⟨m, hfm, hmv⟩, hat0, hdrk⟩ := hhid hne'
     rw [hA] at hdrk
     have hw1 : wr64 ((i : Int) + 1) = ((i + 1 : Nat) : Int) := by rw [wr64_eq] <;> omega
     refine denR_call darkC_ok ⟨A, p.ch, hRE.ok, hpp.1.1, by simp only [zz, reduceCtorEq, getD_map hk, Ent.enc, ea], ?_⟩
     rw [hdk p hpp.2, hdrk]
     refine ⟨_, rfl, ?_⟩
     have hck := (rightL_of hch).cues _ (List.getElem_mem hlt)
     have hcok := hl.cues _ (List.getElem_mem hlt)
     obtain ⟨hlo, hloe⟩ := low_mfind (hR.moves _ (List.getElem_mem hlt)) hfm
     simp only [zz, reduceCtorEq, List.length_map, hk, hkB, getD_map hk, getD_map hkB, Ent.enc, ea, eb, hw1, hlt, getD_map hlt, Cue.enc, hmk, hat0]
     have hnle : ¬ l.cues.length ≤ i + 1 := by omega
     refine ⟨by split <;> simp <;> omega, by split <;> simp, fun h => absurd h (by simp [hnle]), fun _ => ⟨by omega, ?_⟩⟩
     refine denR_call cfind_ok ⟨l.cues[i + 1], p, hcok, hck, hpp.1, hpp.2, by simp only [zz, reduceCtorEq, getD_map hk, Ent.enc, ea, hw1, getD_map hlt, Cue.enc, Par.enc], ?_⟩
     rw [hfm]
     refine ⟨_, rfl, ?_⟩
     have hv1 : m.va.pal = w.pal ∧ m.va.lev = w.lev := by rw [hmv, hw]; exact ⟨rfl, rfl⟩
     simp only [zz, reduceCtorEq, List.length_map, hk, hkB, getD_map hk, getD_map hkB, Ent.enc, ea, eb, hw1, hlt, getD_map hlt, Cue.enc, hmk, Option.isSome_some, getD_map hlo, hloe, Mov.enc, hlo, hv1.1, hv1.2]
     refine fun _ => ⟨by split <;> simp, by split <;> simp, fun h => ?_, fun _ => ⟨(), by rw [wr64_eq (by omega)]; rfl⟩⟩
     exfalso
     rcases h with (h | h) | h
     · omega
     · omega
     · simp at h
   · intro _ _
     simp only [zz, reduceCtorEq, List.length_map, hAB, Nat.lt_irrefl]
     exact ⟨rfl, (), by rw [wr64_eq (by omega)]; rfl⟩
 · intro _ _
   simp only [zz, reduceCtorEq, List.length_map, Nat.lt_irrefl]
   refine denR_call awake20_ok ⟨rfl, _, rfl, ?_⟩
   simp only [zz, reduceCtorEq]
   exact hK
theorem law14m : Contract Tryz.prog 14 (LawSpec Tryz.prog 14) :=
 law14m_typed.weaken fun args K _ h => by
   obtain ⟨h1, h2, hK⟩ := lawArgs [.agg liKs] (by kernel_rfl) h
   match args, h1 with
   | [a], _ =>
     obtain ⟨l, hl, rfl⟩ := Lis.ofAgg (h2 0 _ _ rfl rfl)
     exact ⟨l, hl, rfl, hK⟩
end Go.Sx.La
