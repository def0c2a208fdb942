/-
 Part 9 of the proof: the executor over the kit's code with its soundness, or contracts of functions.
-/
import Derived.Test.YthlobibofbddeaaGreatDoorMAh
set_option linter.unusedSimpArgs false
set_option linter.unusedVariables false
set_option linter.unusedSectionVars false
set_option linter.defProp false
set_option maxRecDepth 100000
namespace Go.Sx.La
open Go Go.Sx Go.RowKit Go.Proofs
def givenM (p : Int) (es : List Ent) : List Mov := es.map fun e => ⟨e.pa, e.va, p⟩
noncomputable def t18 : R := let x0 : List K := [.int .i64, .int .i64, .slice [.str, .str, .slice [.int .i64, .int .i64, .int .i64, .int .i64, .int .i64], .slice [.int .i64, .int .i64, .int .i64, .int .i64, .int .i64, .int .i64], .bool, .bool, .int .i64, .str, .int .i64]]; let x1 : T := .o1 .not (.bool true); let x2 : T := .lcons (.var 1) (.lcons (.var 2) .lnil); let x3 : T := .lcons (.int .i64 2) (.lcons (.int .i64 1) .lnil); let x4 : T := .o1 .not (.o2 .ne (.o2 (.add .i64) (.o2 (.add .i64) (.o2 (.add .i64) (.var 4) (.var 6)) (.var 8)) (.var 10)) (.int .i64 0)); let x5 : List K := [.int .i64, .int .i64, .int .i64, .int .i64]; let x6 : T := .push (.push (.push .nils (.lcons (.int .i64 0) .lnil)) (.lcons (.int .i64 7) .lnil)) (.lcons (.int .i64 50) .lnil); let x7 : T := .push .nils (.lcons (.int .i64 80) .lnil); let x8 : T := .o1 .not (.bool false); let x9 : T := .lcons (.int .i64 9) .lnil; let x10 : T := .o2 .eq (.var 22) (.int .i64 0); let x11 : T := .o1 .not (.o1 .not (.var 12)); let x12 : T := .lcons (.int .i64 (-1)) .lnil; let x13 : T := .o1 .not (.o1 .not (.var 14)); .call none (.fn 68) [] [.agg x0] (.call none (.fn 19) [.lcons (.var 0) x2, .str [51]] [.cell (.slice x5), .cell (.int .i64)] (.call none (.fn 25) [.lcons (.var 0) x2, .str [51]] [.cell (.slice x5), .cell (.int .i64)] (.call none (.fn 27) [.lcons (.var 0) x2, .str [52]] [.cell (.slice x5), .cell (.int .i64)] (.call none (.fn 21) [.lcons (.var 0) x2, .str [52]] [.cell (.slice [.int .i64, .int .i64]), .cell (.int .i64)] (.call (some x4) (.fn 70) [.var 3] [.cell (.slice [.int .i64])] (.ite x4 (.call (some x8) (.fn 69) [.var 11, .push .nils (.lcons (.int .i64 7) .lnil)] [.cell .bool] (.call (some x11) (.fn 70) [.var 5] [.cell (.slice [.int .i64])] (.ite x11 (.call (some x8) (.fn 69) [.var 13, .push x6 x12] [.cell .bool] (.call (some x13) (.fn 70) [.var 7] [.cell (.slice [.int .i64])] (.ite x13 (.call (some x8) (.fn 69) [.var 15, .push x7 x9] [.cell .bool] (.ite (.o1 .not (.o1 .not (.var 16))) (.call (some x8) (.fn 24) [.var 9, .push .nils x3] [.cell .bool] (.ite (.o1 .not (.var 17)) (.ret [.d (.bool false)]) (.call none (.fn 71) [.lcons (.var 0) x2, .str [51]] [.agg x0] (.call none (.fn 19) [.lcons (.var 18) (.lcons (.var 19) (.lcons (.var 20) .lnil)), .str [50]] [.cell (.slice x5), .cell (.int .i64)] (.fact (.ite x10 (.o2 .le (.o1 .len (.var 21)) (.int .i64 140737488355328)) (.bool true)) (.ret [.d (.ite x10 (.o2 .eq (.o1 .len (.var 21)) (.int .i64 0)) (.bool false))])))))) (.call (some x1) (.fn 24) [.var 9, .nils] [.cell .bool] (.ret [.d (.bool false)])))) (.call (some x1) (.fn 69) [.var 15, .nils] [.cell .bool] (.ite x1 (.call none (.fn 24) [.var 9, .push .nils x3] [.cell .bool] (.ret [.d (.bool false)])) (.call (some (.bool false)) (.fn 24) [.var 9, .nils] [.cell .bool] (.ret [.d (.bool false)]))))))) (.call (some x1) (.fn 69) [.var 13, .nils] [.cell .bool] (.call (some x1) (.fn 70) [.var 7] [.cell (.slice [.int .i64])] (.ite x1 (.call none (.fn 69) [.var 15, .push x7 x9] [.cell .bool] (.call none (.fn 24) [.var 9, .push .nils x3] [.cell .bool] (.ret [.d (.bool false)]))) (.call (some (.bool false)) (.fn 69) [.var 15, .nils] [.cell .bool] (.call (some (.bool false)) (.fn 24) [.var 9, .nils] [.cell .bool] (.ret [.d (.bool false)]))))))))) (.call (some x1) (.fn 69) [.var 11, .nils] [.cell .bool] (.call (some x1) (.fn 70) [.var 5] [.cell (.slice [.int .i64])] (.ite x1 (.call none (.fn 69) [.var 13, .push x6 x12] [.cell .bool] (.call none (.fn 70) [.var 7] [.cell (.slice [.int .i64])] (.call none (.fn 69) [.var 15, .push x7 x9] [.cell .bool] (.call none (.fn 24) [.var 9, .push .nils x3] [.cell .bool] (.ret [.d (.bool false)]))))) (.call (some (.bool false)) (.fn 69) [.var 13, .nils] [.cell .bool] (.call (some (.bool false)) (.fn 70) [.var 7] [.cell (.slice [.int .i64])] (.call (some (.bool false)) (.fn 69) [.var 15, .nils] [.cell .bool] (.call (some (.bool false)) (.fn 24) [.var 9, .nils] [.cell .bool] (.ret [.d (.bool false)]))))))))))))))
theorem t18_ok : fnO Tryz.prog mdA 18 [] = t18 := by kernel_rfl
theorem c18 : callable Tryz.prog 18 = true := by kernel_rfl
noncomputable def t68 : R := let x1 : List K := [.int .i64, .int .i64, .int .i64, .int .i64, .int .i64]; let x0 : List K := [.str, .str, .slice x1, .slice [.int .i64, .int .i64, .int .i64, .int .i64, .int .i64, .int .i64], .bool, .bool, .int .i64, .str, .int .i64]; .call none (.fn 117) [.int .i64 1, .int .i64 0, .int .i64 80] [.agg x1] (.call none (.fn 117) [.int .i64 1, .int .i64 1, .int .i64 7] [.agg x1] (.call none (.fn 117) [.int .i64 2, .int .i64 1, .int .i64 9] [.agg x1] (.call none (.fn 116) [.str [52], .push (.push (.push .nils (.lcons (.var 0) (.lcons (.var 1) (.lcons (.var 2) (.lcons (.var 3) (.lcons (.var 4) .lnil)))))) (.lcons (.var 5) (.lcons (.var 6) (.lcons (.var 7) (.lcons (.var 8) (.lcons (.var 9) .lnil)))))) (.lcons (.var 10) (.lcons (.var 11) (.lcons (.var 12) (.lcons (.var 13) (.lcons (.var 14) .lnil)))))] [.agg x0] (.call none (.fn 117) [.int .i64 1, .int .i64 0, .int .i64 100] [.agg x1] (.call none (.fn 116) [.str [49], .push .nils (.lcons (.var 24) (.lcons (.var 25) (.lcons (.var 26) (.lcons (.var 27) (.lcons (.var 28) .lnil)))))] [.agg x0] (.call none (.fn 117) [.int .i64 1, .int .i64 0, .int .i64 0] [.agg x1] (.call none (.fn 117) [.int .i64 2, .int .i64 0, .int .i64 50] [.agg x1] (.call none (.fn 116) [.str [50], .push (.push .nils (.lcons (.var 38) (.lcons (.var 39) (.lcons (.var 40) (.lcons (.var 41) (.lcons (.var 42) .lnil)))))) (.lcons (.var 43) (.lcons (.var 44) (.lcons (.var 45) (.lcons (.var 46) (.lcons (.var 47) .lnil)))))] [.agg x0] (.call none (.fn 116) [.str [51], .nils] [.agg x0] (.ret [.d (.lcons (.int .i64 1) (.lcons (.int .i64 0) (.lcons (.push (.push (.push (.push .nils (.lcons (.var 29) (.lcons (.var 30) (.lcons (.var 31) (.lcons (.var 32) (.lcons (.var 33) (.lcons (.var 34) (.lcons (.var 35) (.lcons (.var 36) (.lcons (.var 37) .lnil)))))))))) (.lcons (.var 48) (.lcons (.var 49) (.lcons (.var 50) (.lcons (.var 51) (.lcons (.var 52) (.lcons (.var 53) (.lcons (.var 54) (.lcons (.var 55) (.lcons (.var 56) .lnil)))))))))) (.lcons (.var 57) (.lcons (.var 58) (.lcons (.var 59) (.lcons (.var 60) (.lcons (.var 61) (.lcons (.var 62) (.lcons (.var 63) (.lcons (.var 64) (.lcons (.var 65) .lnil)))))))))) (.lcons (.var 15) (.lcons (.var 16) (.lcons (.var 17) (.lcons (.var 18) (.lcons (.var 19) (.lcons (.bool true) (.lcons (.var 21) (.lcons (.var 22) (.lcons (.var 23) .lnil)))))))))) .lnil)))]))))))))))
theorem t68_ok : fnO Tryz.prog mdA 68 [] = t68 := by kernel_rfl
theorem c68 : callable Tryz.prog 68 = true := by kernel_rfl
noncomputable def t116 : R := let x0 : T := .lcons (.int .i64 0) .lnil; .ret [.d (.lcons (.var 0) (.lcons (.str []) (.lcons (.var 1) (.lcons (.rep (.int .i64 1) (.lcons (.int .i64 0) (.lcons (.int .i64 0) (.lcons (.int .i64 0) (.lcons (.int .i64 0) (.lcons (.int .i64 0) x0)))))) (.lcons (.bool false) (.lcons (.bool false) (.lcons (.int .i64 (-1)) (.lcons (.str []) x0))))))))]
theorem t116_ok : fnO Tryz.prog mdA 116 [.cell .str, .cell (.slice [.int .i64, .int .i64, .int .i64, .int .i64, .int .i64])] = t116 := by kernel_rfl
theorem c116 : callable Tryz.prog 116 = true := by kernel_rfl
noncomputable def t117 : R := .call none (.fn 149) [.var 2] [.agg [.int .i64, .int .i64]] (.ret [.d (.lcons (.var 0) (.lcons (.var 1) (.lcons (.var 3) (.lcons (.var 4) (.lcons (.int .i64 1) .lnil)))))])
theorem t117_ok : fnO Tryz.prog mdA 117 [.cell (.int .i64), .cell (.int .i64), .cell (.int .i64)] = t117 := by kernel_rfl
theorem c117 : callable Tryz.prog 117 = true := by kernel_rfl
noncomputable def t69 : R := let x0 : T := .o1 .len (.var 0); let x1 : T := .o1 .len (.var 1); .fact (.o2 .le x0 (.int .i64 140737488355328)) (.fact (.o2 .le x1 (.int .i64 140737488355328)) (.ite (.o2 .ne x0 x1) (.ret [.d (.bool false)]) (.loop 0 [.int .i64 0] [.int .i64] (.ite (.o2 .lt (.var 2) x0) (.need (.o2 .le (.int .i64 0) (.var 2)) (.need (.o2 .lt (.var 2) x1) (.ite (.o2 .ne (.idx (.var 0) (.var 2) 0 (.int .i64)) (.idx (.var 1) (.var 2) 0 (.int .i64))) (.ret [.d (.bool false)]) (.again 0 [.o2 (.add .i64) (.var 2) (.int .i64 1)])))) (.ret [.d (.bool true)])))))
theorem t69_ok : fnO Tryz.prog mdA 69 [.cell (.slice [.int .i64]), .cell (.slice [.int .i64])] = t69 := by kernel_rfl
theorem c69 : callable Tryz.prog 69 = true := by kernel_rfl
noncomputable def t70 : R := let x2 : T := .push .nils (.lcons (.int .i64 (-1)) .lnil); let x3 : T := .idx (.var 0) (.var 2) 3 (.int .i64); let x0 : T := .o2 .band (.o2 .eq (.idx (.var 0) (.var 2) 2 (.int .i64)) (.var 3)) (.o2 .band (.o2 .eq x3 (.var 4)) (.bool true)); let x1 : T := .push .nils (.lcons x3 .lnil); .fact (.o2 .le (.o1 .len (.var 0)) (.int .i64 140737488355328)) (.loop 0 [.nils, .int .i64 0] [.slice [.int .i64], .int .i64] (.ite (.o2 .lt (.var 2) (.o1 .len (.var 0))) (.need (.o2 .le (.int .i64 0) (.var 2)) (.call none (.fn 118) [] [.agg [.int .i64, .int .i64]] (.need (.ite x0 (.o2 .le (.o1 .len (.o2 .app (.var 1) x2)) (.int .i64 17592186044416)) (.bool true)) (.need (.ite (.o1 .not x0) (.o2 .le (.o1 .len (.o2 .app (.var 1) x1)) (.int .i64 17592186044416)) (.bool true)) (.lets [.ite x0 x2 x1, .ite x0 (.o2 .app (.var 1) x2) (.o2 .app (.var 1) x1)] (.again 0 [.var 6, .o2 (.add .i64) (.var 2) (.int .i64 1)])))))) (.ret [.own 1 (.var 1)])))
theorem t70_ok : fnO Tryz.prog mdA 70 [.cell (.slice [.int .i64, .int .i64, .int .i64, .int .i64])] = t70 := by kernel_rfl
theorem c70 : callable Tryz.prog 70 = true := by kernel_rfl
def dark4 : Cue := { cue169 [52] false [mv18 1 0 80, mv18 1 1 7, mv18 2 1 9] with mark := true }
def darkL : Lis := ⟨1, 0, [cue169 [49] false [mv18 1 0 100], cue169 [50] false [mv18 1 0 0, mv18 2 0 50], cue169 [51] false [], dark4]⟩
def dark3 : Lis := { darkL with cues := without darkL.cues [51] }
def e21 (v : Val) : Ent := ⟨⟨2, 1⟩, v⟩
theorem dk_e : earlyR darkL [51] = ([e11 ⟨0, 7⟩], 0) := by kernel_rfl
theorem dk_m : markedR darkL [51] = ([e10 ⟨0, 0⟩, e11 ⟨0, 7⟩, e20 ⟨0, 50⟩, e21 hval], 0) := by kernel_rfl
theorem dk_s : mstepsR darkL [52] = ([e10 ⟨0, 80⟩, e21 ⟨0, 9⟩], 0) := by kernel_rfl
theorem dk_l : lateR darkL [52] = ([⟨2, 1⟩], 0) := by kernel_rfl
theorem dk_3 : earlyR dark3 [50] = ([], 0) := by kernel_rfl
theorem sml {v : Int} (h : -1000 ≤ v ∧ v ≤ 1000) : I64 v := ⟨by omega, by omega⟩
theorem darkL_Ok : darkL.Ok := by
 have hc : ∀ (n : List UInt8) (b : Bool) (ms : List Mov), (∀ m ∈ ms, m.Ok) → (cue169 n b ms).Ok := fun n b ms h => ⟨h, by simp [cue169, zt, Tim.Ok, I64], by simp [cue169, I64], by simp [cue169, I64]⟩
 have m1 : ∀ {c a v : Int}, -1000 ≤ c ∧ c ≤ 1000 → -1000 ≤ a ∧ a ≤ 1000 → -1000 ≤ v ∧ v ≤ 1000 → (mv18 c a v).Ok := fun h1 h2 h3 => mv18_Ok (sml h1) (sml h2) (sml h3)
 refine ⟨by simp [darkL, I64], by simp [darkL, I64], fun c hcm => ?_⟩
 simp only [darkL, List.mem_cons, List.not_mem_nil, or_false] at hcm
 rcases hcm with rfl | rfl | rfl | rfl
 · exact hc _ _ _ fun m hm => by simp only [List.mem_cons, List.not_mem_nil, or_false] at hm; rcases hm with rfl; exact m1 (by omega) (by omega) (by omega)
 · exact hc _ _ _ fun m hm => by simp only [List.mem_cons, List.not_mem_nil, or_false] at hm; rcases hm with rfl | rfl <;> exact m1 (by omega) (by omega) (by omega)
 · exact hc _ _ _ fun m hm => by simp at hm
 · have h4 := hc [52] false [mv18 1 0 80, mv18 1 1 7, mv18 2 1 9] fun m hm => by simp only [List.mem_cons, List.not_mem_nil, or_false] at hm; rcases hm with rfl | rfl | rfl <;> exact m1 (by omega) (by omega) (by omega)
   exact ⟨h4.moves, h4.parts, h4.follow, h4.loops⟩
theorem dark3_Ok : dark3.Ok := ⟨darkL_Ok.num, darkL_Ok.prio, fun c hc => darkL_Ok.cues c (List.mem_filter.1 hc).1⟩
theorem mv117_ok : Contract Tryz.prog 117 fun args K => ∃ c a v : Int, I64 c ∧ I64 a ∧ I64 v ∧ args = [.int .i64 c, .int .i64 a, .int .i64 v] ∧ K [.d (.agg (mv18 c a v).enc)] := by
 refine .of c117 t117_ok ?_
 rintro _ K ⟨c, a, v, hc, ha, hv, rfl, hK⟩ hsm
 refine ⟨[.int .i64 c, .int .i64 a, .int .i64 v], rfl, ⟨i64_has hc, i64_has ha, i64_has hv, trivial⟩, ?_⟩
 refine denR_call at15_ok ⟨v, hv, rfl, _, rfl, ?_⟩
 simp only [zz, reduceCtorEq, Val.enc]
 exact hK
theorem cue116_ok : Contract Tryz.prog 116 fun args K => ∃ (n : List UInt8) (ms : List Mov), (∀ m ∈ ms, m.Ok) ∧ args = [.str n, .slice (ms.map Mov.enc)] ∧ K [.d (.agg (cue169 n false ms).enc)] := by
 refine .of c116 t116_ok ?_
 rintro _ K ⟨n, ms, hms, rfl, hK⟩ hsm
 refine ⟨[.str n, .slice (ms.map Mov.enc)], rfl, ⟨trivial, slice_has fun m hm => Mov.has (hms m hm), trivial⟩, ?_⟩
 exact hK
theorem darkL_ok : Contract Tryz.prog 68 fun args K => args = [] ∧ K [.d (.agg darkL.enc)] := by
 refine .of c68 t68_ok ?_
 rintro _ K ⟨rfl, hK⟩ hsm
 refine ⟨[], rfl, trivial, ?_⟩
 have m1 : ∀ {c a v : Int}, -1000 ≤ c ∧ c ≤ 1000 → -1000 ≤ a ∧ a ≤ 1000 → -1000 ≤ v ∧ v ≤ 1000 → (mv18 c a v).Ok := fun h1 h2 h3 => mv18_Ok (sml h1) (sml h2) (sml h3)
 refine denR_call mv117_ok ⟨1, 0, 80, sml (by omega), sml (by omega), sml (by omega), rfl, _, rfl, ?_⟩
 refine denR_call mv117_ok ⟨1, 1, 7, sml (by omega), sml (by omega), sml (by omega), rfl, _, rfl, ?_⟩
 refine denR_call mv117_ok ⟨2, 1, 9, sml (by omega), sml (by omega), sml (by omega), rfl, _, rfl, ?_⟩
 refine denR_call cue116_ok ⟨[52], [mv18 1 0 80, mv18 1 1 7, mv18 2 1 9], fun m hm => by simp only [List.mem_cons, List.not_mem_nil, or_false] at hm; rcases hm with rfl | rfl | rfl <;> exact m1 (by omega) (by omega) (by omega), rfl, _, rfl, ?_⟩
 refine denR_call mv117_ok ⟨1, 0, 100, sml (by omega), sml (by omega), sml (by omega), rfl, _, rfl, ?_⟩
 refine denR_call cue116_ok ⟨[49], [mv18 1 0 100], fun m hm => by simp only [List.mem_cons, List.not_mem_nil, or_false] at hm; rcases hm with rfl; exact m1 (by omega) (by omega) (by omega), rfl, _, rfl, ?_⟩
 refine denR_call mv117_ok ⟨1, 0, 0, sml (by omega), sml (by omega), sml (by omega), rfl, _, rfl, ?_⟩
 refine denR_call mv117_ok ⟨2, 0, 50, sml (by omega), sml (by omega), sml (by omega), rfl, _, rfl, ?_⟩
 refine denR_call cue116_ok ⟨[50], [mv18 1 0 0, mv18 2 0 50], fun m hm => by simp only [List.mem_cons, List.not_mem_nil, or_false] at hm; rcases hm with rfl | rfl <;> exact m1 (by omega) (by omega) (by omega), rfl, _, rfl, ?_⟩
 refine denR_call cue116_ok ⟨[51], [], by simp, rfl, _, rfl, ?_⟩
 exact hK
def levL (es : List Ent) : List Int := es.map fun e => if e.va = hval then -1 else e.va.lev
def encI (xs : List Int) : List (List D) := xs.map fun x => [.int .i64 x]
theorem levels_ok : Contract Tryz.prog 70 fun args K => ∃ (es : List Ent), (∀ e ∈ es, e.Ok) ∧ es.length ≤ 10000 ∧ args = [.slice (es.map Ent.enc)] ∧ K [.own 1 (encI (levL es))] := by
 refine .of c70 t70_ok ?_
 rintro _ K ⟨es, hes, hlen, rfl, hK⟩ hsm
 refine ⟨[.slice (es.map Ent.enc)], rfl, ⟨ents_has hes, trivial⟩, ?_⟩
 simp only [zz, reduceCtorEq, t70, List.length_map]
 intro hcap
 refine loop_goI es (fun _ es (acc : List Int) => acc ++ levL es) (fun i acc => [.slice (encI acc), .int .i64 i]) (fun i acc => acc.length = i) [] (levL es) rfl rfl 1 (fun _ _ => rfl) rfl ?_ ?_
 · intro i hi acc hI hgo
   have hv : (es[i].va = hval) ↔ (es[i].va.pal = -1 ∧ es[i].va.lev = 0) := val_eq _ _
   have hal : (encI acc).length = i := by simp [encI, hI]
   simp only [zz, reduceCtorEq, List.length_map, hi, getD_map hi, Ent.enc]
   refine ⟨by omega, ?_⟩
   refine denR_call home15_ok ⟨rfl, _, rfl, ?_⟩
   simp only [zz, reduceCtorEq, getD_map hi, Ent.enc, hval, Val.enc, List.length_append, hal]
   refine ⟨by simp <;> omega, by simp <;> omega, acc ++ [if es[i].va = hval then -1 else es[i].va.lev], ⟨?_, by rw [wr64_eq] <;> omega⟩, by simp [hI], by simp only [levL, List.append_assoc, List.singleton_append, List.map_cons, List.map_drop] at hgo ⊢; exact hgo⟩
   by_cases h : es[i].va = hval
   · rw [if_pos h]
     have := hv.1 h
     simp [this, encI]
   · rw [if_neg h]
     have : ¬ (es[i].va.pal = -1 ∧ es[i].va.lev = 0) := fun e => h (hv.2 e)
     simp [this, encI]
 · intro acc hI hgo
   simp only [zz, reduceCtorEq, List.length_map, Nat.lt_irrefl]
   simp only [levL, List.map_nil, List.append_nil] at hgo
   rw [hgo]; exact hK
theorem eqInts_ok : Contract Tryz.prog 69 fun args K => ∃ (xs : List Int), (∀ x ∈ xs, I64 x) ∧ args = [.slice (encI xs), .slice (encI xs)] ∧ K [.d (.bool true)] := by
 refine .of c69 t69_ok ?_
 rintro _ K ⟨xs, hxs, rfl, hK⟩ hsm
 have hh : HasK (.slice [.int .i64]) (.slice (encI xs)) := slice_has fun x hx => ⟨i64_has (hxs x hx), trivial⟩
 refine ⟨[.slice (encI xs), .slice (encI xs)], rfl, ⟨hh, hh, trivial⟩, ?_⟩
 have hl : (encI xs).length = xs.length := by simp [encI]
 simp only [zz, reduceCtorEq, t69, hl]
 intro hcap _
 refine loop_go xs (fun _ _ (_ : Unit) => ()) (fun i _ => [.int .i64 i]) () () rfl 0 (fun _ _ => rfl) rfl ?_ ?_
 · intro i hi _ _
   have hget : (encI xs).getD i [] = [.int .i64 xs[i]] := getD_map (enc := fun x => [D.int .i64 x]) hi
   simp only [zz, reduceCtorEq, hl, hi, hget]
   exact ⟨by omega, (), by rw [wr64_eq (by omega)]; rfl⟩
 · intro _ _
   simp only [zz, reduceCtorEq, hl, Nat.lt_irrefl]
   exact hK
theorem awake20_ok : Contract Tryz.prog 18 fun args K => args = [] ∧ K [.d (.bool true)] := by
 refine .of c18 t18_ok ?_
 rintro _ K ⟨rfl, hK⟩ hsm
 refine ⟨[], rfl, trivial, ?_⟩
 have s : ∀ {v : Val}, SmallV v → v.Ok := fun h => h.ok
 have p : ∀ {a b : Int}, -1000 ≤ a ∧ a ≤ 1000 → -1000 ≤ b ∧ b ≤ 1000 → Par.Ok ⟨a, b⟩ := fun h1 h2 => ⟨sml h1, sml h2⟩
 have e_Ok : ∀ {a b c d : Int}, -1000 ≤ a ∧ a ≤ 1000 → -1000 ≤ b ∧ b ≤ 1000 → -1000 ≤ c ∧ c ≤ 1000 → -1000 ≤ d ∧ d ≤ 1000 → Ent.Ok ⟨⟨a, b⟩, ⟨c, d⟩⟩ := fun h1 h2 h3 h4 => ⟨p h1 h2, sml h3, sml h4⟩
 have k1 : ∀ e ∈ [e11 ⟨0, 7⟩], e.Ok := fun e he => by
   simp only [List.mem_cons, List.not_mem_nil, or_false] at he
   subst he; exact e_Ok (by omega) (by omega) (by omega) (by omega)
 have k2 : ∀ e ∈ [e10 ⟨0, 0⟩, e11 ⟨0, 7⟩, e20 ⟨0, 50⟩, e21 hval], e.Ok := fun e he => by
   simp only [List.mem_cons, List.not_mem_nil, or_false] at he
   rcases he with rfl | rfl | rfl | rfl <;> exact e_Ok (by omega) (by omega) (by omega) (by omega)
 have k3 : ∀ e ∈ [e10 ⟨0, 80⟩, e21 ⟨0, 9⟩], e.Ok := fun e he => by
   simp only [List.mem_cons, List.not_mem_nil, or_false] at he
   rcases he with rfl | rfl <;> exact e_Ok (by omega) (by omega) (by omega) (by omega)
 refine denR_call darkL_ok ⟨rfl, _, rfl, ?_⟩
 refine denR_call earlyC_ok ⟨darkL, [51], darkL_Ok, rfl, ?_⟩
 rw [dk_e]
 intro rvs hr
 refine ⟨[.slice ([e11 ⟨0, 7⟩].map Ent.enc), .int .i64 0], by rcases hr with rfl | rfl <;> rfl, ?_⟩
 refine denR_call markedC_ok ⟨darkL, [51], darkL_Ok, rfl, ?_⟩
 rw [dk_m]
 refine ⟨_, rfl, ?_⟩
 refine denR_call mstepsC_ok ⟨darkL, [52], darkL_Ok, rfl, ?_⟩
 rw [dk_s]
 intro rvs hr
 refine ⟨[.slice ([e10 ⟨0, 80⟩, e21 ⟨0, 9⟩].map Ent.enc), .int .i64 0], by rcases hr with rfl | rfl <;> rfl, ?_⟩
 refine denR_call lateC_ok ⟨darkL, [52], darkL_Ok, rfl, ?_⟩
 rw [dk_l]
 intro rvs hr
 refine ⟨[.slice ([(⟨2, 1⟩ : Par)].map Par.enc), .int .i64 0], by rcases hr with rfl | rfl <;> rfl, ?_⟩
 refine denR_gcall levels_ok true [.slice (encI [7])] (by kernel_rfl) (fun _ => ⟨[e11 ⟨0, 7⟩], k1, by simp, rfl, rfl⟩) (fun h => by cases h) ?_
 refine denR_iteT (by kernel_rfl) ?_
 refine denR_gcall eqInts_ok true [.bool true] (by kernel_rfl) (fun _ => ⟨[7], fun x hx => by simp at hx; subst hx; exact sml (by omega), rfl, rfl⟩) (fun h => by cases h) ?_
 refine denR_gcall levels_ok true [.slice (encI [0, 7, 50, -1])] (by kernel_rfl) (fun _ => ⟨[e10 ⟨0, 0⟩, e11 ⟨0, 7⟩, e20 ⟨0, 50⟩, e21 hval], k2, by simp, rfl, rfl⟩) (fun h => by cases h) ?_
 refine denR_iteT (by kernel_rfl) ?_
 refine denR_gcall eqInts_ok true [.bool true] (by kernel_rfl) (fun _ => ⟨[0, 7, 50, -1], fun x hx => by simp at hx; rcases hx with rfl | rfl | rfl | rfl <;> exact sml (by omega), rfl, rfl⟩) (fun h => by cases h) ?_
 refine denR_gcall levels_ok true [.slice (encI [80, 9])] (by kernel_rfl) (fun _ => ⟨[e10 ⟨0, 80⟩, e21 ⟨0, 9⟩], k3, by simp, rfl, rfl⟩) (fun h => by cases h) ?_
 refine denR_iteT (by kernel_rfl) ?_
 refine denR_gcall eqInts_ok true [.bool true] (by kernel_rfl) (fun _ => ⟨[80, 9], fun x hx => by simp at hx; rcases hx with rfl | rfl <;> exact sml (by omega), rfl, rfl⟩) (fun h => by cases h) ?_
 refine denR_iteT (by kernel_rfl) ?_
 refine denR_gcall samePars_ok true [.bool true] (by kernel_rfl) (fun _ => ⟨[⟨2, 1⟩], fun x hx => by simp at hx; subst hx; exact p (by omega) (by omega), rfl, rfl⟩) (fun h => by cases h) ?_
 refine denR_iteF (by kernel_rfl) ?_
 refine denR_call without17_ok ⟨darkL, [51], darkL_Ok, by simp [darkL], rfl, _, rfl, ?_⟩
 refine denR_call earlyC_ok ⟨dark3, [50], dark3_Ok, rfl, ?_⟩
 rw [dk_3]
 intro rvs hr
 refine ⟨[.slice [], .int .i64 0], by rcases hr with rfl | rfl <;> rfl, ?_⟩
 intro _
 exact hK
noncomputable def t12 : R := .call none (.fn 54) [.var 0] [.cell .bool] (.ite (.o1 .not (.var 2)) (.call none (.fn 18) [] [.cell .bool] (.ret [.d (.var 3)])) (.call none (.fn 55) [.var 0, .var 1] [.cell .bool, .cell (.int .i64)] (.call none (.fn 56) [.var 0, .var 1] [.cell .bool, .cell (.int .i64)] (.call (some (.ite (.o2 .eq (.var 3) (.var 5)) (.o2 .eq (.var 4) (.var 6)) (.bool false))) (.fn 18) [] [.cell .bool] (.ret [.d (.ite (.ite (.o2 .eq (.var 3) (.var 5)) (.o2 .eq (.var 4) (.var 6)) (.bool false)) (.var 7) (.bool false))])))))
theorem t12_ok : fnO Tryz.prog mdA 12 [.cell (.slice [.int .i64, .int .i64, .int .i64, .int .i64]), .cell (.int .i64)] = t12 := by kernel_rfl
theorem c12 : callable Tryz.prog 12 = true := by kernel_rfl
theorem Ent.of {ds : List D} (h : HasKs enKs ds) : ∃ m : Ent, m.Ok ∧ ds = m.enc := by
 match ds, h with
 | [a, b, c, d], h =>
   simp only [enKs, HasKs, and_true] at h
   obtain ⟨a, rfl, ha⟩ := i64_of h.1
   obtain ⟨b, rfl, hb⟩ := i64_of h.2.1
   obtain ⟨c, rfl, hc⟩ := i64_of h.2.2.1
   obtain ⟨d, rfl, hd⟩ := i64_of h.2.2.2
   exact ⟨⟨⟨a, b⟩, ⟨c, d⟩⟩, ⟨⟨ha, hb⟩, hc, hd⟩, rfl⟩
theorem law12d_typed : Contract Tryz.prog 12 fun args K => ∃ (l : List Ent) (c : Int), (∀ e ∈ l, e.Ok) ∧ I64 c ∧ args = [.slice (l.map Ent.enc), .int .i64 c] ∧ K [.d (.bool true)] := by
 refine .of c12 t12_ok ?_
 rintro _ K ⟨l, c, hl, hc, rfl, hK⟩ hsm
 refine ⟨[.slice (l.map Ent.enc), .int .i64 c], rfl, ⟨ents_has hl, i64_has hc, trivial⟩, ?_⟩
 refine denR_call fewE_ok ⟨l, hl, by simp only [zz, reduceCtorEq], fun b => ⟨[.bool b], rfl, ?_⟩⟩
 simp only [zz, reduceCtorEq]
 refine ⟨fun _ => ?_, fun _ => ?_⟩
 · refine denR_call awake20_ok ⟨rfl, _, rfl, ?_⟩
   simp only [zz, reduceCtorEq]
   exact hK
 · refine denR_call darkC_ok ⟨l, c, hl, hc, by simp only [zz, reduceCtorEq], _, rfl, ?_⟩
   refine denR_call darkS_ok ⟨l, c, hl, hc, by simp only [zz, reduceCtorEq], _, rfl, ?_⟩
   refine denR_gcall awake20_ok true [.bool true] (by simp only [zz, reduceCtorEq] <;> simp) (fun _ => ⟨rfl, rfl⟩) (fun h => by cases h) ?_
   simp only [zz, reduceCtorEq]
   simpa using hK
theorem law12d : Contract Tryz.prog 12 (LawSpec Tryz.prog 12) :=
 law12d_typed.weaken fun args K _ h => by
   obtain ⟨h1, h2, hK⟩ := lawArgs [.cell (.slice enKs), .cell (.int .i64)] (by kernel_rfl) h
   match args, h1 with
   | [a, b], _ =>
     obtain ⟨l, hl, rfl⟩ := slice_of (enc := Ent.enc) (Ok := Ent.Ok) (fun ds => Ent.of) (h2 0 _ _ rfl rfl)
     obtain ⟨c, rfl, hc⟩ := i64_of (h2 1 _ _ rfl rfl)
     exact ⟨l, c, hl, hc, rfl, hK⟩
end Go.Sx.La
