/-
 Part 9 of the proof: the executor over the kit's code with its soundness, or contracts of functions.
-/
import Derived.Test.YthlobibofbddeaaGreatDoorNDh
set_option linter.unusedSimpArgs false
set_option linter.unusedVariables false
set_option linter.unusedSectionVars false
set_option linter.defProp false
set_option maxRecDepth 100000
namespace Go.Sx.La
open Go Go.Sx Go.RowKit Go.Proofs
noncomputable def t47 : R := let x0 : T := .lcons (.var 1) (.lcons (.var 2) .lnil); let x2 : T := .o2 .le (.int .i64 0) (.var 8); let x3 : T := .idx (.var 2) (.var 8) 0 .str; let x1 : T := .o2 .app (.var 7) (.push .nils (.lcons x3 .lnil)); .call none (.fn 74) [.lcons (.var 0) x0, .var 3] [.cell (.int .i64)] (.ite (.o2 .ne (.var 4) (.int .i64 0)) (.ret [.d .nils, .d (.var 4)]) (.call none (.fn 90) [.lcons (.var 0) x0] [.cell (.int .i64)] (.call none (.fn 94) [.lcons (.var 0) x0, .var 3, .var 5] [.cell (.slice [.str])] (.loop 0 [.nils, .int .i64 0] [.slice [.str], .int .i64] (.fact (.o2 .le (.o1 .len (.var 2)) (.int .i64 140737488355328)) (.ite (.o2 .lt (.var 8) (.o1 .len (.var 2))) (.loop 1 [.bool false, .int .i64 0] [.bool, .int .i64] (.fact (.o2 .le (.o1 .len (.var 6)) (.int .i64 140737488355328)) (.ite (.o2 .lt (.var 10) (.o1 .len (.var 6))) (.need (.ite (.o1 .not (.var 9)) (.o2 .le (.int .i64 0) (.var 10)) (.bool true)) (.need (.ite (.o1 .not (.var 9)) x2 (.bool true)) (.again 1 [.ite (.var 9) (.bool true) (.o2 .eq (.idx (.var 6) (.var 10) 0 .str) x3), .o2 (.add .i64) (.var 10) (.int .i64 1)]))) (.need (.ite (.var 9) x2 (.bool true)) (.need (.ite (.var 9) (.o2 .le (.o1 .len x1) (.int .i64 8796093022208)) (.bool true)) (.lets [.ite (.var 9) x1 (.var 7)] (.again 0 [.var 11, .o2 (.add .i64) (.var 8) (.int .i64 1)]))))))) (.ret [.own 1 (.var 7), .d (.int .i64 0)])))))))
theorem t47_ok : fnO Tryz.prog mdA 47 [.agg [.int .i64, .int .i64, .slice [.str, .str, .slice [.int .i64, .int .i64, .int .i64, .int .i64, .int .i64], .slice [.int .i64, .int .i64, .int .i64, .int .i64, .int .i64, .int .i64], .bool, .bool, .int .i64, .str, .int .i64]], .cell .str] = t47 := by kernel_rfl
theorem c47 : callable Tryz.prog 47 = true := by kernel_rfl
noncomputable def t39 : R := let x0 : T := .lcons (.var 1) (.lcons (.var 2) .lnil); let x1 : T := .o2 .ne (.var 4) (.int .i64 0); .call none (.fn 17) [.lcons (.var 0) x0] [.cell .bool] (.ite (.o1 .not (.var 3)) (.ret [.d (.bool false)]) (.call none (.fn 67) [.lcons (.var 0) x0] [.cell (.int .i64)] (.call (some (.o1 .not x1)) (.fn 90) [.lcons (.var 0) x0] [.cell (.int .i64)] (.ret [.d (.ite x1 (.bool true) (.o2 .le (.var 5) (.int .i64 400)))]))))
theorem t39_ok : fnO Tryz.prog mdA 39 [.agg [.int .i64, .int .i64, .slice [.str, .str, .slice [.int .i64, .int .i64, .int .i64, .int .i64, .int .i64], .slice [.int .i64, .int .i64, .int .i64, .int .i64, .int .i64, .int .i64], .bool, .bool, .int .i64, .str, .int .i64]]] = t39 := by kernel_rfl
theorem c39 : callable Tryz.prog 39 = true := by kernel_rfl
theorem refPath_ok : Contract Tryz.prog 42 fun args K => ∃ (l : Lis) (s : List UInt8) (n : Int), l.Ok ∧ I64 n ∧ args = [.agg l.enc, .str s, .int .i64 n] ∧ K [.d (.slice (txts (pathR l s n).1)), .d (.int .i64 (pathR l s n).2)] := by
 refine .of c42 t42_ok ?_
 rintro _ K ⟨l, s, n, hl, hn, rfl, hK⟩ hsm
 refine ⟨l.enc ++ [.str s, .int .i64 n], rfl, by exact has_li hl ⟨trivial, i64_has hn, trivial⟩, ?_⟩
 refine denR_call cue18_ok ⟨l, s, hl, by simp only [zz, reduceCtorEq, Lis.enc], _, rfl, ?_⟩
 unfold pathR at hK
 by_cases h : cue18 l s = 0
 · obtain ⟨a, hS⟩ := cue18_start hl h
   have hcl := hS.right.len
   rw [if_neg (by simp [h])] at hK
   rw [h]
   simp only [zz, reduceCtorEq, Lis.enc]
   refine ⟨fun hb => ?_, fun hb => ?_⟩
   · rw [if_pos (by omega)] at hK; exact hK
   rw [if_neg (by omega), hS.st] at hK
   obtain ⟨m, rfl⟩ : ∃ m : Nat, n = m := ⟨n.toNat, by omega⟩
   rw [Int.toNat_natCast] at hK
   have hsn : numA l.cues a = s := by rw [numA_at hS.lt, hS.at_]
   refine denR_call walked_ok ⟨l, a, m, hl, hS.right, hS.lt, by omega, by simp only [zz, reduceCtorEq, Lis.enc, hsn], _, rfl, ?_⟩
   simp only [zz, reduceCtorEq, Lis.enc]
   exact hK
 · rw [if_pos h] at hK
   simp only [zz, reduceCtorEq, Lis.enc]
   exact ⟨fun _ => hK, fun h' => absurd h' h⟩
theorem refEndless_ok : Contract Tryz.prog 45 fun args K => ∃ (l : Lis) (s : List UInt8), l.Ok ∧ args = [.agg l.enc, .str s] ∧ K [.d (.bool (endR l s).1), .d (.int .i64 (endR l s).2)] := by
 refine .of c45 t45_ok ?_
 rintro _ K ⟨l, s, hl, rfl, hK⟩ hsm
 refine ⟨l.enc ++ [.str s], rfl, by exact has_s hl, ?_⟩
 refine denR_call cue18_ok ⟨l, s, hl, by simp only [zz, reduceCtorEq, Lis.enc], _, rfl, ?_⟩
 unfold endR at hK
 by_cases h : cue18 l s = 0
 · obtain ⟨a, hS⟩ := cue18_start hl h
   have hM := most_le hS.right
   rw [if_neg (by simp [h]), hS.st] at hK
   rw [h]
   simp only [zz, reduceCtorEq, Lis.enc]
   have hsn : numA l.cues a = s := by rw [numA_at hS.lt, hS.at_]
   refine denR_call most_ok ⟨l, hl, hS.right, by simp only [zz, reduceCtorEq, Lis.enc], _, rfl, ?_⟩
   refine denR_call walked_ok ⟨l, a, most l.cues, hl, hS.right, hS.lt, hM, by simp only [zz, reduceCtorEq, Lis.enc, hsn], _, rfl, ?_⟩
   simp only [zz, reduceCtorEq, Lis.enc, txts_len, pathL_len]
   intro _
   refine denR_call most_ok ⟨l, hl, hS.right, by simp only [zz, reduceCtorEq, Lis.enc], _, rfl, ?_⟩
   have e : decide (((walk l.cues (most l.cues) ⟨a, [], 0⟩).length : Int) = ((most l.cues : Nat) : Int)) = decide ((walk l.cues (most l.cues) ⟨a, [], 0⟩).length = most l.cues) := decide_eq_decide.2 ⟨fun h => by omega, fun h => by omega⟩
   rw [← e] at hK
   simp only [zz, reduceCtorEq, Lis.enc, txts_len, pathL_len]
   exact hK
 · rw [if_pos h] at hK
   simp only [zz, reduceCtorEq, Lis.enc]
   exact ⟨fun _ => hK, fun h' => absurd h' h⟩
theorem refReached_ok : Contract Tryz.prog 47 fun args K => ∃ (l : Lis) (s : List UInt8), l.Ok ∧ args = [.agg l.enc, .str s] ∧ ∀ rvs, TxtR (reachR l s) rvs → K rvs := by
 refine .of c47 t47_ok ?_
 rintro _ K ⟨l, s, hl, rfl, hK⟩ hsm
 refine ⟨l.enc ++ [.str s], rfl, by exact has_s hl, ?_⟩
 refine denR_call cue18_ok ⟨l, s, hl, by simp only [zz, reduceCtorEq, Lis.enc], _, rfl, ?_⟩
 unfold reachR at hK
 by_cases h : cue18 l s = 0
 · obtain ⟨a, hS⟩ := cue18_start hl h
   have hM := most_le hS.right
   have hcl := hS.right.len
   rw [if_neg (by simp [h]), hS.st] at hK
   rw [h]
   simp only [zz, reduceCtorEq, Lis.enc]
   have hsn : numA l.cues a = s := by rw [numA_at hS.lt, hS.at_]
   refine denR_call most_ok ⟨l, hl, hS.right, by simp only [zz, reduceCtorEq, Lis.enc], _, rfl, ?_⟩
   refine denR_call walked_ok ⟨l, a, most l.cues, hl, hS.right, hS.lt, hM, by simp only [zz, reduceCtorEq, Lis.enc, hsn], _, rfl, ?_⟩
   have hPl : (pathL l.cues (most l.cues) ⟨a, [], 0⟩).length ≤ 1000000 := by rw [pathL_len]; exact Nat.le_trans (walk_len _ _ _) hM
   have hK' : ∀ rvs, TxtR ((l.cues.filter fun c => (pathL l.cues (most l.cues) ⟨a, [], 0⟩).any fun s => s == c.num).map (·.num), 0) rvs → K rvs := hK
   clear hK
   generalize pathL l.cues (most l.cues) ⟨a, [], 0⟩ = P at *
   simp only [zz, reduceCtorEq, Lis.enc]
   refine loop_goI l.cues (fun _ l' (acc : List (List UInt8)) => acc ++ (l'.filter fun c => P.any fun s => s == c.num).map (·.num)) (fun i acc => [.slice (txts acc), .int .i64 i]) (fun i acc => acc.length ≤ i) [] ((l.cues.filter fun c => P.any fun s => s == c.num).map (·.num)) rfl (by simp) 1 (fun _ _ => rfl) rfl ?_ ?_
   · intro i hi acc hI hgo
     simp only [zz, reduceCtorEq, Lis.enc, hi, List.length_map]
     intro hcap
     refine loop_goI P (fun _ l' (on : Bool) => on || l'.any fun s => s == (l.cues[i]).num) (fun k on => [.bool on, .int .i64 k]) (fun _ _ => True) false (P.any fun s => s == (l.cues[i]).num) (by simp) trivial 1 (fun _ _ => rfl) rfl ?_ ?_
     · intro k hk on _ hgo2
       have hget : (txts P).getD k [] = [.str P[k]] := getD_map (enc := fun s => [D.str s]) hk
       simp only [zz, reduceCtorEq, Lis.enc, txts_len, hk, hi, List.length_map, hget, getD_map hi, Cue.enc]
       intro _
       refine ⟨by split <;> simp, by split <;> simp, on || (P[k] == (l.cues[i]).num), ?_, ?_⟩
       · have hw : wr64 ((k : Int) + 1) = ((k + 1 : Nat) : Int) := by rw [wr64_eq] <;> omega
         rw [hw]
         cases on <;> simp
       · rw [← hgo2]; simp only [List.any_cons, Bool.or_assoc]
     · intro on _ hgo2
       simp only [List.any_nil, Bool.or_false] at hgo2
       subst hgo2
       have hse := setAg_ne
       cases hon : (P.any fun s => s == (l.cues[i]).num) with
       | true =>
         simp only [zz, reduceCtorEq, Lis.enc, txts_len, hi, List.length_map, getD_map hi, Cue.enc, List.length_append, List.length_cons, List.length_nil]
         refine fun _ => ⟨by simp, by simp; omega, rfl, acc ++ [(l.cues[i]).num], ?_, by simp; omega, ?_⟩
         · simp [txts]; rw [wr64_eq] <;> omega
         · rw [← hgo, List.filter_cons, if_pos hon]; simp
       | false =>
         simp only [zz, reduceCtorEq, Lis.enc, txts_len, hi, List.length_map, getD_map hi, Cue.enc, List.length_append, List.length_cons, List.length_nil]
         refine fun _ => ⟨rfl, acc, ?_, by omega, ?_⟩
         · simp; rw [wr64_eq] <;> omega
         · rw [← hgo, List.filter_cons, if_neg (by simp [hon])]
   · intro acc hI hgo
     simp only [List.filter_nil, List.map_nil, List.append_nil] at hgo
     simp only [zz, reduceCtorEq, Lis.enc, List.length_map]
     intro _
     rw [hgo]
     exact hK' _ (.inr rfl)
 · rw [if_pos h] at hK
   simp only [zz, reduceCtorEq, Lis.enc]
   exact ⟨fun _ => hK _ (.inl rfl), fun h' => absurd h' h⟩
theorem refNext_ok : Contract Tryz.prog 64 fun args K => ∃ (l : Lis) (s : List UInt8) (k : List Cnt), l.Ok ∧ (∀ c ∈ k, c.Ok) ∧ args = [.agg l.enc, .str s, .slice (k.map Cnt.enc)] ∧
   K [.d (.str (nextF l s k).1), .d (.slice ((nextF l s k).2.1.map Cnt.enc)), .d (.bool (nextF l s k).2.2.1), .d (.int .i64 (nextF l s k).2.2.2)] := by
 refine .of c64 t64_ok ?_
 rintro _ K ⟨l, s, k, hl, hk, rfl, hK⟩ hsm
 refine ⟨l.enc ++ [.str s, .slice (k.map Cnt.enc)], rfl, by exact has_li hl ⟨trivial, cnts_has hk, trivial⟩, ?_⟩
 refine denR_call cue18_ok ⟨l, s, hl, by simp only [zz, reduceCtorEq, Lis.enc], _, rfl, ?_⟩
 unfold nextF at hK
 by_cases h : cue18 l s = 0
 · obtain ⟨a, hS⟩ := cue18_start hl h
   have ha := hS.lt
   rw [if_neg (by simp [h])] at hK
   rw [h]
   simp only [zz, reduceCtorEq, Lis.enc]
   refine denR_call nref_ok ⟨k, hk, by simp only [zz, reduceCtorEq, Lis.enc], _, rfl, ?_⟩
   simp only [zz, reduceCtorEq, Lis.enc]
   refine ⟨fun h2 => ?_, fun h2 => ?_⟩
   · rw [if_pos h2] at hK; exact hK
   rw [if_neg (by simpa using h2)] at hK
   have hC := rightC_of (k := k) (by simpa using h2)
   rw [hS.pl, Int.toNat_natCast] at hK
   refine denR_call place17_ok ⟨l, s, hl, by simp only [zz, reduceCtorEq, Lis.enc], _, rfl, ?_⟩
   refine denR_call following_ok ⟨l, a, k, hl, hS.right, ha, hk, hC.rising, by have := hC.len; omega, by simp only [zz, reduceCtorEq, Lis.enc, hS.pl], fun r hr => ?_⟩
   subst hr
   refine ⟨_, rfl, ?_⟩
   unfold folR
   cases hs : stepW l.cues ⟨a, k, 0⟩ with
   | none => rw [hs] at hK; simp only [zz, reduceCtorEq, Lis.enc]; exact hK
   | some v => rw [hs] at hK; simp only [zz, reduceCtorEq, Lis.enc]; exact hK
 · rw [if_pos h] at hK
   simp only [zz, reduceCtorEq, Lis.enc]
   exact ⟨fun _ => hK, fun h' => absurd h' h⟩
theorem sameN_ok : Contract Tryz.prog 65 fun args K => ∃ (k : List Cnt), (∀ c ∈ k, c.Ok) ∧ args = [.slice (k.map Cnt.enc), .slice (k.map Cnt.enc)] ∧ K [.d (.bool true)] := by
 refine .of c65 t65_ok ?_
 rintro _ K ⟨k, hk, rfl, hK⟩ hsm
 refine ⟨[.slice (k.map Cnt.enc), .slice (k.map Cnt.enc)], rfl, ⟨cnts_has hk, cnts_has hk, trivial⟩, ?_⟩
 simp only [zz, reduceCtorEq, t65, List.length_map]
 intro hcap _
 refine loop_go k (fun _ _ (_ : Unit) => ()) (fun i _ => [.int .i64 i]) () () rfl 0 (fun _ _ => rfl) rfl ?_ ?_
 · intro i hi _ _
   simp only [zz, reduceCtorEq, List.length_map, hi, getD_map hi, Cnt.enc]
   refine ⟨by omega, fun h => ?_, fun _ => ⟨(), by rw [wr64_eq (by omega)]; rfl⟩⟩
   simp at h
 · intro _ _
   simp only [zz, reduceCtorEq, List.length_map]
   exact hK
theorem few22_ok : Contract Tryz.prog 39 fun args K => ∃ (l : Lis), l.Ok ∧ args = [.agg l.enc] ∧ ∀ b : Bool, K [.d (.bool b)] := by
 refine .of c39 t39_ok ?_
 rintro _ K ⟨l, hl, rfl, hK⟩ hsm
 refine ⟨l.enc, rfl, Lis.has hl, ?_⟩
 refine denR_call few18_ok ⟨l, hl, by simp only [zz, reduceCtorEq, Lis.enc], fun b => ⟨_, rfl, ?_⟩⟩
 cases b with
 | false => refine denR_iteT (by simp only [zz, reduceCtorEq, Lis.enc]) ?_; exact hK _
 | true =>
   refine denR_iteF (by simp only [zz, reduceCtorEq, Lis.enc]) ?_
   refine denR_call check17_ok ⟨l, hl, by simp only [zz, reduceCtorEq, Lis.enc], _, rfl, ?_⟩
   by_cases h : checkL order05 l = 0
   · refine denR_gcall most_ok true [.int .i64 (most l.cues : Nat)] (by simp only [zz, reduceCtorEq, Lis.enc, h]) (fun _ => ⟨l, hl, rightW_of h, by simp only [zz, reduceCtorEq, Lis.enc], rfl⟩) (fun e => by cases e) ?_
     simp only [zz, reduceCtorEq, Lis.enc, h]
     exact hK _
   · refine denR_gcall most_ok false [.int .i64 0] (by simp only [zz, reduceCtorEq, Lis.enc]; simpa using h) (fun e => by cases e) (fun _ => rfl) ?_
     simp only [zz, reduceCtorEq, Lis.enc]
     exact hK _
noncomputable def t133 : R := let x0 : T := .lcons (.int .i64 0) .lnil; .ret [.d (.lcons (.var 0) (.lcons (.str []) (.lcons .nils (.lcons (.rep (.int .i64 1) (.lcons (.int .i64 0) (.lcons (.int .i64 0) (.lcons (.int .i64 0) (.lcons (.int .i64 0) (.lcons (.int .i64 0) x0)))))) (.lcons (.bool false) (.lcons (.bool false) (.lcons (.int .i64 (-1)) (.lcons (.str []) x0))))))))]
theorem t133_ok : fnO Tryz.prog mdA 133 [.cell .str] = t133 := by kernel_rfl
theorem c133 : callable Tryz.prog 133 = true := by kernel_rfl
noncomputable def t91 : R := let x0 : T := .push (.push (.push (.push .nils (.lcons (.var 2) (.lcons (.var 3) (.lcons (.var 4) (.lcons (.var 5) (.lcons (.var 6) (.lcons (.var 7) (.lcons (.var 8) (.lcons (.var 9) (.lcons (.var 10) .lnil)))))))))) (.lcons (.var 11) (.lcons (.var 12) (.lcons (.var 13) (.lcons (.var 14) (.lcons (.var 15) (.lcons (.var 16) (.lcons (.var 17) (.lcons (.var 18) (.lcons (.var 19) .lnil)))))))))) (.lcons (.var 20) (.lcons (.var 21) (.lcons (.var 22) (.lcons (.var 23) (.lcons (.var 24) (.lcons (.var 25) (.lcons (.var 26) (.lcons (.var 27) (.lcons (.var 28) .lnil)))))))))) (.lcons (.var 29) (.lcons (.var 30) (.lcons (.var 31) (.lcons (.var 32) (.lcons (.var 33) (.lcons (.var 34) (.lcons (.var 35) (.lcons (.var 36) (.lcons (.var 37) .lnil))))))))); let x1 : List K := [.str, .str, .slice [.int .i64, .int .i64, .int .i64, .int .i64, .int .i64], .slice [.int .i64, .int .i64, .int .i64, .int .i64, .int .i64, .int .i64], .bool, .bool, .int .i64, .str, .int .i64]; let x2 : T := .upd x0 (.int .i64 2) 7 (.lcons (.var 0) .lnil); .call none (.fn 133) [.str [49]] [.agg x1] (.call none (.fn 133) [.str [50]] [.agg x1] (.call none (.fn 133) [.str [51]] [.agg x1] (.call none (.fn 133) [.str [52]] [.agg x1] (.need (.o2 .lt (.int .i64 2) (.o1 .len x0)) (.need (.o2 .lt (.int .i64 2) (.o1 .len x2)) (.ret [.d (.lcons (.int .i64 1) (.lcons (.int .i64 0) (.lcons (.upd x2 (.int .i64 2) 8 (.lcons (.var 1) .lnil)) .lnil)))]))))))
theorem t91_ok : fnO Tryz.prog mdA 91 [.cell .str, .cell (.int .i64)] = t91 := by kernel_rfl
theorem c91 : callable Tryz.prog 91 = true := by kernel_rfl
noncomputable def t40 : R := let x0 : List K := [.int .i64, .int .i64, .slice [.str, .str, .slice [.int .i64, .int .i64, .int .i64, .int .i64, .int .i64], .slice [.int .i64, .int .i64, .int .i64, .int .i64, .int .i64, .int .i64], .bool, .bool, .int .i64, .str, .int .i64]]; let x2 : T := .lcons (.str [51]) .lnil; let x3 : T := .lcons (.str [52]) .lnil; let x4 : T := .o1 .not (.bool true); let x5 : T := .lcons (.str [50]) .lnil; let x6 : T := .o1 .not (.bool false); let x1 : T := .push (.push .nils (.lcons (.str [49]) .lnil)) x5; .call none (.fn 91) [.str [50], .int .i64 2] [.agg x0] (.call none (.fn 41) [.lcons (.var 0) (.lcons (.var 1) (.lcons (.var 2) .lnil)), .str [49], .int .i64 100] [.cell (.slice [.str]), .cell (.int .i64)] (.call none (.fn 91) [.str [50], .int .i64 0] [.agg x0] (.call none (.fn 44) [.lcons (.var 5) (.lcons (.var 6) (.lcons (.var 7) .lnil)), .str [49]] [.cell .bool, .cell (.int .i64)] (.call none (.fn 91) [.str [50], .int .i64 0] [.agg x0] (.call none (.fn 46) [.lcons (.var 10) (.lcons (.var 11) (.lcons (.var 12) .lnil)), .str [49]] [.cell (.slice [.str]), .cell (.int .i64)] (.call none (.fn 91) [.str [50], .int .i64 0] [.agg x0] (.call none (.fn 41) [.lcons (.var 15) (.lcons (.var 16) (.lcons (.var 17) .lnil)), .str [52], .int .i64 9] [.cell (.slice [.str]), .cell (.int .i64)] (.ite (.o1 .not (.ite (.o2 .ne (.o2 (.add .i64) (.o2 (.add .i64) (.o2 (.add .i64) (.var 4) (.var 9)) (.var 14)) (.var 19)) (.int .i64 0)) (.bool true) (.o1 .not (.var 8)))) (.call (some x6) (.fn 43) [.var 3, .push (.push (.push (.push (.push (.push x1 x2) x5) x2) x5) x2) x3] [.cell .bool] (.ite (.o1 .not (.o1 .not (.var 20))) (.call (some x6) (.fn 43) [.var 13, .push x1 x2] [.cell .bool] (.ite (.o1 .not (.o1 .not (.var 21))) (.call (some x6) (.fn 43) [.var 18, .push .nils x3] [.cell .bool] (.ite (.o1 .not (.var 22)) (.ret [.d (.bool false)]) (.call none (.fn 91) [.str [57], .int .i64 0] [.agg x0] (.call none (.fn 41) [.lcons (.var 23) (.lcons (.var 24) (.lcons (.var 25) .lnil)), .str [49], .int .i64 100] [.cell (.slice [.str]), .cell (.int .i64)] (.ite (.o2 .eq (.var 27) (.int .i64 0)) (.call none (.fn 43) [.var 26, .push (.push x1 x2) x3] [.cell .bool] (.ret [.d (.var 28)])) (.call (some (.bool false)) (.fn 43) [.var 26, .nils] [.cell .bool] (.ret [.d (.bool false)]))))))) (.call (some x4) (.fn 43) [.var 18, .nils] [.cell .bool] (.ret [.d (.bool false)])))) (.call (some x4) (.fn 43) [.var 13, .nils] [.cell .bool] (.ite x4 (.call none (.fn 43) [.var 18, .push .nils x3] [.cell .bool] (.ret [.d (.bool false)])) (.call (some (.bool false)) (.fn 43) [.var 18, .nils] [.cell .bool] (.ret [.d (.bool false)])))))) (.call (some x4) (.fn 43) [.var 3, .nils] [.cell .bool] (.ite x4 (.call none (.fn 43) [.var 13, .push x1 x2] [.cell .bool] (.call none (.fn 43) [.var 18, .push .nils x3] [.cell .bool] (.ret [.d (.bool false)]))) (.call (some (.bool false)) (.fn 43) [.var 13, .nils] [.cell .bool] (.call (some (.bool false)) (.fn 43) [.var 18, .nils] [.cell .bool] (.ret [.d (.bool false)])))))))))))))
theorem t40_ok : fnO Tryz.prog mdA 40 [] = t40 := by kernel_rfl
theorem c40 : callable Tryz.prog 40 = true := by kernel_rfl
def cue22 (s : List UInt8) : Cue := ⟨s, [], [], [⟨0, 0, 0, 0, 0, 0⟩], false, false, -1, [], 0⟩
def loopL (k : List UInt8) (n : Int) : Lis := ⟨1, 0, [cue22 [49], cue22 [50], { cue22 [51] with link := k, loops := n }, cue22 [52]]⟩
theorem cue22_Ok (s : List UInt8) : (cue22 s).Ok := ⟨by simp [cue22], by intro t ht; simp [cue22] at ht; subst ht; exact ⟨⟨by decide, by decide⟩, ⟨by decide, by decide⟩, ⟨by decide, by decide⟩, ⟨by decide, by decide⟩, ⟨by decide, by decide⟩, ⟨by decide, by decide⟩⟩, (show I64 (-1) from ⟨by decide, by decide⟩), (show I64 0 from ⟨by decide, by decide⟩)⟩
theorem loopL_Ok {k : List UInt8} {n : Int} (h : I64 n) : (loopL k n).Ok := by
 refine ⟨(show I64 1 from ⟨by decide, by decide⟩), (show I64 0 from ⟨by decide, by decide⟩), ?_⟩
 intro c hc
 simp only [loopL, List.mem_cons, List.not_mem_nil, or_false] at hc
 rcases hc with rfl | rfl | rfl | rfl
 · exact cue22_Ok _
 · exact cue22_Ok _
 · exact ⟨(cue22_Ok [51]).moves, (cue22_Ok [51]).parts, (cue22_Ok [51]).follow, h⟩
 · exact cue22_Ok _
theorem cue22_ok : Contract Tryz.prog 133 fun args K => ∃ s, args = [.str s] ∧ K [.d (.agg (cue22 s).enc)] := by
 refine .of c133 t133_ok ?_
 rintro _ K ⟨s, rfl, hK⟩ hsm
 exact ⟨[.str s], rfl, ⟨trivial, trivial⟩, hK⟩
theorem loopL_ok : Contract Tryz.prog 91 fun args K => ∃ k n, I64 n ∧ args = [.str k, .int .i64 n] ∧ K [.d (.agg (loopL k n).enc)] := by
 refine .of c91 t91_ok ?_
 rintro _ K ⟨k, n, hn, rfl, hK⟩ hsm
 refine ⟨[.str k, .int .i64 n], rfl, ⟨trivial, i64_has hn, trivial⟩, ?_⟩
 refine denR_call cue22_ok ⟨[49], rfl, _, rfl, ?_⟩
 refine denR_call cue22_ok ⟨[50], rfl, _, rfl, ?_⟩
 refine denR_call cue22_ok ⟨[51], rfl, _, rfl, ?_⟩
 refine denR_call cue22_ok ⟨[52], rfl, _, rfl, ?_⟩
 exact ⟨by kernel_rfl, by kernel_rfl, hK⟩
theorem lp_a : pathR (loopL [50] 2) [49] 100 = ([[49], [50], [51], [50], [51], [50], [51], [52]], 0) := by kernel_rfl
theorem lp_b : endR (loopL [50] 0) [49] = (true, 0) := by kernel_rfl
theorem lp_c : reachR (loopL [50] 0) [49] = ([[49], [50], [51]], 0) := by kernel_rfl
theorem lp_d : pathR (loopL [50] 0) [52] 9 = ([[52]], 0) := by kernel_rfl
theorem lp_e : pathR (loopL [57] 0) [49] 100 = ([[49], [50], [51], [52]], 0) := by kernel_rfl
theorem eqTxt_self : Contract Tryz.prog 43 fun args K => ∃ (a : List (List UInt8)), args = [.slice (txts a), .slice (txts a)] ∧ K [.d (.bool true)] :=
 eqTxt_ok.weaken fun args K _ ⟨a, h1, h2⟩ => ⟨a, a, h1, by simpa using h2⟩
theorem awake22_ok : Contract Tryz.prog 40 fun args K => args = [] ∧ K [.d (.bool true)] := by
 refine .of c40 t40_ok ?_
 rintro _ K ⟨rfl, hK⟩ hsm
 have s0 : I64 0 := ⟨by decide, by decide⟩
 have s2 : I64 2 := ⟨by decide, by decide⟩
 refine ⟨[], rfl, trivial, ?_⟩
 refine denR_call loopL_ok ⟨[50], 2, s2, rfl, _, rfl, ?_⟩
 refine denR_call fpath_ok ⟨loopL [50] 2, [49], 100, loopL_Ok s2, ⟨by decide, by decide⟩, rfl, ?_⟩
 rw [lp_a]
 intro rvs hr
 refine ⟨[.slice (txts [[49], [50], [51], [50], [51], [50], [51], [52]]), .int .i64 0], by rcases hr with rfl | rfl <;> rfl, ?_⟩
 refine denR_call loopL_ok ⟨[50], 0, s0, rfl, _, rfl, ?_⟩
 refine denR_call fendless_ok ⟨loopL [50] 0, [49], loopL_Ok s0, rfl, ?_⟩
 rw [lp_b]
 refine ⟨_, rfl, ?_⟩
 refine denR_call loopL_ok ⟨[50], 0, s0, rfl, _, rfl, ?_⟩
 refine denR_call freached_ok ⟨loopL [50] 0, [49], loopL_Ok s0, rfl, ?_⟩
 rw [lp_c]
 intro rvs hr
 refine ⟨[.slice (txts [[49], [50], [51]]), .int .i64 0], by rcases hr with rfl | rfl <;> rfl, ?_⟩
 refine denR_call loopL_ok ⟨[50], 0, s0, rfl, _, rfl, ?_⟩
 refine denR_call fpath_ok ⟨loopL [50] 0, [52], 9, loopL_Ok s0, ⟨by decide, by decide⟩, rfl, ?_⟩
 rw [lp_d]
 intro rvs hr
 refine ⟨[.slice (txts [[52]]), .int .i64 0], by rcases hr with rfl | rfl <;> rfl, ?_⟩
 refine denR_iteT (by kernel_rfl) ?_
 refine denR_gcall eqTxt_self true [.bool true] (by kernel_rfl) (fun _ => ⟨[[49], [50], [51], [50], [51], [50], [51], [52]], rfl, rfl⟩) (fun h => by cases h) ?_
 refine denR_iteT (by kernel_rfl) ?_
 refine denR_gcall eqTxt_self true [.bool true] (by kernel_rfl) (fun _ => ⟨[[49], [50], [51]], rfl, rfl⟩) (fun h => by cases h) ?_
 refine denR_iteT (by kernel_rfl) ?_
 refine denR_gcall eqTxt_self true [.bool true] (by kernel_rfl) (fun _ => ⟨[[52]], rfl, rfl⟩) (fun h => by cases h) ?_
 refine denR_iteF (by kernel_rfl) ?_
 refine denR_call loopL_ok ⟨[57], 0, s0, rfl, _, rfl, ?_⟩
 refine denR_call fpath_ok ⟨loopL [57] 0, [49], 100, loopL_Ok s0, ⟨by decide, by decide⟩, rfl, ?_⟩
 rw [lp_e]
 intro rvs hr
 refine ⟨[.slice (txts [[49], [50], [51], [52]]), .int .i64 0], by rcases hr with rfl | rfl <;> rfl, ?_⟩
 refine denR_iteT (by kernel_rfl) ?_
 exact denR_call eqTxt_self ⟨[[49], [50], [51], [52]], rfl, _, rfl, hK⟩
theorem Cnt.of {ds : List D} (h : HasKs cnKs ds) : ∃ m : Cnt, m.Ok ∧ ds = m.enc := by
 match ds, h with
 | [a, b], ⟨h1, h2, _⟩ =>
   obtain ⟨a, rfl⟩ := str_of h1
   obtain ⟨b, rfl, hb⟩ := i64_of h2
   exact ⟨⟨a, b⟩, hb, rfl⟩
noncomputable def t13 : R := .call none (.fn 57) [.var 0] [.cell .bool] (.fact (.ite (.o1 .not (.o1 .not (.var 2))) (.o2 .le (.o1 .len (.var 1)) (.int .i64 140737488355328)) (.bool true)) (.ite (.ite (.o1 .not (.var 2)) (.bool true) (.o2 .gt (.o1 .len (.var 1)) (.int .i64 40))) (.call none (.fn 40) [] [.cell .bool] (.ret [.d (.var 3)])) (.call none (.fn 58) [.var 0, .var 1] [.cell (.int .i64), .cell (.int .i64)] (.call none (.fn 59) [.var 0, .var 1] [.cell (.int .i64), .cell (.int .i64)] (.call none (.fn 60) [.var 0] [.cell (.int .i64)] (.call none (.fn 61) [.var 0] [.cell (.int .i64)] (.call (some (.ite (.ite (.o2 .eq (.var 7) (.var 8)) (.o2 .eq (.var 3) (.var 5)) (.bool false)) (.o2 .eq (.var 4) (.var 6)) (.bool false))) (.fn 40) [] [.cell .bool] (.ret [.d (.ite (.ite (.ite (.o2 .eq (.var 7) (.var 8)) (.o2 .eq (.var 3) (.var 5)) (.bool false)) (.o2 .eq (.var 4) (.var 6)) (.bool false)) (.var 9) (.bool false))]))))))))
theorem t13_ok : fnO Tryz.prog mdA 13 [.cell (.slice [.str, .int .i64]), .cell .str] = t13 := by kernel_rfl
theorem c13 : callable Tryz.prog 13 = true := by kernel_rfl
noncomputable def t15 : R := let x0 : T := .lcons (.var 1) (.lcons (.var 2) .lnil); let x1 : T := .o2 .eq (.var 7) (.var 11); let x2 : T := .o2 .gt (.o1 .len (.var 3)) (.int .i64 40); let x3 : T := .o1 .not (.var 5); let x4 : T := .o2 .eq (.var 10) (.var 14); let x5 : T := .o2 .eq (.var 9) (.var 13); .call none (.fn 39) [.lcons (.var 0) x0] [.cell .bool] (.fact (.ite (.o1 .not x3) (.o2 .le (.o1 .len (.var 3)) (.int .i64 140737488355328)) (.bool true)) (.call (some (.o1 .not (.ite x3 (.bool true) x2))) (.fn 57) [.var 4] [.cell .bool] (.ite (.ite (.ite x3 (.bool true) x2) (.bool true) (.o1 .not (.var 6))) (.call none (.fn 40) [] [.cell .bool] (.ret [.d (.var 7)])) (.call none (.fn 63) [.lcons (.var 0) x0, .var 3, .var 4] [.cell .str, .cell (.slice [.str, .int .i64]), .cell .bool, .cell (.int .i64)] (.call none (.fn 64) [.lcons (.var 0) x0, .var 3, .var 4] [.cell .str, .cell (.slice [.str, .int .i64]), .cell .bool, .cell (.int .i64)] (.call (some x1) (.fn 65) [.var 8, .var 12] [.cell .bool] (.call (some (.ite (.ite (.ite x1 (.var 15) (.bool false)) x5 (.bool false)) x4 (.bool false))) (.fn 40) [] [.cell .bool] (.ret [.d (.ite (.ite (.ite (.ite x1 (.var 15) (.bool false)) x5 (.bool false)) x4 (.bool false)) (.var 16) (.bool false))]))))))))
theorem t15_ok : fnO Tryz.prog mdA 15 [.agg [.int .i64, .int .i64, .slice [.str, .str, .slice [.int .i64, .int .i64, .int .i64, .int .i64, .int .i64], .slice [.int .i64, .int .i64, .int .i64, .int .i64, .int .i64, .int .i64], .bool, .bool, .int .i64, .str, .int .i64]], .cell .str, .cell (.slice [.str, .int .i64])] = t15 := by kernel_rfl
theorem c15 : callable Tryz.prog 15 = true := by kernel_rfl
noncomputable def t8 : R := let x0 : T := .lcons (.var 1) (.lcons (.var 2) .lnil); .call none (.fn 39) [.lcons (.var 0) x0] [.cell .bool] (.fact (.ite (.o1 .not (.o1 .not (.var 5))) (.o2 .le (.o1 .len (.var 3)) (.int .i64 140737488355328)) (.bool true)) (.ite (.ite (.o1 .not (.var 5)) (.bool true) (.o2 .gt (.o1 .len (.var 3)) (.int .i64 40))) (.call none (.fn 40) [] [.cell .bool] (.ret [.d (.var 6)])) (.call none (.fn 41) [.lcons (.var 0) x0, .var 3, .var 4] [.cell (.slice [.str]), .cell (.int .i64)] (.call none (.fn 42) [.lcons (.var 0) x0, .var 3, .var 4] [.cell (.slice [.str]), .cell (.int .i64)] (.call none (.fn 43) [.var 6, .var 8] [.cell .bool] (.call (some (.ite (.var 10) (.o2 .eq (.var 7) (.var 9)) (.bool false))) (.fn 40) [] [.cell .bool] (.ret [.d (.ite (.ite (.var 10) (.o2 .eq (.var 7) (.var 9)) (.bool false)) (.var 11) (.bool false))])))))))
theorem t8_ok : fnO Tryz.prog mdA 8 [.agg [.int .i64, .int .i64, .slice [.str, .str, .slice [.int .i64, .int .i64, .int .i64, .int .i64, .int .i64], .slice [.int .i64, .int .i64, .int .i64, .int .i64, .int .i64, .int .i64], .bool, .bool, .int .i64, .str, .int .i64]], .cell .str, .cell (.int .i64)] = t8 := by kernel_rfl
theorem c8 : callable Tryz.prog 8 = true := by kernel_rfl
noncomputable def t9 : R := let x0 : T := .lcons (.var 1) (.lcons (.var 2) .lnil); let x1 : T := .o2 .eq (.var 5) (.var 7); let x2 : T := .o2 .eq (.var 6) (.var 8); let x3 : T := .o2 .eq (.var 10) (.var 12); .call none (.fn 39) [.lcons (.var 0) x0] [.cell .bool] (.fact (.ite (.o1 .not (.o1 .not (.var 4))) (.o2 .le (.o1 .len (.var 3)) (.int .i64 140737488355328)) (.bool true)) (.ite (.ite (.o1 .not (.var 4)) (.bool true) (.o2 .gt (.o1 .len (.var 3)) (.int .i64 40))) (.call none (.fn 40) [] [.cell .bool] (.ret [.d (.var 5)])) (.call none (.fn 44) [.lcons (.var 0) x0, .var 3] [.cell .bool, .cell (.int .i64)] (.call none (.fn 45) [.lcons (.var 0) x0, .var 3] [.cell .bool, .cell (.int .i64)] (.call none (.fn 46) [.lcons (.var 0) x0, .var 3] [.cell (.slice [.str]), .cell (.int .i64)] (.call none (.fn 47) [.lcons (.var 0) x0, .var 3] [.cell (.slice [.str]), .cell (.int .i64)] (.call (some (.ite x1 x2 (.bool false))) (.fn 43) [.var 9, .var 11] [.cell .bool] (.call (some (.ite (.ite (.ite x1 x2 (.bool false)) (.var 13) (.bool false)) x3 (.bool false))) (.fn 40) [] [.cell .bool] (.ret [.d (.ite (.ite (.ite (.ite x1 x2 (.bool false)) (.var 13) (.bool false)) x3 (.bool false)) (.var 14) (.bool false))])))))))))
theorem t9_ok : fnO Tryz.prog mdA 9 [.agg [.int .i64, .int .i64, .slice [.str, .str, .slice [.int .i64, .int .i64, .int .i64, .int .i64, .int .i64], .slice [.int .i64, .int .i64, .int .i64, .int .i64, .int .i64, .int .i64], .bool, .bool, .int .i64, .str, .int .i64]], .cell .str] = t9 := by kernel_rfl
theorem c9 : callable Tryz.prog 9 = true := by kernel_rfl
theorem law13f_typed : Contract Tryz.prog 13 fun args K => ∃ (k : List Cnt) (s : List UInt8), (∀ c ∈ k, c.Ok) ∧ args = [.slice (k.map Cnt.enc), .str s] ∧ K [.d (.bool true)] := by
 refine .of c13 t13_ok ?_
 rintro _ K ⟨k, s, hk, rfl, hK⟩ hsm
 refine ⟨[.slice (k.map Cnt.enc), .str s], rfl, ⟨cnts_has hk, trivial, trivial⟩, ?_⟩
 refine denR_call fewN_ok ⟨k, hk, rfl, fun b => ⟨[.bool b], rfl, ?_⟩⟩
 simp only [zz, reduceCtorEq]
 intro _
 refine ⟨fun _ => ?_, fun _ => ?_⟩
 · refine denR_call awake22_ok ⟨rfl, _, rfl, ?_⟩
   simp only [zz, reduceCtorEq]
   exact hK
 · refine denR_call fof_ok ⟨k, s, hk, by simp only [zz, reduceCtorEq], _, rfl, ?_⟩
   refine denR_call refOf_ok ⟨k, s, hk, by simp only [zz, reduceCtorEq], _, rfl, ?_⟩
   refine denR_call nchkC_ok ⟨k, hk, by simp only [zz, reduceCtorEq], _, rfl, ?_⟩
   refine denR_call nref_ok ⟨k, hk, by simp only [zz, reduceCtorEq], _, rfl, ?_⟩
   refine denR_gcall awake22_ok true [.bool true] (by simp only [zz, reduceCtorEq] <;> simp) (fun _ => ⟨rfl, rfl⟩) (fun h => by cases h) ?_
   simp only [zz, reduceCtorEq]
   simpa using hK
theorem law13f : Contract Tryz.prog 13 (LawSpec Tryz.prog 13) :=
 law13f_typed.weaken fun args K _ h => by
   obtain ⟨h1, h2, hK⟩ := lawArgs [.cell (.slice cnKs), .cell .str] (by kernel_rfl) h
   match args, h1 with
   | [a, b], _ =>
     obtain ⟨k, hk, rfl⟩ := slice_of (fun _ => Cnt.of) (h2 0 _ _ rfl rfl)
     obtain ⟨s, rfl⟩ := str_of (h2 1 _ _ rfl rfl)
     exact ⟨k, s, hk, rfl, hK⟩
theorem next_cnts {l : Lis} {s : List UInt8} {k : List Cnt} (hl : l.Ok) (hk : ∀ c ∈ k, c.Ok) : ∀ c ∈ (nextF l s k).2.1, c.Ok := by
 unfold nextF
 split
 · simp
 split
 · simp
 rename_i h1 h2
 split
 · rename_i v hv
   simp only
   unfold stepW at hv
   split at hv
   · cases hv
   rename_i c hc
   split at hv
   · rename_i hf
     have hR := rightW_of (cue18_chk (by simpa using h1))
     have hcm := List.mem_of_getElem? hc
     have hlo := hR.loops c hcm
     have hci := cnt_i64 hk c.num
     obtain ⟨j, hj, e1, e2, e3⟩ := follows_pos hf
     have e3 : c.loops = 0 ∨ cnt k c.num < c.loops := e3
     obtain rfl := Option.some.inj hv
     simp only [moreC]
     split
     · intro d hd
       rcases mem_putC hd with rfl | hd
       · exact ⟨by have := hci.1; show _ ≤ cnt k c.num + 1; omega, by show cnt k c.num + 1 ≤ _; omega⟩
       · exact hk d hd
     · exact hk
   · split at hv
     · cases hv
     · obtain rfl := Option.some.inj hv
       exact hk
 · exact hk
theorem law15f_typed : Contract Tryz.prog 15 fun args K => ∃ (l : Lis) (s : List UInt8) (k : List Cnt), l.Ok ∧ (∀ c ∈ k, c.Ok) ∧ args = [.agg l.enc, .str s, .slice (k.map Cnt.enc)] ∧ K [.d (.bool true)] := by
 refine .of c15 t15_ok ?_
 rintro _ K ⟨l, s, k, hl, hk, rfl, hK⟩ hsm
 refine ⟨l.enc ++ [.str s, .slice (k.map Cnt.enc)], rfl, by exact has_li hl ⟨trivial, cnts_has hk, trivial⟩, ?_⟩
 refine denR_call few22_ok ⟨l, hl, by simp only [zz, reduceCtorEq, Lis.enc], fun b => ⟨[.bool b], rfl, ?_⟩⟩
 have rest : ∀ {ρ : List D} {b2 : Bool} {ags : Ags} {c0 : T} {r1 r2 : R}, (∃ x : Bool, den ρ c0 = .bool x) → denR Tryz.prog (fun _ rs => K rs) noK r1 ags ρ → denR Tryz.prog (fun _ rs => K rs) noK r2 ags ρ → denR Tryz.prog (fun _ rs => K rs) noK (.ite c0 r1 r2) ags ρ := fun _ h1 h2 => ⟨fun _ => h1, fun _ => h2⟩
 rw [denR_fact]
 intro _
 refine ⟨fun rs => ∃ b2 : Bool, rs = [.bool b2], fun _ => ⟨_, fewN_ok, k, hk, by simp only [zz, reduceCtorEq, Lis.enc], fun b2 => ⟨[.bool b2], rfl, b2, rfl⟩⟩, fun _ => ⟨false, rfl⟩, ?_⟩
 rintro _ _ ⟨b2, rfl⟩
 refine ⟨fun _ => ?_, fun _ => ?_⟩
 · refine denR_call awake22_ok ⟨rfl, _, rfl, ?_⟩
   simp only [zz, reduceCtorEq, Lis.enc]
   exact hK
 · refine denR_call fnext_ok ⟨l, s, k, hl, hk, by simp only [zz, reduceCtorEq, Lis.enc], _, rfl, ?_⟩
   refine denR_call refNext_ok ⟨l, s, k, hl, hk, by simp only [zz, reduceCtorEq, Lis.enc], _, rfl, ?_⟩
   refine denR_gcall sameN_ok true [.bool true] (by simp only [zz, reduceCtorEq, Lis.enc] <;> simp) (fun _ => ⟨(nextF l s k).2.1, next_cnts hl hk, by simp only [zz, reduceCtorEq, Lis.enc], rfl⟩) (fun h => by cases h) ?_
   refine denR_gcall awake22_ok true [.bool true] (by simp only [zz, reduceCtorEq, Lis.enc] <;> simp) (fun _ => ⟨rfl, rfl⟩) (fun h => by cases h) ?_
   simp only [zz, reduceCtorEq, Lis.enc]
   simpa using hK
theorem law15f : Contract Tryz.prog 15 (LawSpec Tryz.prog 15) :=
 law15f_typed.weaken fun args K _ h => by
   obtain ⟨h1, h2, hK⟩ := lawArgs [.agg liKs, .cell .str, .cell (.slice cnKs)] (by kernel_rfl) h
   match args, h1 with
   | [a, b, c], _ =>
     obtain ⟨l, hl, rfl⟩ := Lis.ofAgg (h2 0 _ _ rfl rfl)
     obtain ⟨s, rfl⟩ := str_of (h2 1 _ _ rfl rfl)
     obtain ⟨k, hk, rfl⟩ := slice_of (fun _ => Cnt.of) (h2 2 _ _ rfl rfl)
     exact ⟨l, s, k, hl, hk, rfl, hK⟩
theorem law8f_typed : Contract Tryz.prog 8 fun args K => ∃ (l : Lis) (s : List UInt8) (n : Int), l.Ok ∧ I64 n ∧ args = [.agg l.enc, .str s, .int .i64 n] ∧ K [.d (.bool true)] := by
 refine .of c8 t8_ok ?_
 rintro _ K ⟨l, s, n, hl, hn, rfl, hK⟩ hsm
 refine ⟨l.enc ++ [.str s, .int .i64 n], rfl, by exact has_li hl ⟨trivial, i64_has hn, trivial⟩, ?_⟩
 refine denR_call few22_ok ⟨l, hl, by simp only [zz, reduceCtorEq, Lis.enc], fun b => ⟨[.bool b], rfl, ?_⟩⟩
 simp only [zz, reduceCtorEq, Lis.enc]
 intro _
 refine ⟨fun _ => ?_, fun _ => ?_⟩
 · refine denR_call awake22_ok ⟨rfl, _, rfl, ?_⟩
   simp only [zz, reduceCtorEq]
   exact hK
 · refine denR_call fpath_ok ⟨l, s, n, hl, hn, by simp only [zz, reduceCtorEq, Lis.enc], fun rvs hr => ⟨[.slice (txts (pathR l s n).1), .int .i64 (pathR l s n).2], by rcases hr with rfl | rfl <;> rfl, ?_⟩⟩
   refine denR_call refPath_ok ⟨l, s, n, hl, hn, by simp only [zz, reduceCtorEq, Lis.enc], _, rfl, ?_⟩
   refine denR_call eqTxt_self ⟨(pathR l s n).1, by simp only [zz, reduceCtorEq, Lis.enc], _, rfl, ?_⟩
   refine denR_gcall awake22_ok true [.bool true] (by simp only [zz, reduceCtorEq, Lis.enc] <;> simp) (fun _ => ⟨rfl, rfl⟩) (fun h => by cases h) ?_
   simp only [zz, reduceCtorEq, Lis.enc]
   simpa using hK
theorem law8f : Contract Tryz.prog 8 (LawSpec Tryz.prog 8) :=
 law8f_typed.weaken fun args K _ h => by
   obtain ⟨h1, h2, hK⟩ := lawArgs [.agg liKs, .cell .str, .cell (.int .i64)] (by kernel_rfl) h
   match args, h1 with
   | [a, b, c], _ =>
     obtain ⟨l, hl, rfl⟩ := Lis.ofAgg (h2 0 _ _ rfl rfl)
     obtain ⟨s, rfl⟩ := str_of (h2 1 _ _ rfl rfl)
     obtain ⟨n, rfl, hn⟩ := i64_of (h2 2 _ _ rfl rfl)
     exact ⟨l, s, n, hl, hn, rfl, hK⟩
theorem law9f_typed : Contract Tryz.prog 9 fun args K => ∃ (l : Lis) (s : List UInt8), l.Ok ∧ args = [.agg l.enc, .str s] ∧ K [.d (.bool true)] := by
 refine .of c9 t9_ok ?_
 rintro _ K ⟨l, s, hl, rfl, hK⟩ hsm
 refine ⟨l.enc ++ [.str s], rfl, by exact has_s hl, ?_⟩
 refine denR_call few22_ok ⟨l, hl, by simp only [zz, reduceCtorEq, Lis.enc], fun b => ⟨[.bool b], rfl, ?_⟩⟩
 simp only [zz, reduceCtorEq, Lis.enc]
 intro _
 refine ⟨fun _ => ?_, fun _ => ?_⟩
 · refine denR_call awake22_ok ⟨rfl, _, rfl, ?_⟩
   simp only [zz, reduceCtorEq]
   exact hK
 · refine denR_call fendless_ok ⟨l, s, hl, by simp only [zz, reduceCtorEq, Lis.enc], _, rfl, ?_⟩
   refine denR_call refEndless_ok ⟨l, s, hl, by simp only [zz, reduceCtorEq, Lis.enc], _, rfl, ?_⟩
   refine denR_call freached_ok ⟨l, s, hl, by simp only [zz, reduceCtorEq, Lis.enc], fun rvs hr => ⟨[.slice (txts (reachR l s).1), .int .i64 (reachR l s).2], by rcases hr with rfl | rfl <;> rfl, ?_⟩⟩
   refine denR_call refReached_ok ⟨l, s, hl, by simp only [zz, reduceCtorEq, Lis.enc], fun rvs hr => ⟨[.slice (txts (reachR l s).1), .int .i64 (reachR l s).2], by rcases hr with rfl | rfl <;> rfl, ?_⟩⟩
   refine denR_gcall eqTxt_self true [.bool true] (by simp only [zz, reduceCtorEq, Lis.enc] <;> simp) (fun _ => ⟨(reachR l s).1, by simp only [zz, reduceCtorEq, Lis.enc], rfl⟩) (fun h => by cases h) ?_
   refine denR_gcall awake22_ok true [.bool true] (by simp only [zz, reduceCtorEq, Lis.enc] <;> simp) (fun _ => ⟨rfl, rfl⟩) (fun h => by cases h) ?_
   simp only [zz, reduceCtorEq, Lis.enc]
   simpa using hK
theorem law9f : Contract Tryz.prog 9 (LawSpec Tryz.prog 9) :=
 law9f_typed.weaken fun args K _ h => by
   obtain ⟨h1, h2, hK⟩ := lawArgs [.agg liKs, .cell .str] (by kernel_rfl) h
   match args, h1 with
   | [a, b], _ =>
     obtain ⟨l, hl, rfl⟩ := Lis.ofAgg (h2 0 _ _ rfl rfl)
     obtain ⟨s, rfl⟩ := str_of (h2 1 _ _ rfl rfl)
     exact ⟨l, s, hl, rfl, hK⟩
end Go.Sx.La
