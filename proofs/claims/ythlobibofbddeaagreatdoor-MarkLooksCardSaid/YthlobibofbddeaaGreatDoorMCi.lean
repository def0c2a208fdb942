/-
 Part 9 of the proof: the executor over the kit's code with its soundness, or contracts of functions.
-/
import Derived.Test.YthlobibofbddeaaGreatDoorMCh
set_option linter.unusedSimpArgs false
set_option linter.unusedVariables false
set_option linter.unusedSectionVars false
set_option linter.defProp false
set_option maxRecDepth 100000
namespace Go.Sx.La
open Go Go.Sx Go.RowKit Go.Proofs
def givenM (p : Int) (es : List Ent) : List Mov := es.map fun e => ⟨e.pa, e.va, p⟩
theorem ahead_ok : Contract Tryz.prog 75 fun args K => ∃ (l : Lis) (n : Nat), l.Ok ∧ checkL order05 l = 0 ∧ n ≤ l.cues.length ∧ args = [.agg l.enc, .int .i64 ((n : Int) - 1)] ∧
   ∀ rvs, (rvs = [.d (.slice ((aheadL l.cues n).map Ent.enc))] ∨ rvs = [.own 4 ((aheadL l.cues n).map Ent.enc)]) → K rvs := by
 refine .of c75 t75_ok ?_
 rintro _ K ⟨l, n, hl, h, hn, rfl, hK⟩ hsm
 have hR := rightT_of hl h
 have hlen := hR.len
 have h64 : I64 ((n : Int) - 1) := ⟨by omega, by omega⟩
 refine ⟨l.enc ++ [.int .i64 ((n : Int) - 1)], rfl, by exact has_ln hl h64, ?_⟩
 have hw : wr64 ((n : Int) - 1 + 1) = (n : Int) := by rw [wr64_eq] <;> omega
 simp only [zz, reduceCtorEq, t75, Lis.enc, List.length_map, hw]
 intro hcap
 refine ⟨?_, ?_, ?_⟩
 · split <;> simp_all
 · split <;> simp_all
 by_cases hin : 0 < n ∧ n < l.cues.length
 · obtain ⟨h0, hnl⟩ := hin
   have hok := hl.cues _ (List.getElem_mem hnl)
   have hM := hR.moves _ (List.getElem_mem hnl)
   have e : aheadL l.cues n = if l.cues[n].mark then entsOf (l.cues[n].moves.filter (earlyB l.cues n)) else [] := by
     unfold aheadL earlyM
     rw [if_neg (by omega), List.getElem?_eq_getElem hnl]
     simp only
     split <;> rfl
   rw [e] at hK
   simp only [zz, reduceCtorEq, getD_map hnl, Cue.enc, hnl]
   refine ⟨fun hh => ?_, fun hh => ?_⟩
   · have hm : l.cues[n].mark = false := by grind
     rw [hm] at hK
     exact hK _ (.inl rfl)
   · have hm : l.cues[n].mark = true := by grind
     rw [hm] at hK
     simp only [if_true] at hK
     refine ⟨by omega, ?_⟩
     have hml := hM.len
     have hmo := hok.moves
     generalize hms : l.cues[n].moves = ms at hml hmo hK
     refine loop_goI ms (fun _ ms (acc : List Ent) => acc ++ entsOf (ms.filter (earlyB l.cues n))) (fun i acc => [.slice (acc.map Ent.enc), .int .i64 i]) (fun i acc => acc.length ≤ i) [] (entsOf (ms.filter (earlyB l.cues n))) rfl (by simp) 1 (fun _ _ => rfl) rfl ?_ ?_
     · intro i hi acc hI hgo
       have hmi := hmo _ (List.getElem_mem hi)
       have e2 : (((n : Int) - 1) - 1) = ((n - 1 : Nat) : Int) - 1 := by omega
       have hw2 : wr64 ((n : Int) - 1 - 1) = ((n - 1 : Nat) : Int) - 1 := by rw [wr64_eq (by omega), e2]
       simp only [zz, reduceCtorEq, hw, getD_map hnl, Cue.enc, hms, List.length_map, hi]
       refine fun hcap2 => ⟨by omega, ?_⟩
       simp only [List.filter_cons] at hgo
       by_cases h1 : ms[i].pa.at_ = 0
       · have hb : earlyB l.cues n ms[i] = false := by unfold earlyB; simp [h1]
         rw [if_neg (by simp [hb])] at hgo
         refine denR_gcall seen_ok false [.slice []] (by simp only [zz, reduceCtorEq, hw, getD_map hnl, Cue.enc, hms, getD_map hi, Mov.enc, h1] <;> simp) (fun e => by cases e) (fun _ => rfl) ?_
         refine denR_gcall isDark_ok false [.bool false] (by simp only [zz, reduceCtorEq, hw, getD_map hnl, Cue.enc, hms, getD_map hi, Mov.enc, h1] <;> simp) (fun e => by cases e) (fun _ => rfl) ?_
         refine denR_gcall seen_ok false [.slice []] (by simp only [zz, reduceCtorEq, hw, getD_map hnl, Cue.enc, hms, getD_map hi, Mov.enc, h1] <;> simp) (fun e => by cases e) (fun _ => rfl) ?_
         refine denR_gcall isDark_ok false [.bool false] (by simp only [zz, reduceCtorEq, hw, getD_map hnl, Cue.enc, hms, getD_map hi, Mov.enc, h1] <;> simp) (fun e => by cases e) (fun _ => rfl) ?_
         simp only [zz, reduceCtorEq, hw, getD_map hnl, Cue.enc, hms, getD_map hi, Mov.enc, h1]
         first
             | exact ⟨acc, ⟨rfl, by rw [wr64_eq] <;> omega⟩, by omega, hgo⟩
             | first
             | exact ⟨acc, ⟨rfl, by rw [wr64_eq] <;> omega⟩, by omega, hgo⟩
             | exact ⟨by simp, acc, ⟨by simp [h1], by rw [wr64_eq] <;> omega⟩, by omega, hgo⟩
       · refine denR_gcall seen_ok true [.slice ((lookL l.cues n).map Ent.enc)] (by simp only [zz, reduceCtorEq, hw, getD_map hnl, Cue.enc, hms, getD_map hi, Mov.enc, h1] <;> simp [h1]) (fun _ => ⟨l, n, hR, hn, by simp only [zz, reduceCtorEq, Lis.enc], rfl⟩) (fun e => by cases e) ?_
         refine denR_gcall isDark_ok true [.bool (isDark (lookL l.cues n) ms[i].pa.ch)] (by simp only [zz, reduceCtorEq, hw, getD_map hnl, Cue.enc, hms, getD_map hi, Mov.enc, h1] <;> simp [h1]) (fun _ => ⟨lookL l.cues n, ms[i].pa.ch, lookL_ok hR n, hmi.1.1, by simp only [zz, reduceCtorEq, hw, getD_map hnl, Cue.enc, hms, getD_map hi, Mov.enc], rfl⟩) (fun e => by cases e) ?_
         have hb : earlyB l.cues n ms[i] = (isDark (lookL l.cues n) ms[i].pa.ch && isDark (lookL l.cues (n - 1)) ms[i].pa.ch) := by unfold earlyB; simp [h1]
         rw [hb] at hgo
         generalize isDark (lookL l.cues n) ms[i].pa.ch = x at hgo ⊢
         cases x with
         | false =>
           rw [if_neg (by simp)] at hgo
           refine denR_gcall seen_ok false [.slice []] (by simp only [zz, reduceCtorEq, hw, getD_map hnl, Cue.enc, hms, getD_map hi, Mov.enc, h1] <;> simp) (fun e => by cases e) (fun _ => rfl) ?_
           refine denR_gcall isDark_ok false [.bool false] (by simp only [zz, reduceCtorEq, hw, getD_map hnl, Cue.enc, hms, getD_map hi, Mov.enc, h1] <;> simp) (fun e => by cases e) (fun _ => rfl) ?_
           simp only [zz, reduceCtorEq, hw, getD_map hnl, Cue.enc, hms, getD_map hi, Mov.enc, h1]
           first
             | exact ⟨acc, ⟨rfl, by rw [wr64_eq] <;> omega⟩, by omega, hgo⟩
             | first
             | exact ⟨acc, ⟨rfl, by rw [wr64_eq] <;> omega⟩, by omega, hgo⟩
             | exact ⟨by simp, acc, ⟨by simp [h1], by rw [wr64_eq] <;> omega⟩, by omega, hgo⟩
         | true =>
           refine denR_gcall seen_ok true [.slice ((lookL l.cues (n - 1)).map Ent.enc)] (by simp only [zz, reduceCtorEq, hw, getD_map hnl, Cue.enc, hms, getD_map hi, Mov.enc, h1] <;> simp [h1]) (fun _ => ⟨l, n - 1, hR, by omega, by simp only [zz, reduceCtorEq, Lis.enc, hw2], rfl⟩) (fun e => by cases e) ?_
           refine denR_gcall isDark_ok true [.bool (isDark (lookL l.cues (n - 1)) ms[i].pa.ch)] (by simp only [zz, reduceCtorEq, hw, getD_map hnl, Cue.enc, hms, getD_map hi, Mov.enc, h1] <;> simp [h1]) (fun _ => ⟨lookL l.cues (n - 1), ms[i].pa.ch, lookL_ok hR _, hmi.1.1, by simp only [zz, reduceCtorEq, hw, getD_map hnl, Cue.enc, hms, getD_map hi, Mov.enc], rfl⟩) (fun e => by cases e) ?_
           generalize isDark (lookL l.cues (n - 1)) ms[i].pa.ch = y at hgo ⊢
           cases y with
           | false =>
             rw [if_neg (by simp)] at hgo
             simp only [zz, reduceCtorEq, hw, getD_map hnl, Cue.enc, hms, getD_map hi, Mov.enc, h1]
             first
             | exact ⟨acc, ⟨rfl, by rw [wr64_eq] <;> omega⟩, by omega, hgo⟩
             | exact ⟨by simp, acc, ⟨by simp [h1], by rw [wr64_eq] <;> omega⟩, by omega, hgo⟩
           | true =>
             rw [if_pos (by simp)] at hgo
             simp only [zz, reduceCtorEq, hw, getD_map hnl, Cue.enc, hms, getD_map hi, Mov.enc, h1, List.length_append, List.length_map]
             refine ⟨by simp; omega, acc ++ [⟨ms[i].pa, ms[i].va⟩], ⟨by simp [h1, Ent.enc], by rw [wr64_eq] <;> omega⟩, by simp; omega, by simpa [entsOf] using hgo⟩
     · intro acc hI hgo
       simp only [zz, reduceCtorEq, hw, getD_map hnl, Cue.enc, hms, List.length_map, Nat.lt_irrefl]
       simp only [List.filter_nil, entsOf, List.map_nil, List.append_nil] at hgo
       rw [← hms] at hK
       have hgo : acc = entsOf (ms.filter (earlyB l.cues n)) := hgo
       rw [hms, ← hgo] at hK
       exact fun _ => hK _ (.inr rfl)
 · have e : aheadL l.cues n = [] := by
     unfold aheadL earlyM
     split
     · rfl
     · rw [List.getElem?_eq_none (by omega)]; rfl
   rw [e] at hK
   exact ⟨fun _ => hK _ (.inl rfl), fun hh => by exfalso; grind⟩
theorem pickE_pa (es : List Ent) (y : Ent) : (pickE es y).pa = y.pa := by
 unfold pickE
 cases h : es.find? fun x => decide (x.pa = y.pa) with
 | none => rfl
 | some x => have := List.find?_some h; simpa using this
theorem pickE_snoc {es : List Ent} (hnd : (es.map (·.pa)).Nodup) {k : Nat} (hk : k < es.length) (y : Ent) : pickE (es.take (k + 1)) y = if es[k].pa = y.pa then es[k] else pickE (es.take k) y := by
 unfold pickE
 rw [List.take_succ_eq_append_getElem hk, List.find?_append]
 by_cases h : es[k].pa = y.pa
 · rw [if_pos h]
   have hn : (es.take k).find? (fun x => decide (x.pa = y.pa)) = none := by
     rw [List.find?_eq_none]
     intro x hx he
     obtain ⟨j, hj, rfl⟩ := List.getElem_of_mem hx
     simp only [List.length_take] at hj
     simp only [List.getElem_take, decide_eq_true_eq] at he
     have h2 : (es.map (·.pa))[j]'(by simp; omega) = (es.map (·.pa))[k]'(by simpa using hk) := by simp [he, h]
     have := (List.getElem_inj hnd).1 h2
     omega
   simp [hn, h]
 · rw [if_neg h]; simp [h]
theorem seen20_ok : Contract Tryz.prog 82 fun args K => ∃ (l : Lis) (n : Nat), l.Ok ∧ checkL order05 l = 0 ∧ n ≤ l.cues.length ∧ args = [.agg l.enc, .int .i64 ((n : Int) - 1)] ∧ K [.own 4 ((markedL l.cues n).map Ent.enc)] := by
 refine .of c82 t82_ok ?_
 rintro _ K ⟨l, n, hl, h, hn, rfl, hK⟩ hsm
 have hR := rightT_of hl h
 have hlen := hR.len
 have h64 : I64 ((n : Int) - 1) := ⟨by omega, by omega⟩
 refine ⟨l.enc ++ [.int .i64 ((n : Int) - 1)], rfl, by exact has_ln hl h64, ?_⟩
 refine denR_call seen_ok ⟨l, n, hR, hn, by simp only [zz, reduceCtorEq, Lis.enc], _, rfl, ?_⟩
 have hml : (lookL l.cues n).length ≤ 10000 := lookL_len hR _
 simp only [zz, reduceCtorEq, Lis.enc, List.length_map]
 refine ⟨by omega, ?_⟩
 refine denR_call ahead_ok ⟨l, n, hl, h, hn, by simp only [zz, reduceCtorEq, Lis.enc], fun rvs hr => ⟨[.slice ((aheadL l.cues n).map Ent.enc)], by rcases hr with rfl | rfl <;> rfl, ?_⟩⟩
 have hlk := lookL_ok hR n
 have hes := ahead_Ok hl n
 have hK' : K [.own 4 (((lookL l.cues n).map (pickE (aheadL l.cues n))).map Ent.enc)] := by rw [← marked_map hR]; exact hK
 have hnd := ahead_nodup hR n
 generalize lookL l.cues n = lk at hml hK' hlk
 generalize aheadL l.cues n = es at hes hK' hnd
 refine loop_goI lk (fun i l' (acc : List Ent) => acc.take i ++ l'.map (pickE es)) (fun i acc => [.int .i64 i, .slice (acc.map Ent.enc)]) (fun i acc => acc.length = lk.length ∧ acc.drop i = lk.drop i ∧ ∀ e ∈ acc, e.Ok) lk (lk.map (pickE es)) (by simp) ⟨rfl, rfl, hlk⟩ 0 (fun _ _ => rfl) (by simp only [zz, reduceCtorEq]; rfl) ?_ ?_
 · rintro i hi acc ⟨hal, had, hao⟩ hgo
   have hia : i < acc.length := by omega
   have hai : acc[i] = lk[i] := by
     rw [List.drop_eq_getElem_cons hia, List.drop_eq_getElem_cons hi] at had
     exact (List.cons.inj had).1
   simp only [zz, reduceCtorEq, List.length_map, hia]
   intro hcap
   refine loop_goI es (fun _ _ (_ : List Ent) => ()) (fun k acc2 => [.int .i64 k, .slice (acc2.map Ent.enc)]) (fun k acc2 => acc2 = acc.set i (pickE (es.take k) lk[i])) acc () rfl (by simp [pickE, ← hai]) 0 (fun _ _ => rfl) (by simp only [zz, reduceCtorEq]; rfl) ?_ ?_
   · rintro k hk acc2 rfl _
     have hi2 : i < (acc.set i (pickE (es.take k) lk[i])).length := by simpa using hia
     have hget : (acc.set i (pickE (es.take k) lk[i]))[i] = pickE (es.take k) lk[i] := by simp
     have hpa : (pickE (es.take k) lk[i]).pa = lk[i].pa := pickE_pa _ _
     have hset := setE hi2 es[k]
     simp only [Ent.enc] at hset
     have hsn := pickE_snoc hnd hk lk[i]
     simp only [zz, reduceCtorEq, List.length_map, hk, hi2, getD_map hk, getD_map hi2, hget, Ent.enc, D.upd, hset, hpa, List.length_set, hia]
     refine fun hcap2 => ⟨by omega, by omega, acc.set i (pickE (es.take (k + 1)) lk[i]), ⟨by rw [wr64_eq] <;> omega, ?_⟩, rfl⟩
     rw [hsn]
     by_cases hp : es[k].pa = lk[i].pa
     · rw [if_pos hp]; simp [hp]
     · rw [if_neg hp]
       have : ¬ (es[k].pa.ch = lk[i].pa.ch ∧ es[k].pa.at_ = lk[i].pa.at_) := fun e => hp (Par.ext' e.1 e.2)
       simp [this]
   · rintro acc2 rfl _
     simp only [zz, reduceCtorEq, List.length_map, Nat.lt_irrefl]
     refine fun _ => ⟨rfl, acc.set i (pickE es lk[i]), by rw [wr64_eq (by omega)]; rfl, ⟨by simpa using hal, ?_, ?_⟩, ?_⟩
     · rw [List.drop_set_of_lt (by omega), ← List.drop_drop (i := 1), had, List.drop_drop]
     · intro e he
       rcases List.mem_or_eq_of_mem_set he with he | rfl
       · exact hao e he
       · unfold pickE
         cases hf : es.find? fun x => decide (x.pa = lk[i].pa) with
         | none => exact hlk _ (List.getElem_mem hi)
         | some x => exact hes x (List.mem_of_find?_eq_some hf)
     · rw [← hgo, List.take_succ_eq_append_getElem (by simpa using hia), List.getElem_set_self, List.take_set_of_le (Nat.le_refl _)]
       simp only [List.map_cons, List.append_assoc, List.singleton_append]
 · rintro acc ⟨hal, had, hao⟩ hgo
   simp only [zz, reduceCtorEq, List.length_map, hal, Nat.lt_irrefl]
   simp only [List.map_nil, List.append_nil] at hgo
   rw [List.take_of_length_le (by omega)] at hgo
   rw [hgo]
   exact fun _ => hK'
theorem markedS_ok : Contract Tryz.prog 26 fun args K => ∃ (l : Lis) (s : List UInt8), l.Ok ∧ args = [.agg l.enc, .str s] ∧ K (entRV (markedR l s)) := by
 refine .of c26 t26_ok ?_
 rintro _ K ⟨l, s, hl, rfl, hK⟩ hsm
 refine ⟨l.enc ++ [.str s], rfl, by exact has_s hl, ?_⟩
 refine denR_call cue18_ok ⟨l, s, hl, by simp only [zz, reduceCtorEq, Lis.enc], _, rfl, ?_⟩
 simp only [zz, reduceCtorEq, Lis.enc]
 unfold markedR at hK
 refine ⟨fun h => ?_, fun h => ?_⟩
 · have h : cue18 l s ≠ 0 := by simpa using h
   rw [if_pos h] at hK; exact hK
 have h : cue18 l s = 0 := by simpa using h
 obtain ⟨hR, h05, hpl, hup, hu0, hul⟩ := cue18_right hl h
 rw [if_neg (by simp [h])] at hK
 refine denR_call place17_ok ⟨l, s, hl, by simp only [zz, reduceCtorEq, Lis.enc], _, rfl, ?_⟩
 refine denR_call seen20_ok ⟨l, upto l s, hl, cue18_check h, hul, by simp only [zz, reduceCtorEq, Lis.enc, hup], _, rfl, ?_⟩
 simp only [zz, reduceCtorEq]
 exact hK
theorem mstepsS_ok : Contract Tryz.prog 28 fun args K => ∃ (l : Lis) (s : List UInt8), l.Ok ∧ args = [.agg l.enc, .str s] ∧ K (entRV (mstepsR l s)) := by
 refine .of c28 t28_ok ?_
 rintro _ K ⟨l, s, hl, rfl, hK⟩ hsm
 refine ⟨l.enc ++ [.str s], rfl, by exact has_s hl, ?_⟩
 refine denR_call cue18_ok ⟨l, s, hl, by simp only [zz, reduceCtorEq, Lis.enc], _, rfl, ?_⟩
 simp only [zz, reduceCtorEq, Lis.enc]
 unfold mstepsR at hK
 refine ⟨fun h => ?_, fun h => ?_⟩
 · have h : cue18 l s ≠ 0 := by simpa using h
   rw [if_pos h] at hK; exact hK
 have h : cue18 l s = 0 := by simpa using h
 obtain ⟨hR, h05, hpl, hup, hu0, hul⟩ := cue18_right hl h
 have hch := cue18_check h
 have hlen := hR.len
 rw [if_neg (by simp [h])] at hK
 have hat1 : wr64 ((upto l s : Int) - 1 - 1) = ((upto l s - 1 : Nat) : Int) - 1 := by rw [wr64_eq (by omega)]; omega
 refine denR_call place17_ok ⟨l, s, hl, by simp only [zz, reduceCtorEq, Lis.enc], _, rfl, ?_⟩
 refine denR_call seen20_ok ⟨l, upto l s - 1, hl, hch, by omega, by simp only [zz, reduceCtorEq, Lis.enc, hup, hat1], _, rfl, ?_⟩
 refine denR_call seen20_ok ⟨l, upto l s, hl, hch, hul, by simp only [zz, reduceCtorEq, Lis.enc, hup], _, rfl, ?_⟩
 refine denR_call differentR_ok ⟨_, _, (marked_right hl hch (upto l s - 1)).ok, (marked_right hl hch (upto l s)).ok, marked_same hR _ _, (marked_right hl hch _).len, by simp only [zz, reduceCtorEq, Lis.enc], _, rfl, ?_⟩
 simp only [zz, reduceCtorEq, Lis.enc]
 exact hK
noncomputable def t18 : R := let x0 : List K := [.int .i64, .int .i64, .slice [.str, .str, .slice [.int .i64, .int .i64, .int .i64, .int .i64, .int .i64], .slice [.int .i64, .int .i64, .int .i64, .int .i64, .int .i64, .int .i64], .bool, .bool, .int .i64, .str, .int .i64]]; let x1 : T := .o1 .not (.bool true); let x2 : T := .lcons (.var 1) (.lcons (.var 2) .lnil); let x3 : T := .lcons (.int .i64 2) (.lcons (.int .i64 1) .lnil); let x4 : T := .o1 .not (.o2 .ne (.o2 (.add .i64) (.o2 (.add .i64) (.o2 (.add .i64) (.var 4) (.var 6)) (.var 8)) (.var 10)) (.int .i64 0)); let x5 : List K := [.int .i64, .int .i64, .int .i64, .int .i64]; let x6 : T := .push (.push (.push .nils (.lcons (.int .i64 0) .lnil)) (.lcons (.int .i64 7) .lnil)) (.lcons (.int .i64 50) .lnil); let x7 : T := .push .nils (.lcons (.int .i64 80) .lnil); let x8 : T := .o1 .not (.bool false); let x9 : T := .lcons (.int .i64 9) .lnil; let x10 : T := .o2 .eq (.var 22) (.int .i64 0); let x11 : T := .o1 .not (.o1 .not (.var 12)); let x12 : T := .lcons (.int .i64 (-1)) .lnil; let x13 : T := .o1 .not (.o1 .not (.var 14)); .call none (.fn 68) [] [.agg x0] (.call none (.fn 19) [.lcons (.var 0) x2, .str [51]] [.cell (.slice x5), .cell (.int .i64)] (.call none (.fn 25) [.lcons (.var 0) x2, .str [51]] [.cell (.slice x5), .cell (.int .i64)] (.call none (.fn 27) [.lcons (.var 0) x2, .str [52]] [.cell (.slice x5), .cell (.int .i64)] (.call none (.fn 21) [.lcons (.var 0) x2, .str [52]] [.cell (.slice [.int .i64, .int .i64]), .cell (.int .i64)] (.call (some x4) (.fn 70) [.var 3] [.cell (.slice [.int .i64])] (.ite x4 (.call (some x8) (.fn 69) [.var 11, .push .nils (.lcons (.int .i64 7) .lnil)] [.cell .bool] (.call (some x11) (.fn 70) [.var 5] [.cell (.slice [.int .i64])] (.ite x11 (.call (some x8) (.fn 69) [.var 13, .push x6 x12] [.cell .bool] (.call (some x13) (.fn 70) [.var 7] [.cell (.slice [.int .i64])] (.ite x13 (.call (some x8) (.fn 69) [.var 15, .push x7 x9] [.cell .bool] (.ite (.o1 .not (.o1 .not (.var 16))) (.call (some x8) (.fn 24) [.var 9, .push .nils x3] [.cell .bool] (.ite (.o1 .not (.var 17)) (.ret [.d (.bool false)]) (.call none (.fn 71) [.lcons (.var 0) x2, .str [51]] [.agg x0] (.call none (.fn 19) [.lcons (.var 18) (.lcons (.var 19) (.lcons (.var 20) .lnil)), .str [50]] [.cell (.slice x5), .cell (.int .i64)] (.fact (.ite x10 (.o2 .le (.o1 .len (.var 21)) (.int .i64 140737488355328)) (.bool true)) (.ret [.d (.ite x10 (.o2 .eq (.o1 .len (.var 21)) (.int .i64 0)) (.bool false))])))))) (.call (some x1) (.fn 24) [.var 9, .nils] [.cell .bool] (.ret [.d (.bool false)])))) (.call (some x1) (.fn 69) [.var 15, .nils] [.cell .bool] (.ite x1 (.call none (.fn 24) [.var 9, .push .nils x3] [.cell .bool] (.ret [.d (.bool false)])) (.call (some (.bool false)) (.fn 24) [.var 9, .nils] [.cell .bool] (.ret [.d (.bool false)]))))))) (.call (some x1) (.fn 69) [.var 13, .nils] [.cell .bool] (.call (some x1) (.fn 70) [.var 7] [.cell (.slice [.int .i64])] (.ite x1 (.call none (.fn 69) [.var 15, .push x7 x9] [.cell .bool] (.call none (.fn 24) [.var 9, .push .nils x3] [.cell .bool] (.ret [.d (.bool false)]))) (.call (some (.bool false)) (.fn 69) [.var 15, .nils] [.cell .bool] (.call (some (.bool false)) (.fn 24) [.var 9, .nils] [.cell .bool] (.ret [.d (.bool false)]))))))))) (.call (some x1) (.fn 69) [.var 11, .nils] [.cell .bool] (.call (some x1) (.fn 70) [.var 5] [.cell (.slice [.int .i64])] (.ite x1 (.call none (.fn 69) [.var 13, .push x6 x12] [.cell .bool] (.call none (.fn 70) [.var 7] [.cell (.slice [.int .i64])] (.call none (.fn 69) [.var 15, .push x7 x9] [.cell .bool] (.call none (.fn 24) [.var 9, .push .nils x3] [.cell .bool] (.ret [.d (.bool false)]))))) (.call (some (.bool false)) (.fn 69) [.var 13, .nils] [.cell .bool] (.call (some (.bool false)) (.fn 70) [.var 7] [.cell (.slice [.int .i64])] (.call (some (.bool false)) (.fn 69) [.var 15, .nils] [.cell .bool] (.call (some (.bool false)) (.fn 24) [.var 9, .nils] [.cell .bool] (.ret [.d (.bool false)]))))))))))))))
theorem t18_ok : fnO Tryz.prog mdA 18 [] = t18 := by kernel_rfl
theorem c18 : callable Tryz.prog 18 = true := by kernel_rfl
noncomputable def t68 : R := let x1 : List K := [.int .i64, .int .i64, .int .i64, .int .i64, .int .i64]; let x0 : List K := [.str, .str, .slice x1, .slice [.int .i64, .int .i64, .int .i64, .int .i64, .int .i64, .int .i64], .bool, .bool, .int .i64, .str, .int .i64]; .call none (.fn 117) [.int .i64 1, .int .i64 0, .int .i64 80] [.agg x1] (.call none (.fn 117) [.int .i64 1, .int .i64 1, .int .i64 7] [.agg x1] (.call none (.fn 117) [.int .i64 2, .int .i64 1, .int .i64 9] [.agg x1] (.call none (.fn 116) [.str [52], .push (.push (.push .nils (.lcons (.var 0) (.lcons (.var 1) (.lcons (.var 2) (.lcons (.var 3) (.lcons (.var 4) .lnil)))))) (.lcons (.var 5) (.lcons (.var 6) (.lcons (.var 7) (.lcons (.var 8) (.lcons (.var 9) .lnil)))))) (.lcons (.var 10) (.lcons (.var 11) (.lcons (.var 12) (.lcons (.var 13) (.lcons (.var 14) .lnil)))))] [.agg x0] (.call none (.fn 117) [.int .i64 1, .int .i64 0, .int .i64 100] [.agg x1] (.call none (.fn 116) [.str [49], .push .nils (.lcons (.var 24) (.lcons (.var 25) (.lcons (.var 26) (.lcons (.var 27) (.lcons (.var 28) .lnil)))))] [.agg x0] (.call none (.fn 117) [.int .i64 1, .int .i64 0, .int .i64 0] [.agg x1] (.call none (.fn 117) [.int .i64 2, .int .i64 0, .int .i64 50] [.agg x1] (.call none (.fn 116) [.str [50], .push (.push .nils (.lcons (.var 38) (.lcons (.var 39) (.lcons (.var 40) (.lcons (.var 41) (.lcons (.var 42) .lnil)))))) (.lcons (.var 43) (.lcons (.var 44) (.lcons (.var 45) (.lcons (.var 46) (.lcons (.var 47) .lnil)))))] [.agg x0] (.call none (.fn 116) [.str [51], .nils] [.agg x0] (.ret [.d (.lcons (.int .i64 1) (.lcons (.int .i64 0) (.lcons (.push (.push (.push (.push .nils (.lcons (.var 29) (.lcons (.var 30) (.lcons (.var 31) (.lcons (.var 32) (.lcons (.var 33) (.lcons (.var 34) (.lcons (.var 35) (.lcons (.var 36) (.lcons (.var 37) .lnil)))))))))) (.lcons (.var 48) (.lcons (.var 49) (.lcons (.var 50) (.lcons (.var 51) (.lcons (.var 52) (.lcons (.var 53) (.lcons (.var 54) (.lcons (.var 55) (.lcons (.var 56) .lnil)))))))))) (.lcons (.var 57) (.lcons (.var 58) (.lcons (.var 59) (.lcons (.var 60) (.lcons (.var 61) (.lcons (.var 62) (.lcons (.var 63) (.lcons (.var 64) (.lcons (.var 65) .lnil)))))))))) (.lcons (.var 15) (.lcons (.var 16) (.lcons (.var 17) (.lcons (.var 18) (.lcons (.var 19) (.lcons (.bool true) (.lcons (.var 21) (.lcons (.var 22) (.lcons (.var 23) .lnil)))))))))) .lnil)))]))))))))))
theorem t68_ok : fnO Tryz.prog mdA 68 [] = t68 := by kernel_rfl
theorem c68 : callable Tryz.prog 68 = true := by kernel_rfl
noncomputable def t116 : R := let x0 : T := .lcons (.int .i64 0) .lnil; .ret [.d (.lcons (.var 0) (.lcons (.str []) (.lcons (.var 1) (.lcons (.rep (.int .i64 1) (.lcons (.int .i64 0) (.lcons (.int .i64 0) (.lcons (.int .i64 0) (.lcons (.int .i64 0) (.lcons (.int .i64 0) x0)))))) (.lcons (.bool false) (.lcons (.bool false) (.lcons (.int .i64 (-1)) (.lcons (.str []) x0))))))))]
theorem t116_ok : fnO Tryz.prog mdA 116 [.cell .str, .cell (.slice [.int .i64, .int .i64, .int .i64, .int .i64, .int .i64])] = t116 := by kernel_rfl
theorem c116 : callable Tryz.prog 116 = true := by kernel_rfl
noncomputable def t117 : R := .call none (.fn 149) [.var 2] [.agg [.int .i64, .int .i64]] (.ret [.d (.lcons (.var 0) (.lcons (.var 1) (.lcons (.var 3) (.lcons (.var 4) (.lcons (.int .i64 1) .lnil)))))])
theorem t117_ok : fnO Tryz.prog mdA 117 [.cell (.int .i64), .cell (.int .i64), .cell (.int .i64)] = t117 := by kernel_rfl
theorem c117 : callable Tryz.prog 117 = true := by kernel_rfl
noncomputable def t69 : R := let x0 : T := .o1 .len (.var 0); let x1 : T := .o1 .len (.var 1); .fact (.o2 .le x0 (.int .i64 140737488355328)) (.fact (.o2 .le x1 (.int .i64 140737488355328)) (.ite (.o2 .ne x0 x1) (.ret [.d (.bool false)]) (.loop 0 [.int .i64 0] [.int .i64] (.ite (.o2 .lt (.var 2) x0) (.need (.o2 .le (.int .i64 0) (.var 2)) (.need (.o2 .lt (.var 2) x1) (.ite (.o2 .ne (.idx (.var 0) (.var 2) 0 (.int .i64)) (.idx (.var 1) (.var 2) 0 (.int .i64))) (.ret [.d (.bool false)]) (.again 0 [.o2 (.add .i64) (.var 2) (.int .i64 1)])))) (.ret [.d (.bool true)])))))
theorem t69_ok : fnO Tryz.prog mdA 69 [.cell (.slice [.int .i64]), .cell (.slice [.int .i64])] = t69 := by kernel_rfl
theorem c69 : callable Tryz.prog 69 = true := by kernel_rfl
noncomputable def t70 : R := let x2 : T := .push .nils (.lcons (.int .i64 (-1)) .lnil); let x3 : T := .idx (.var 0) (.var 2) 3 (.int .i64); let x0 : T := .o2 .band (.o2 .eq (.idx (.var 0) (.var 2) 2 (.int .i64)) (.var 3)) (.o2 .band (.o2 .eq x3 (.var 4)) (.bool true)); let x1 : T := .push .nils (.lcons x3 .lnil); .fact (.o2 .le (.o1 .len (.var 0)) (.int .i64 140737488355328)) (.loop 0 [.nils, .int .i64 0] [.slice [.int .i64], .int .i64] (.ite (.o2 .lt (.var 2) (.o1 .len (.var 0))) (.need (.o2 .le (.int .i64 0) (.var 2)) (.call none (.fn 118) [] [.agg [.int .i64, .int .i64]] (.need (.ite x0 (.o2 .le (.o1 .len (.o2 .app (.var 1) x2)) (.int .i64 17592186044416)) (.bool true)) (.need (.ite (.o1 .not x0) (.o2 .le (.o1 .len (.o2 .app (.var 1) x1)) (.int .i64 17592186044416)) (.bool true)) (.lets [.ite x0 x2 x1, .ite x0 (.o2 .app (.var 1) x2) (.o2 .app (.var 1) x1)] (.again 0 [.var 6, .o2 (.add .i64) (.var 2) (.int .i64 1)])))))) (.ret [.own 1 (.var 1)])))
theorem t70_ok : fnO Tryz.prog mdA 70 [.cell (.slice [.int .i64, .int .i64, .int .i64, .int .i64])] = t70 := by kernel_rfl
theorem c70 : callable Tryz.prog 70 = true := by kernel_rfl
def dark4 : Cue := { cue169 [52] false [mv18 1 0 80, mv18 1 1 7, mv18 2 1 9] with mark := true }
def darkL : Lis := ⟨1, 0, [cue169 [49] false [mv18 1 0 100], cue169 [50] false [mv18 1 0 0, mv18 2 0 50], cue169 [51] false [], dark4]⟩
def dark3 : Lis := { darkL with cues := without darkL.cues [51] }
def e21 (v : Val) : Ent := ⟨⟨2, 1⟩, v⟩
theorem dk_e : earlyR darkL [51] = ([e11 ⟨0, 7⟩], 0) := by kernel_rfl
theorem dk_m : markedR darkL [51] = ([e10 ⟨0, 0⟩, e11 ⟨0, 7⟩, e20 ⟨0, 50⟩, e21 hval], 0) := by kernel_rfl
theorem dk_s : mstepsR darkL [52] = ([e10 ⟨0, 80⟩, e21 ⟨0, 9⟩], 0) := by kernel_rfl
theorem dk_l : lateR darkL [52] = ([⟨2, 1⟩], 0) := by kernel_rfl
theorem dk_3 : earlyR dark3 [50] = ([], 0) := by kernel_rfl
theorem sml {v : Int} (h : -1000 ≤ v ∧ v ≤ 1000) : I64 v := ⟨by omega, by omega⟩
theorem darkL_Ok : darkL.Ok := by
 have hc : ∀ (n : List UInt8) (b : Bool) (ms : List Mov), (∀ m ∈ ms, m.Ok) → (cue169 n b ms).Ok := fun n b ms h => ⟨h, by simp [cue169, zt, Tim.Ok, I64], by simp [cue169, I64], by simp [cue169, I64]⟩
 have m1 : ∀ {c a v : Int}, -1000 ≤ c ∧ c ≤ 1000 → -1000 ≤ a ∧ a ≤ 1000 → -1000 ≤ v ∧ v ≤ 1000 → (mv18 c a v).Ok := fun h1 h2 h3 => mv18_Ok (sml h1) (sml h2) (sml h3)
 refine ⟨by simp [darkL, I64], by simp [darkL, I64], fun c hcm => ?_⟩
 simp only [darkL, List.mem_cons, List.not_mem_nil, or_false] at hcm
 rcases hcm with rfl | rfl | rfl | rfl
 · exact hc _ _ _ fun m hm => by simp only [List.mem_cons, List.not_mem_nil, or_false] at hm; rcases hm with rfl; exact m1 (by omega) (by omega) (by omega)
 · exact hc _ _ _ fun m hm => by simp only [List.mem_cons, List.not_mem_nil, or_false] at hm; rcases hm with rfl | rfl <;> exact m1 (by omega) (by omega) (by omega)
 · exact hc _ _ _ fun m hm => by simp at hm
 · have h4 := hc [52] false [mv18 1 0 80, mv18 1 1 7, mv18 2 1 9] fun m hm => by simp only [List.mem_cons, List.not_mem_nil, or_false] at hm; rcases hm with rfl | rfl | rfl <;> exact m1 (by omega) (by omega) (by omega)
   exact ⟨h4.moves, h4.parts, h4.follow, h4.loops⟩
theorem dark3_Ok : dark3.Ok := ⟨darkL_Ok.num, darkL_Ok.prio, fun c hc => darkL_Ok.cues c (List.mem_filter.1 hc).1⟩
theorem mv117_ok : Contract Tryz.prog 117 fun args K => ∃ c a v : Int, I64 c ∧ I64 a ∧ I64 v ∧ args = [.int .i64 c, .int .i64 a, .int .i64 v] ∧ K [.d (.agg (mv18 c a v).enc)] := by
 refine .of c117 t117_ok ?_
 rintro _ K ⟨c, a, v, hc, ha, hv, rfl, hK⟩ hsm
 refine ⟨[.int .i64 c, .int .i64 a, .int .i64 v], rfl, ⟨i64_has hc, i64_has ha, i64_has hv, trivial⟩, ?_⟩
 refine denR_call at15_ok ⟨v, hv, rfl, _, rfl, ?_⟩
 simp only [zz, reduceCtorEq, Val.enc]
 exact hK
theorem cue116_ok : Contract Tryz.prog 116 fun args K => ∃ (n : List UInt8) (ms : List Mov), (∀ m ∈ ms, m.Ok) ∧ args = [.str n, .slice (ms.map Mov.enc)] ∧ K [.d (.agg (cue169 n false ms).enc)] := by
 refine .of c116 t116_ok ?_
 rintro _ K ⟨n, ms, hms, rfl, hK⟩ hsm
 refine ⟨[.str n, .slice (ms.map Mov.enc)], rfl, ⟨trivial, slice_has fun m hm => Mov.has (hms m hm), trivial⟩, ?_⟩
 exact hK
theorem darkL_ok : Contract Tryz.prog 68 fun args K => args = [] ∧ K [.d (.agg darkL.enc)] := by
 refine .of c68 t68_ok ?_
 rintro _ K ⟨rfl, hK⟩ hsm
 refine ⟨[], rfl, trivial, ?_⟩
 have m1 : ∀ {c a v : Int}, -1000 ≤ c ∧ c ≤ 1000 → -1000 ≤ a ∧ a ≤ 1000 → -1000 ≤ v ∧ v ≤ 1000 → (mv18 c a v).Ok := fun h1 h2 h3 => mv18_Ok (sml h1) (sml h2) (sml h3)
 refine denR_call mv117_ok ⟨1, 0, 80, sml (by omega), sml (by omega), sml (by omega), rfl, _, rfl, ?_⟩
 refine denR_call mv117_ok ⟨1, 1, 7, sml (by omega), sml (by omega), sml (by omega), rfl, _, rfl, ?_⟩
 refine denR_call mv117_ok ⟨2, 1, 9, sml (by omega), sml (by omega), sml (by omega), rfl, _, rfl, ?_⟩
 refine denR_call cue116_ok ⟨[52], [mv18 1 0 80, mv18 1 1 7, mv18 2 1 9], fun m hm => by simp only [List.mem_cons, List.not_mem_nil, or_false] at hm; rcases hm with rfl | rfl | rfl <;> exact m1 (by omega) (by omega) (by omega), rfl, _, rfl, ?_⟩
 refine denR_call mv117_ok ⟨1, 0, 100, sml (by omega), sml (by omega), sml (by omega), rfl, _, rfl, ?_⟩
 refine denR_call cue116_ok ⟨[49], [mv18 1 0 100], fun m hm => by simp only [List.mem_cons, List.not_mem_nil, or_false] at hm; rcases hm with rfl; exact m1 (by omega) (by omega) (by omega), rfl, _, rfl, ?_⟩
 refine denR_call mv117_ok ⟨1, 0, 0, sml (by omega), sml (by omega), sml (by omega), rfl, _, rfl, ?_⟩
 refine denR_call mv117_ok ⟨2, 0, 50, sml (by omega), sml (by omega), sml (by omega), rfl, _, rfl, ?_⟩
 refine denR_call cue116_ok ⟨[50], [mv18 1 0 0, mv18 2 0 50], fun m hm => by simp only [List.mem_cons, List.not_mem_nil, or_false] at hm; rcases hm with rfl | rfl <;> exact m1 (by omega) (by omega) (by omega), rfl, _, rfl, ?_⟩
 refine denR_call cue116_ok ⟨[51], [], by simp, rfl, _, rfl, ?_⟩
 exact hK
def levL (es : List Ent) : List Int := es.map fun e => if e.va = hval then -1 else e.va.lev
def encI (xs : List Int) : List (List D) := xs.map fun x => [.int .i64 x]
theorem levels_ok : Contract Tryz.prog 70 fun args K => ∃ (es : List Ent), (∀ e ∈ es, e.Ok) ∧ es.length ≤ 10000 ∧ args = [.slice (es.map Ent.enc)] ∧ K [.own 1 (encI (levL es))] := by
 refine .of c70 t70_ok ?_
 rintro _ K ⟨es, hes, hlen, rfl, hK⟩ hsm
 refine ⟨[.slice (es.map Ent.enc)], rfl, ⟨ents_has hes, trivial⟩, ?_⟩
 simp only [zz, reduceCtorEq, t70, List.length_map]
 intro hcap
 refine loop_goI es (fun _ es (acc : List Int) => acc ++ levL es) (fun i acc => [.slice (encI acc), .int .i64 i]) (fun i acc => acc.length = i) [] (levL es) rfl rfl 1 (fun _ _ => rfl) rfl ?_ ?_
 · intro i hi acc hI hgo
   have hv : (es[i].va = hval) ↔ (es[i].va.pal = -1 ∧ es[i].va.lev = 0) := val_eq _ _
   have hal : (encI acc).length = i := by simp [encI, hI]
   simp only [zz, reduceCtorEq, List.length_map, hi, getD_map hi, Ent.enc]
   refine ⟨by omega, ?_⟩
   refine denR_call home15_ok ⟨rfl, _, rfl, ?_⟩
   simp only [zz, reduceCtorEq, getD_map hi, Ent.enc, hval, Val.enc, List.length_append, hal]
   refine ⟨by simp <;> omega, by simp <;> omega, acc ++ [if es[i].va = hval then -1 else es[i].va.lev], ⟨?_, by rw [wr64_eq] <;> omega⟩, by simp [hI], by simp only [levL, List.append_assoc, List.singleton_append, List.map_cons, List.map_drop] at hgo ⊢; exact hgo⟩
   by_cases h : es[i].va = hval
   · rw [if_pos h]
     have := hv.1 h
     simp [this, encI]
   · rw [if_neg h]
     have : ¬ (es[i].va.pal = -1 ∧ es[i].va.lev = 0) := fun e => h (hv.2 e)
     simp [this, encI]
 · intro acc hI hgo
   simp only [zz, reduceCtorEq, List.length_map, Nat.lt_irrefl]
   simp only [levL, List.map_nil, List.append_nil] at hgo
   rw [hgo]; exact hK
theorem eqInts_ok : Contract Tryz.prog 69 fun args K => ∃ (xs : List Int), (∀ x ∈ xs, I64 x) ∧ args = [.slice (encI xs), .slice (encI xs)] ∧ K [.d (.bool true)] := by
 refine .of c69 t69_ok ?_
 rintro _ K ⟨xs, hxs, rfl, hK⟩ hsm
 have hh : HasK (.slice [.int .i64]) (.slice (encI xs)) := slice_has fun x hx => ⟨i64_has (hxs x hx), trivial⟩
 refine ⟨[.slice (encI xs), .slice (encI xs)], rfl, ⟨hh, hh, trivial⟩, ?_⟩
 have hl : (encI xs).length = xs.length := by simp [encI]
 simp only [zz, reduceCtorEq, t69, hl]
 intro hcap _
 refine loop_go xs (fun _ _ (_ : Unit) => ()) (fun i _ => [.int .i64 i]) () () rfl 0 (fun _ _ => rfl) rfl ?_ ?_
 · intro i hi _ _
   have hget : (encI xs).getD i [] = [.int .i64 xs[i]] := getD_map (enc := fun x => [D.int .i64 x]) hi
   simp only [zz, reduceCtorEq, hl, hi, hget]
   exact ⟨by omega, (), by rw [wr64_eq (by omega)]; rfl⟩
 · intro _ _
   simp only [zz, reduceCtorEq, hl, Nat.lt_irrefl]
   exact hK
theorem awake20_ok : Contract Tryz.prog 18 fun args K => args = [] ∧ K [.d (.bool true)] := by
 refine .of c18 t18_ok ?_
 rintro _ K ⟨rfl, hK⟩ hsm
 refine ⟨[], rfl, trivial, ?_⟩
 have s : ∀ {v : Val}, SmallV v → v.Ok := fun h => h.ok
 have p : ∀ {a b : Int}, -1000 ≤ a ∧ a ≤ 1000 → -1000 ≤ b ∧ b ≤ 1000 → Par.Ok ⟨a, b⟩ := fun h1 h2 => ⟨sml h1, sml h2⟩
 have e_Ok : ∀ {a b c d : Int}, -1000 ≤ a ∧ a ≤ 1000 → -1000 ≤ b ∧ b ≤ 1000 → -1000 ≤ c ∧ c ≤ 1000 → -1000 ≤ d ∧ d ≤ 1000 → Ent.Ok ⟨⟨a, b⟩, ⟨c, d⟩⟩ := fun h1 h2 h3 h4 => ⟨p h1 h2, sml h3, sml h4⟩
 have k1 : ∀ e ∈ [e11 ⟨0, 7⟩], e.Ok := fun e he => by
   simp only [List.mem_cons, List.not_mem_nil, or_false] at he
   subst he; exact e_Ok (by omega) (by omega) (by omega) (by omega)
 have k2 : ∀ e ∈ [e10 ⟨0, 0⟩, e11 ⟨0, 7⟩, e20 ⟨0, 50⟩, e21 hval], e.Ok := fun e he => by
   simp only [List.mem_cons, List.not_mem_nil, or_false] at he
   rcases he with rfl | rfl | rfl | rfl <;> exact e_Ok (by omega) (by omega) (by omega) (by omega)
 have k3 : ∀ e ∈ [e10 ⟨0, 80⟩, e21 ⟨0, 9⟩], e.Ok := fun e he => by
   simp only [List.mem_cons, List.not_mem_nil, or_false] at he
   rcases he with rfl | rfl <;> exact e_Ok (by omega) (by omega) (by omega) (by omega)
 refine denR_call darkL_ok ⟨rfl, _, rfl, ?_⟩
 refine denR_call earlyC_ok ⟨darkL, [51], darkL_Ok, rfl, ?_⟩
 rw [dk_e]
 intro rvs hr
 refine ⟨[.slice ([e11 ⟨0, 7⟩].map Ent.enc), .int .i64 0], by rcases hr with rfl | rfl <;> rfl, ?_⟩
 refine denR_call markedC_ok ⟨darkL, [51], darkL_Ok, rfl, ?_⟩
 rw [dk_m]
 refine ⟨_, rfl, ?_⟩
 refine denR_call mstepsC_ok ⟨darkL, [52], darkL_Ok, rfl, ?_⟩
 rw [dk_s]
 intro rvs hr
 refine ⟨[.slice ([e10 ⟨0, 80⟩, e21 ⟨0, 9⟩].map Ent.enc), .int .i64 0], by rcases hr with rfl | rfl <;> rfl, ?_⟩
 refine denR_call lateC_ok ⟨darkL, [52], darkL_Ok, rfl, ?_⟩
 rw [dk_l]
 intro rvs hr
 refine ⟨[.slice ([(⟨2, 1⟩ : Par)].map Par.enc), .int .i64 0], by rcases hr with rfl | rfl <;> rfl, ?_⟩
 refine denR_gcall levels_ok true [.slice (encI [7])] (by kernel_rfl) (fun _ => ⟨[e11 ⟨0, 7⟩], k1, by simp, rfl, rfl⟩) (fun h => by cases h) ?_
 refine denR_iteT (by kernel_rfl) ?_
 refine denR_gcall eqInts_ok true [.bool true] (by kernel_rfl) (fun _ => ⟨[7], fun x hx => by simp at hx; subst hx; exact sml (by omega), rfl, rfl⟩) (fun h => by cases h) ?_
 refine denR_gcall levels_ok true [.slice (encI [0, 7, 50, -1])] (by kernel_rfl) (fun _ => ⟨[e10 ⟨0, 0⟩, e11 ⟨0, 7⟩, e20 ⟨0, 50⟩, e21 hval], k2, by simp, rfl, rfl⟩) (fun h => by cases h) ?_
 refine denR_iteT (by kernel_rfl) ?_
 refine denR_gcall eqInts_ok true [.bool true] (by kernel_rfl) (fun _ => ⟨[0, 7, 50, -1], fun x hx => by simp at hx; rcases hx with rfl | rfl | rfl | rfl <;> exact sml (by omega), rfl, rfl⟩) (fun h => by cases h) ?_
 refine denR_gcall levels_ok true [.slice (encI [80, 9])] (by kernel_rfl) (fun _ => ⟨[e10 ⟨0, 80⟩, e21 ⟨0, 9⟩], k3, by simp, rfl, rfl⟩) (fun h => by cases h) ?_
 refine denR_iteT (by kernel_rfl) ?_
 refine denR_gcall eqInts_ok true [.bool true] (by kernel_rfl) (fun _ => ⟨[80, 9], fun x hx => by simp at hx; rcases hx with rfl | rfl <;> exact sml (by omega), rfl, rfl⟩) (fun h => by cases h) ?_
 refine denR_iteT (by kernel_rfl) ?_
 refine denR_gcall samePars_ok true [.bool true] (by kernel_rfl) (fun _ => ⟨[⟨2, 1⟩], fun x hx => by simp at hx; subst hx; exact p (by omega) (by omega), rfl, rfl⟩) (fun h => by cases h) ?_
 refine denR_iteF (by kernel_rfl) ?_
 refine denR_call without17_ok ⟨darkL, [51], darkL_Ok, by simp [darkL], rfl, _, rfl, ?_⟩
 refine denR_call earlyC_ok ⟨dark3, [50], dark3_Ok, rfl, ?_⟩
 rw [dk_3]
 intro rvs hr
 refine ⟨[.slice [], .int .i64 0], by rcases hr with rfl | rfl <;> rfl, ?_⟩
 intro _
 exact hK
noncomputable def t3 : R := let x0 : T := .lcons (.var 1) (.lcons (.var 2) .lnil); let x1 : T := .o2 .eq (.var 6) (.var 8); let x2 : List K := [.int .i64, .int .i64, .int .i64, .int .i64]; let x3 : T := .o2 .eq (.var 10) (.var 12); .call none (.fn 17) [.lcons (.var 0) x0] [.cell .bool] (.fact (.ite (.o1 .not (.o1 .not (.var 4))) (.o2 .le (.o1 .len (.var 3)) (.int .i64 140737488355328)) (.bool true)) (.ite (.ite (.o1 .not (.var 4)) (.bool true) (.o2 .gt (.o1 .len (.var 3)) (.int .i64 40))) (.call none (.fn 18) [] [.cell .bool] (.ret [.d (.var 5)])) (.call none (.fn 19) [.lcons (.var 0) x0, .var 3] [.cell (.slice x2), .cell (.int .i64)] (.call none (.fn 20) [.lcons (.var 0) x0, .var 3] [.cell (.slice x2), .cell (.int .i64)] (.call none (.fn 21) [.lcons (.var 0) x0, .var 3] [.cell (.slice [.int .i64, .int .i64]), .cell (.int .i64)] (.call none (.fn 22) [.lcons (.var 0) x0, .var 3] [.cell (.slice [.int .i64, .int .i64]), .cell (.int .i64)] (.call none (.fn 23) [.var 5, .var 7] [.cell .bool] (.call (some (.ite (.var 13) x1 (.bool false))) (.fn 24) [.var 9, .var 11] [.cell .bool] (.call (some (.ite (.ite (.ite (.var 13) x1 (.bool false)) (.var 14) (.bool false)) x3 (.bool false))) (.fn 18) [] [.cell .bool] (.ret [.d (.ite (.ite (.ite (.ite (.var 13) x1 (.bool false)) (.var 14) (.bool false)) x3 (.bool false)) (.var 15) (.bool false))]))))))))))
theorem c3 : callable Tryz.prog 3 = true := by kernel_rfl
noncomputable def t4 : R := let x0 : T := .lcons (.var 1) (.lcons (.var 2) .lnil); let x1 : List K := [.int .i64, .int .i64, .int .i64, .int .i64]; let x2 : T := .o2 .eq (.var 6) (.var 8); let x3 : T := .o2 .eq (.var 10) (.var 12); .call none (.fn 17) [.lcons (.var 0) x0] [.cell .bool] (.fact (.ite (.o1 .not (.o1 .not (.var 4))) (.o2 .le (.o1 .len (.var 3)) (.int .i64 140737488355328)) (.bool true)) (.ite (.ite (.o1 .not (.var 4)) (.bool true) (.o2 .gt (.o1 .len (.var 3)) (.int .i64 40))) (.call none (.fn 18) [] [.cell .bool] (.ret [.d (.var 5)])) (.call none (.fn 25) [.lcons (.var 0) x0, .var 3] [.cell (.slice x1), .cell (.int .i64)] (.call none (.fn 26) [.lcons (.var 0) x0, .var 3] [.cell (.slice x1), .cell (.int .i64)] (.call none (.fn 27) [.lcons (.var 0) x0, .var 3] [.cell (.slice x1), .cell (.int .i64)] (.call none (.fn 28) [.lcons (.var 0) x0, .var 3] [.cell (.slice x1), .cell (.int .i64)] (.call none (.fn 23) [.var 5, .var 7] [.cell .bool] (.call (some (.ite (.var 13) x2 (.bool false))) (.fn 23) [.var 9, .var 11] [.cell .bool] (.call (some (.ite (.ite (.ite (.var 13) x2 (.bool false)) (.var 14) (.bool false)) x3 (.bool false))) (.fn 18) [] [.cell .bool] (.ret [.d (.ite (.ite (.ite (.ite (.var 13) x2 (.bool false)) (.var 14) (.bool false)) x3 (.bool false)) (.var 15) (.bool false))]))))))))))
theorem t4_ok : fnO Tryz.prog mdA 4 [.agg [.int .i64, .int .i64, .slice [.str, .str, .slice [.int .i64, .int .i64, .int .i64, .int .i64, .int .i64], .slice [.int .i64, .int .i64, .int .i64, .int .i64, .int .i64, .int .i64], .bool, .bool, .int .i64, .str, .int .i64]], .cell .str] = t4 := by kernel_rfl
theorem c4 : callable Tryz.prog 4 = true := by kernel_rfl
theorem marked_ents {l : Lis} (hl : l.Ok) (s : List UInt8) : ∀ e ∈ (markedR l s).1, e.Ok := by
 unfold markedR
 by_cases h : cue18 l s = 0
 · rw [if_neg (by simp [h])]; exact (marked_right hl (cue18_check h) _).ok
 · rw [if_pos h]; simp
theorem diffE_sub : ∀ {a b : List Ent}, ∀ e ∈ diffE a b, e ∈ b
 | [], b, e, he => by cases b <;> simp [diffE] at he
 | x :: a, [], e, he => by simp [diffE] at he
 | x :: a, y :: b, e, he => by
   simp only [diffE] at he
   split at he
   · exact List.mem_cons_of_mem _ (diffE_sub e he)
   · rcases List.mem_cons.1 he with rfl | he
     · exact List.mem_cons_self
     · exact List.mem_cons_of_mem _ (diffE_sub e he)
theorem msteps_ents {l : Lis} (hl : l.Ok) (s : List UInt8) : ∀ e ∈ (mstepsR l s).1, e.Ok := by
 unfold mstepsR
 by_cases h : cue18 l s = 0
 · rw [if_neg (by simp [h])]; exact fun e he => (marked_right hl (cue18_check h) _).ok e (diffE_sub e he)
 · rw [if_pos h]; simp
theorem law4m_typed : Contract Tryz.prog 4 fun args K => ∃ (l : Lis) (s : List UInt8), l.Ok ∧ args = [.agg l.enc, .str s] ∧ K [.d (.bool true)] := by
 refine .of c4 t4_ok ?_
 rintro _ K ⟨l, s, hl, rfl, hK⟩ hsm
 refine ⟨l.enc ++ [.str s], rfl, by exact has_s hl, ?_⟩
 refine denR_call few18_ok ⟨l, hl, by simp only [zz, reduceCtorEq, Lis.enc], fun b => ⟨[.bool b], rfl, ?_⟩⟩
 simp only [zz, reduceCtorEq, Lis.enc]
 intro _
 refine ⟨fun _ => ?_, fun _ => ?_⟩
 · refine denR_call awake20_ok ⟨rfl, _, rfl, ?_⟩
   simp only [zz, reduceCtorEq]
   exact hK
 · refine denR_call markedC_ok ⟨l, s, hl, by simp only [zz, reduceCtorEq, Lis.enc], _, rfl, ?_⟩
   refine denR_call markedS_ok ⟨l, s, hl, by simp only [zz, reduceCtorEq, Lis.enc], _, rfl, ?_⟩
   refine denR_call mstepsC_ok ⟨l, s, hl, by simp only [zz, reduceCtorEq, Lis.enc], fun rvs hr => ⟨[.slice ((mstepsR l s).1.map Ent.enc), .int .i64 (mstepsR l s).2], by rcases hr with rfl | rfl <;> rfl, ?_⟩⟩
   refine denR_call mstepsS_ok ⟨l, s, hl, by simp only [zz, reduceCtorEq, Lis.enc], _, rfl, ?_⟩
   refine denR_call sameEnts_ok ⟨(markedR l s).1, marked_ents hl s, by simp only [zz, reduceCtorEq, Lis.enc], _, rfl, ?_⟩
   refine denR_gcall sameEnts_ok true [.bool true] (by simp only [zz, reduceCtorEq] <;> simp) (fun _ => ⟨(mstepsR l s).1, msteps_ents hl s, by simp only [zz, reduceCtorEq, Lis.enc], rfl⟩) (fun h => by cases h) ?_
   refine denR_gcall awake20_ok true [.bool true] (by simp only [zz, reduceCtorEq] <;> simp) (fun _ => ⟨rfl, rfl⟩) (fun h => by cases h) ?_
   simp only [zz, reduceCtorEq]
   simpa using hK
theorem law4m : Contract Tryz.prog 4 (LawSpec Tryz.prog 4) :=
 law4m_typed.weaken fun args K _ h => by
   obtain ⟨h1, h2, hK⟩ := lawArgs [.agg liKs, .cell .str] (by kernel_rfl) h
   match args, h1 with
   | [a, b], _ =>
     obtain ⟨l, hl, rfl⟩ := Lis.ofAgg (h2 0 _ _ rfl rfl)
     obtain ⟨s, rfl⟩ := str_of (h2 1 _ _ rfl rfl)
     exact ⟨l, s, hl, rfl, hK⟩
end Go.Sx.La
