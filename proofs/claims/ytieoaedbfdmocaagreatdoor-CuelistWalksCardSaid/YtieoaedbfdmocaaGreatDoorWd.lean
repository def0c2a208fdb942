/-
  A law of layer 17 as a contract (and what it needs).
-/
import Derived.Test.YtieoaedbfdmocaaGreatDoorWc
set_option linter.unusedSimpArgs false
set_option linter.unusedVariables false
set_option linter.unusedSectionVars false
set_option linter.defProp false
set_option maxRecDepth 100000
set_option maxRecDepth 100000
namespace Go.Sx.La
open Go Go.Sx Go.RowKit Go.Proofs
noncomputable def t22 : R := .call none (.fn 17) [.lcons (.var 0) (.lcons (.var 1) (.lcons (.var 2) .lnil))] [.cell .bool] (.call (some (.var 3)) (.fn 42) [.lcons (.var 0) (.lcons (.var 1) (.lcons (.var 2) .lnil))] [.cell (.int .i64)] (.ret [.d (.ite (.var 3) (.o2 .eq (.var 4) (.int .i64 0)) (.bool false))]))
theorem t22_ok : fnO Tryz.prog mdA 22 [.agg [.int .i64, .int .i64, .slice [.str, .str, .slice [.int .i64, .int .i64, .int .i64, .int .i64, .int .i64], .slice [.int .i64, .int .i64, .int .i64, .int .i64, .int .i64, .int .i64], .bool, .bool, .int .i64, .str, .int .i64]]] = t22 := by kernel_rfl
theorem c22 : callable Tryz.prog 22 = true := by kernel_rfl
noncomputable def t26 : R := .call none (.fn 96) [.var 0, .var 1] [.cell (.int .i64)] (.ret [.d (.o2 .ge (.var 2) (.int .i64 0))])
theorem t26_ok : fnO Tryz.prog mdA 26 [.cell (.slice [.str, .str, .slice [.int .i64, .int .i64, .int .i64, .int .i64, .int .i64], .slice [.int .i64, .int .i64, .int .i64, .int .i64, .int .i64, .int .i64], .bool, .bool, .int .i64, .str, .int .i64]), .cell .fn] = t26 := by kernel_rfl
theorem c26 : callable Tryz.prog 26 = true := by kernel_rfl
noncomputable def t27 : R := .ret [.d (.o2 .eq (.var 7) (.fld (.var 9) 0 .str))]
theorem t27_ok : fnO Tryz.prog mdA 27 ([.agg [.str, .str, .slice [.int .i64, .int .i64, .int .i64, .int .i64, .int .i64], .slice [.int .i64, .int .i64, .int .i64, .int .i64, .int .i64, .int .i64], .bool, .bool, .int .i64, .str, .int .i64]] ++ [.cell (.ptr [.str])]) = t27 := by kernel_rfl
theorem c27 : callable Tryz.prog 27 = true := by kernel_rfl
noncomputable def t4 : R := .call none (.fn 22) [.lcons (.var 0) (.lcons (.var 1) (.lcons (.var 2) .lnil))] [.cell .bool] (.fact (.ite (.o1 .not (.o1 .not (.var 5))) (.o2 .le (.o1 .len (.var 3)) (.int .i64 140737488355328)) (.bool true)) (.fact (.ite (.o1 .not (.ite (.o1 .not (.var 5)) (.bool true) (.o2 .gt (.o1 .len (.var 3)) (.int .i64 40)))) (.o2 .le (.o1 .len (.var 4)) (.int .i64 140737488355328)) (.bool true)) (.call (some (.o1 .not (.ite (.ite (.o1 .not (.var 5)) (.bool true) (.o2 .gt (.o1 .len (.var 3)) (.int .i64 40))) (.bool true) (.o2 .gt (.o1 .len (.var 4)) (.int .i64 40))))) (.fn 23) [.var 3] [.cell (.int .i64)] (.call (some (.o1 .not (.ite (.ite (.ite (.o1 .not (.var 5)) (.bool true) (.o2 .gt (.o1 .len (.var 3)) (.int .i64 40))) (.bool true) (.o2 .gt (.o1 .len (.var 4)) (.int .i64 40))) (.bool true) (.o2 .ne (.var 6) (.int .i64 0))))) (.fn 23) [.var 4] [.cell (.int .i64)] (.ite (.ite (.ite (.ite (.ite (.o1 .not (.var 5)) (.bool true) (.o2 .gt (.o1 .len (.var 3)) (.int .i64 40))) (.bool true) (.o2 .gt (.o1 .len (.var 4)) (.int .i64 40))) (.bool true) (.o2 .ne (.var 6) (.int .i64 0))) (.bool true) (.o2 .ne (.var 7) (.int .i64 0))) (.call none (.fn 18) [] [.cell .bool] (.ret [.d (.var 8)])) (.call none (.fn 19) [.lcons (.var 0) (.lcons (.var 1) (.lcons (.var 2) .lnil)), .var 3, .var 4] [.agg [.int .i64, .int .i64, .slice [.str, .str, .slice [.int .i64, .int .i64, .int .i64, .int .i64, .int .i64], .slice [.int .i64, .int .i64, .int .i64, .int .i64, .int .i64, .int .i64], .bool, .bool, .int .i64, .str, .int .i64]], .cell (.int .i64)] (.ite (.o2 .ne (.var 11) (.int .i64 0)) (.call (some (.ite (.o2 .eq (.var 11) (.int .i64 6)) (.bool true) (.o2 .eq (.var 11) (.int .i64 7)))) (.fn 18) [] [.cell .bool] (.ret [.d (.ite (.ite (.o2 .eq (.var 11) (.int .i64 6)) (.bool true) (.o2 .eq (.var 11) (.int .i64 7))) (.var 12) (.bool false))])) (.call none (.fn 24) [.lcons (.var 0) (.lcons (.var 1) (.lcons (.var 2) .lnil))] [.cell (.slice [.str]), .cell (.int .i64)] (.call none (.fn 24) [.lcons (.var 8) (.lcons (.var 9) (.lcons (.var 10) .lnil))] [.cell (.slice [.str]), .cell (.int .i64)] (.fact (.ite (.o1 .not (.ite (.o2 .ne (.var 13) (.int .i64 0)) (.bool true) (.o2 .ne (.var 15) (.int .i64 0)))) (.o2 .le (.o1 .len (.var 14)) (.int .i64 140737488355328)) (.bool true)) (.fact (.ite (.o1 .not (.ite (.o2 .ne (.var 13) (.int .i64 0)) (.bool true) (.o2 .ne (.var 15) (.int .i64 0)))) (.o2 .le (.o1 .len (.var 12)) (.int .i64 140737488355328)) (.bool true)) (.call (some (.o1 .not (.ite (.ite (.o2 .ne (.var 13) (.int .i64 0)) (.bool true) (.o2 .ne (.var 15) (.int .i64 0))) (.bool true) (.o2 .gt (.o1 .len (.var 14)) (.o1 .len (.var 12)))))) (.fn 25) [.lcons (.var 8) (.lcons (.var 9) (.lcons (.var 10) .lnil))] [.cell (.int .i64)] (.fact (.ite (.o1 .not (.ite (.ite (.ite (.o2 .ne (.var 13) (.int .i64 0)) (.bool true) (.o2 .ne (.var 15) (.int .i64 0))) (.bool true) (.o2 .gt (.o1 .len (.var 14)) (.o1 .len (.var 12)))) (.bool true) (.o2 .ne (.var 16) (.int .i64 0)))) (.o2 .le (.o1 .len (.var 10)) (.int .i64 140737488355328)) (.bool true)) (.fact (.ite (.o1 .not (.ite (.ite (.ite (.o2 .ne (.var 13) (.int .i64 0)) (.bool true) (.o2 .ne (.var 15) (.int .i64 0))) (.bool true) (.o2 .gt (.o1 .len (.var 14)) (.o1 .len (.var 12)))) (.bool true) (.o2 .ne (.var 16) (.int .i64 0)))) (.o2 .le (.o1 .len (.var 2)) (.int .i64 140737488355328)) (.bool true)) (.ite (.ite (.ite (.ite (.ite (.o2 .ne (.var 13) (.int .i64 0)) (.bool true) (.o2 .ne (.var 15) (.int .i64 0))) (.bool true) (.o2 .gt (.o1 .len (.var 14)) (.o1 .len (.var 12)))) (.bool true) (.o2 .ne (.var 16) (.int .i64 0))) (.bool true) (.o2 .ne (.o1 .len (.var 10)) (.o1 .len (.var 2)))) (.ret [.d (.bool false)]) (.call none (.fn 26) [.var 2, .clo 27 (.lcons (.ptr (.lcons (.var 4) .lnil)) .lnil)] [.cell .bool] (.ite (.var 17) (.call none (.fn 18) [] [.cell .bool] (.ret [.d (.var 18)])) (.call none (.fn 19) [.lcons (.var 8) (.lcons (.var 9) (.lcons (.var 10) .lnil)), .var 4, .var 3] [.agg [.int .i64, .int .i64, .slice [.str, .str, .slice [.int .i64, .int .i64, .int .i64, .int .i64, .int .i64], .slice [.int .i64, .int .i64, .int .i64, .int .i64, .int .i64, .int .i64], .bool, .bool, .int .i64, .str, .int .i64]], .cell (.int .i64)] (.call (some (.o2 .eq (.var 21) (.int .i64 0))) (.fn 21) [.lcons (.var 18) (.lcons (.var 19) (.lcons (.var 20) .lnil)), .lcons (.var 0) (.lcons (.var 1) (.lcons (.var 2) .lnil))] [.cell .bool] (.call (some (.ite (.o2 .eq (.var 21) (.int .i64 0)) (.var 22) (.bool false))) (.fn 18) [] [.cell .bool] (.ret [.d (.ite (.ite (.o2 .eq (.var 21) (.int .i64 0)) (.var 22) (.bool false)) (.var 23) (.bool false))])))))))))))))))))))))
theorem t4_ok : fnO Tryz.prog mdA 4 [.agg [.int .i64, .int .i64, .slice [.str, .str, .slice [.int .i64, .int .i64, .int .i64, .int .i64, .int .i64], .slice [.int .i64, .int .i64, .int .i64, .int .i64, .int .i64, .int .i64], .bool, .bool, .int .i64, .str, .int .i64]], .cell .str, .cell .str] = t4 := by kernel_rfl
theorem c4 : callable Tryz.prog 4 = true := by kernel_rfl
/-! ### a new number and back -/
theorem renumbered_perm {cs : List Cue} {f t : List UInt8} {j : Nat} (hr : Rising cs) (hn : ∀ c ∈ cs, check05 c.num = 0) (ht : check05 t = 0) (hj : j < cs.length) (hf : (cs[j]).num = f) (hp : place cs f = j) (hft : f = t ∨ ∀ c ∈ cs, c.num ≠ t) :
    (renumbered cs f t).Perm (renum t (relink f t cs[j]) :: (cs.take j ++ cs.drop (j + 1)).map (relink f t)) ∧ Rising (renumbered cs f t) := by
  have hr' := rising_map (g := relink f t) (fun _ => rfl) hr
  have hj' : j < (cs.map (relink f t)).length := by simpa using hj
  have e1 : (cs.map (relink f t))[(place cs f).toNat]! = relink f t cs[j] := by
    rw [hp, Int.toNat_natCast, getElem!_pos _ j hj', List.getElem_map]
  have e2 := without_at hr' hj' (f := f) (by rw [List.getElem_map]; exact hf)
  have hw : Rising (without (cs.map (relink f t)) f) := List.Pairwise.filter _ hr'
  have hne : ∀ x ∈ without (cs.map (relink f t)) f, valOf x ≠ valOf (renum t (relink f t cs[j])) := by
    intro x hx
    obtain ⟨hx1, hx2⟩ := List.mem_filter.1 hx
    obtain ⟨y, hy, rfl⟩ := List.mem_map.1 hx1
    show value05 y.num ≠ value05 t
    intro e
    have e' := value05_inj (hn y hy) ht e
    rcases hft with rfl | h
    · have : y.num ≠ f := by simpa [relink] using hx2
      exact this e'
    · exact h y hy e'
  unfold renumbered
  rw [e1, placed_ins hw hne]
  refine ⟨?_, ins_rising hw hne⟩
  rw [List.map_append, List.map_take, List.map_drop, ← e2]
  exact ins_perm _ _
theorem empty_num : check05 [] ≠ 0 := by
  have : check05 [] = 3 := by kernel_rfl
  rw [this]; decide
theorem check16_renum {c : Cue} {t : List UInt8} (h : check16 c = 0) (ht : check05 t = 0) : check16 (renum t c) = 0 := by
  have e : check16 (renum t c) = if check05 t ≠ 0 then check05 t else if label16 c.label ≠ 0 then label16 c.label else if moves16 c.moves ≠ 0 then moves16 c.moves else if parts16 c.parts ≠ 0 then parts16 c.parts else if partIn c.parts.length c.moves = false then 6 else next16 c := rfl
  rw [e, if_neg (by simp [ht])]
  unfold check16 at h
  split at h
  · rename_i h1; exact absurd h h1
  · exact h
theorem check16_relink {c : Cue} {f t : List UInt8} (h : check16 c = 0) (hf : check05 f = 0) (ht : check05 t = 0) : check16 (relink f t c) = 0 := by
  by_cases hl : c.link = f
  · have hf0 : f ≠ [] := by rintro rfl; exact empty_num hf
    have ht0 : t ≠ [] := by rintro rfl; exact empty_num ht
    simp only [check16, relink, next16, hl, if_true] at h ⊢
    simp only [hf, ht, hf0, ht0, ne_eq, not_true_eq_false, not_false_eq_true, and_false, if_false] at h ⊢
    exact h
  · have : relink f t c = c := by simp [relink, hl]
    rw [this]; exact h
theorem checkL_of {l : Lis} (h0 : ¬ (l.num < 1 ∨ 1048576 < l.num ∨ l.prio < 0 ∨ 9 < l.prio)) (h1 : l.cues.length ≤ 64) (h2 : ∀ c ∈ l.cues, check16 c = 0) (h3 : Rising l.cues) : checkL order05 l = 0 := by
  have key : ∀ (cs : List Cue) (i : Nat), cs = l.cues.drop i → cuesGo order05 l.cues i cs = 0 := by
    intro cs
    induction cs with
    | nil => intro i _; rfl
    | cons c cs ih =>
      intro i he
      have hlt : i < l.cues.length := by
        rcases Nat.lt_or_ge i l.cues.length with h | h
        · exact h
        · rw [List.drop_eq_nil_of_le h] at he; cases he
      rw [List.drop_eq_getElem_cons hlt] at he
      obtain ⟨rfl, rfl⟩ := List.cons.inj he
      simp only [cuesGo]
      rw [if_neg (by simp [h2 _ (List.getElem_mem hlt)]), if_neg ?_]
      · exact ih (i + 1) rfl
      · rintro ⟨hi, ho⟩
        rw [getElem!_pos l.cues (i - 1) (by omega)] at ho
        rw [Rising, List.pairwise_iff_getElem] at h3
        have := h3 (i - 1) i (by omega) hlt (by omega)
        have := (order_neg _ _).2 this
        omega
  simp only [checkL]
  rw [if_neg h0, if_neg (by omega)]
  exact key l.cues 0 rfl
theorem head_of {l : Lis} (h : checkL order05 l = 0) : ¬ (l.num < 1 ∨ 1048576 < l.num ∨ l.prio < 0 ∨ 9 < l.prio) := by
  simp only [checkL] at h
  split at h
  · cases h
  · assumption
/-- what a list with a new number is -/
structure Renumd (l : Lis) (f t : List UInt8) : Prop where
  right : checkL order05 { l with cues := renumbered l.cues f t } = 0
  len : (renumbered l.cues f t).length = l.cues.length
  opens : (openL (renumbered l.cues f t)).length ≤ (openL l.cues).length
  back : f ≠ t → (∀ c ∈ l.cues, c.link ≠ t) → renumRef { l with cues := renumbered l.cues f t } t f = (l, 0)
theorem renumd {l : Lis} {f t : List UInt8} (h : checkL order05 l = 0) (hcf : check05 f = 0) (hct : check05 t = 0) (hpl : ¬ place l.cues f < 0) (hft : f = t ∨ place l.cues t < 0) : Renumd l f t := by
  have hR := rightL_of h
  obtain ⟨j, hj, hp, hf, _⟩ := place_pos hpl
  have hft' : f = t ∨ ∀ c ∈ l.cues, c.num ≠ t := hft.imp id fun h => place_neg.1 h
  obtain ⟨hperm, hris⟩ := renumbered_perm hR.rising hR.num hct hj hf hp hft'
  generalize hM : renumbered l.cues f t = M at hperm hris
  have hsub : ∀ x ∈ l.cues.take j ++ l.cues.drop (j + 1), x ∈ l.cues := fun x hx => by
    rcases List.mem_append.1 hx with hx | hx
    · exact List.mem_of_mem_take hx
    · exact List.mem_of_mem_drop hx
  have hin : ∀ x ∈ M, x = renum t (relink f t l.cues[j]) ∨ ∃ y ∈ l.cues.take j ++ l.cues.drop (j + 1), x = relink f t y := by
    intro x hx
    rcases List.mem_cons.1 (hperm.mem_iff.1 hx) with h | h
    · exact .inl h
    · obtain ⟨y, hy, rfl⟩ := List.mem_map.1 h
      exact .inr ⟨y, hy, rfl⟩
  have hchk : ∀ x ∈ M, check16 x = 0 := by
    intro x hx
    rcases hin x hx with rfl | ⟨y, hy, rfl⟩
    · exact check16_renum (check16_relink (hR.cues _ (List.getElem_mem hj)) hcf hct) hct
    · exact check16_relink (hR.cues _ (hsub y hy)) hcf hct
  have hlen : M.length = l.cues.length := by
    have := hperm.length_eq
    simp at this
    omega
  have hlen64 := hR.len
  have hright : checkL order05 { l with cues := M } = 0 := checkL_of (l := { l with cues := M }) (by have h9 := head_of (l := l) h; exact h9) (by show M.length ≤ 64; omega) hchk hris
  have hcs : l.cues = l.cues.take j ++ l.cues[j] :: l.cues.drop (j + 1) := split_at hj
  refine ⟨by rw [hM]; exact hright, by rw [hM]; exact hlen, ?_, ?_⟩
  · rw [hM]
    have hcount : (openL M).length = ((l.cues[j] :: (l.cues.take j ++ l.cues.drop (j + 1))).filter fun c => openAt M (relink f t c)).length := by
      simp only [openL, List.length_map]
      rw [(hperm.filter _).length_eq]
      simp only [List.filter_cons, List.filter_map]
      have e : openAt M (renum t (relink f t l.cues[j])) = openAt M (relink f t l.cues[j]) := rfl
      rw [e]
      split <;> simp [Function.comp_def]
    have hcount2 : (openL l.cues).length = ((l.cues[j] :: (l.cues.take j ++ l.cues.drop (j + 1))).filter fun c => openAt l.cues c).length := by
      simp only [openL, List.length_map]
      have hpm : l.cues.Perm (l.cues[j] :: (l.cues.take j ++ l.cues.drop (j + 1))) := by
        conv => lhs; rw [hcs]
        exact List.perm_middle
      rw [(hpm.filter _).length_eq]
    rw [hcount, hcount2]
    have himp : ∀ c, openAt M (relink f t c) = true → openAt l.cues c = true := by
      intro c hc
      simp only [openAt, Bool.and_eq_true, Bool.not_eq_true', decide_eq_true_eq] at hc ⊢
      obtain ⟨hc1, hc2⟩ := hc
      rw [place_neg] at hc2
      by_cases hl : c.link = f
      · exfalso
        have : relink f t c = { c with link := t } := by simp [relink, hl]
        rw [this] at hc2
        exact hc2 (renum t (relink f t l.cues[j])) (hperm.mem_iff.2 (by simp)) rfl
      · have : relink f t c = c := by simp [relink, hl]
        rw [this] at hc1 hc2
        refine ⟨hc1, place_neg.2 fun d hd e => ?_⟩
        rw [hcs] at hd
        rcases List.mem_append.1 hd with hd | hd
        · exact hc2 (relink f t d) (hperm.mem_iff.2 (List.mem_cons_of_mem _ (List.mem_map.2 ⟨d, by simp [hd], rfl⟩))) e
        · rcases List.mem_cons.1 hd with rfl | hd
          · exact hl (by rw [← e, hf])
          · exact hc2 (relink f t d) (hperm.mem_iff.2 (List.mem_cons_of_mem _ (List.mem_map.2 ⟨d, by simp [hd], rfl⟩))) e
    have filt : ∀ (xs : List Cue), (xs.filter fun c => openAt M (relink f t c)).length ≤ (xs.filter fun c => openAt l.cues c).length := by
      intro xs
      induction xs with
      | nil => simp
      | cons x xs ih =>
        simp only [List.filter_cons]
        by_cases h1 : openAt M (relink f t x) = true
        · rw [if_pos h1, if_pos (himp x h1)]; simpa using ih
        · rw [if_neg h1]
          split
          · simp only [List.length_cons]; omega
          · exact ih
    exact filt _
  · intro hne hlinks
    rw [hM]
    have hto : ∀ c ∈ l.cues, c.num ≠ t := hft'.resolve_left hne
    have hc' : renum t (relink f t l.cues[j]) ∈ M := hperm.mem_iff.2 (by simp)
    have hpt : ¬ place M t < 0 := fun h => place_neg.1 h _ hc' rfl
    have hpf : place M f < 0 := place_neg.2 fun x hx e => by
      rcases hin x hx with rfl | ⟨y, hy, rfl⟩
      · exact hne e.symm
      · have hv : valOf y ≠ valOf l.cues[j] := by
          rcases List.mem_append.1 hy with hy | hy
          · obtain ⟨i, hi, rfl⟩ := List.mem_iff_getElem.1 hy
            rw [List.length_take] at hi
            rw [List.getElem_take]
            exact rising_ne hR.rising (by omega) hj (by omega)
          · obtain ⟨i, hi, rfl⟩ := List.mem_iff_getElem.1 hy
            rw [List.length_drop] at hi
            rw [List.getElem_drop]
            exact rising_ne hR.rising (by omega) hj (by omega)
        have e' : y.num = f := e
        exact hv (by simp [valOf, e', hf])
    obtain ⟨k, hk, hpk, hkt, _⟩ := place_pos hpt
    have hMk : M[k] = renum t (relink f t l.cues[j]) := by
      rcases hin _ (List.getElem_mem hk) with h | ⟨y, hy, h⟩
      · exact h
      · exfalso
        rw [h] at hkt
        exact hto y (hsub y hy) hkt
    have hrest : (M.take k ++ M.drop (k + 1)).Perm ((l.cues.take j ++ l.cues.drop (j + 1)).map (relink f t)) := by
      have h1 : M.Perm (M[k] :: (M.take k ++ M.drop (k + 1))) := by
        conv => lhs; rw [split_at hk]
        exact List.perm_middle
      have h2 := h1.symm.trans hperm
      rw [hMk] at h2
      exact List.Perm.cons_inv h2
    have hundo : ∀ y ∈ l.cues, relink t f (relink f t y) = y := by
      intro y hy
      have h1 := hlinks y hy
      by_cases h2 : y.link = f
      · simp only [relink, h2, if_true]; rw [← h2]
      · simp [relink, h2, h1]
    have hfinal : l.cues = renumbered M t f := by
      refine renumbered_eq hris (fun c hc => check16_num (hchk c hc)) hcf hk hkt hpk (.inr fun c hc => place_neg.1 hpf c hc) ?_ (hR.rising.imp fun {a b} h => Int.le_of_lt h)
      rw [modify_at hk, List.map_append, List.map_cons, hMk]
      have e1 : relink t f (renum f (renum t (relink f t l.cues[j]))) = l.cues[j] := by
        have e2 : renum f (renum t (relink f t l.cues[j])) = relink f t l.cues[j] := by
          show ({ (relink f t l.cues[j]) with num := f } : Cue) = _
          rw [← hf]; rfl
        rw [e2]; exact hundo _ (List.getElem_mem hj)
      rw [e1]
      refine List.Perm.trans ?_ (List.perm_middle).symm
      rw [← List.map_append]
      have h3 := hrest.map (relink t f)
      rw [List.map_map] at h3
      have h4 : (l.cues.take j ++ l.cues.drop (j + 1)).map (relink t f ∘ relink f t) = l.cues.take j ++ l.cues.drop (j + 1) := by
        conv => rhs; rw [← List.map_id (l.cues.take j ++ l.cues.drop (j + 1))]
        exact List.map_congr_left fun y hy => hundo y (hsub y hy)
      rw [h4] at h3
      have h5 : l.cues.Perm (l.cues[j] :: (l.cues.take j ++ l.cues.drop (j + 1))) := by
        conv => lhs; rw [hcs]
        exact List.perm_middle
      exact h5.trans (h3.symm.cons _)
    have hg : given17 { l with cues := M } t = 0 := given_zero hright hct
    unfold renumRef
    rw [if_neg (by simp [hg]), if_neg (by simp [hcf]), if_neg hpt, if_neg (fun h => by have h9 : (0 : Int) ≤ place M f := h.2; omega)]
    simp only [← hfinal]
theorem has_enc_fn {cs : List Cue} (h : ∀ c ∈ cs, c.Ok) {f : FuncId} {caps : List D} : HasKs [.slice cueKs, .fn] [.slice (cs.map Cue.enc), .clo f caps] := ⟨cues_has h, trivial, trivial⟩
def good (l : Lis) : Bool := if few17 l then decide (checkL order05 l = 0) else false
theorem good_ok : Contract Tryz.prog 22 fun args K => ∃ (l : Lis), l.Ok ∧ args = [.agg l.enc] ∧ K [.d (.bool (good l))] := by
  refine .of c22 t22_ok ?_
  rintro _ K ⟨l, hl, rfl, hK⟩ hsm
  refine ⟨l.enc, rfl, Lis.has hl, ?_⟩
  refine denR_call few17_ok ⟨l, hl, rfl, _, rfl, ?_⟩
  refine denR_gcall check17_ok (few17 l) [.int .i64 (if few17 l then checkL order05 l else 0)] ?_ (fun h => ⟨l, hl, rfl, by rw [if_pos h]; rfl⟩) (fun h => by rw [h]; rfl) ?_
  · simp only [zz, RT.den, den, O1.eval, O2.eval, D.eqb, Ags.none, reduceCtorEq, forall_const, if_true, if_false, ite_true, ite_false, D.sub, D.cell, D.elem, D.cells, D.padd, D.list, D.push, Lis.enc]
  simp only [good] at hK
  simp only [zz, RT.den, den, O1.eval, O2.eval, D.eqb, Ags.none, reduceCtorEq, forall_const, if_true, if_false, ite_true, ite_false, D.sub, D.cell, D.elem, D.cells, D.padd, D.list, D.push, Lis.enc]
  cases h : few17 l <;> simpa [h] using hK
theorem containsCue_ok : Contract Tryz.prog 26 fun args K => ∃ (l : List Cue) (p : Cue → Bool) (f : FuncId) (caps : List D), (∀ m ∈ l, m.Ok) ∧ args = [.slice (l.map Cue.enc), .clo f caps] ∧ SaysOf Tryz.prog (.clo f caps) Cue.enc l p ∧ K [.d (.bool (l.any p))] := by
  refine .of c26 t26_ok ?_
  rintro _ K ⟨l, p, f, caps, hl, rfl, hs, hK⟩ hsm
  refine ⟨[.slice (l.map Cue.enc), .clo f caps], rfl, has_enc_fn hl, ?_⟩
  refine denR_call indexCue_ok ⟨l, p, f, caps, hl, rfl, hs, _, rfl, ?_⟩
  have key : ∀ (xs : List Cue) (i : Nat), decide (0 ≤ idxGo p i xs) = xs.any p := by
    intro xs
    induction xs with
    | nil => intro i; simp [idxGo]
    | cons x xs ih =>
      intro i
      simp only [idxGo, List.any_cons]
      by_cases hx : p x = true
      · simp [hx]
      · simp only [hx, if_false, Bool.false_or]; simpa [hx] using ih (i + 1)
  simp only [zz, RT.den, den, O1.eval, O2.eval, D.eqb, Ags.none, reduceCtorEq, forall_const, if_true, if_false, ite_true, ite_false, D.sub, D.cell, D.elem, D.cells, D.padd, D.list, D.push]
  rw [key]
  exact hK
theorem linksTo_ok : Contract Tryz.prog 27 fun args K => ∃ (c : Cue) (s : List UInt8), c.Ok ∧ args = [.agg c.enc, .ptr [.str s]] ∧ K [.d (.bool (c.link == s))] := by
  refine .of c27 t27_ok ?_
  rintro _ K ⟨c, s, hc, rfl, hK⟩ hsm
  refine ⟨c.enc ++ [.ptr [.str s]], rfl, by exact (Cue.has hc).append (show HasKs [.ptr [.str]] [.ptr [.str s]] from ⟨⟨trivial, trivial⟩, trivial⟩), ?_⟩
  simp only [zz, RT.den, den, O1.eval, O2.eval, D.eqb, Ags.none, reduceCtorEq, forall_const, if_true, if_false, ite_true, ite_false, D.sub, D.cell, D.elem, D.cells, D.padd, D.list, D.push, t27, Cue.enc]
  exact hK
theorem linksTo_says (l : List Cue) (hl : ∀ c ∈ l, c.Ok) (s : List UInt8) : SaysOf Tryz.prog (.clo 27 [.ptr [.str s]]) Cue.enc l (fun c => c.link == s) := by
  refine ⟨fun as_ K => ∃ c : Cue, c.Ok ∧ as_ = [.agg c.enc] ∧ K [.d (.bool (c.link == s))], FvC.of c27 linksTo_ok ?_, fun c hc => ⟨c, hl c hc, rfl, rfl⟩⟩
  rintro _ K ⟨c, hc, rfl, hK⟩
  refine ⟨⟨c, s, hc, rfl, hK⟩, argsTyped_of [some (.agg cueKs)] (by kernel_rfl) ?_⟩
  intro i rk d h1 h2
  cases i with
  | zero => simp at h1 h2; subst h1 h2; exact Cue.has hc
  | succ i => simp at h1
/-! ### CuelistReturns -/
theorem law4_typed : Contract Tryz.prog 4 fun args K => ∃ (l : Lis) (f t : List UInt8), l.Ok ∧ args = [.agg l.enc, .str f, .str t] ∧ K [.d (.bool true)] := by
  refine .of c4 t4_ok ?_
  rintro _ K ⟨l, f, t, hl, rfl, hK⟩ hsm
  refine ⟨l.enc ++ [.str f, .str t], rfl, by exact has_ss hl, ?_⟩
  refine denR_call good_ok ⟨l, hl, rfl, _, rfl, ?_⟩
  simp only [zz, RT.den, den, O1.eval, O2.eval, D.eqb, Ags.none, reduceCtorEq, forall_const, if_true, if_false, ite_true, ite_false, D.sub, D.cell, D.elem, D.cells, D.padd, D.list, D.push, Lis.enc]
  intro _ _
  have haw : ∀ (F : Option Nat → List RV → Prop) (ags : Ags) (ρ : List D), (F ags.cnt [.d (.bool true)]) → ∀ n, ρ.length = n → denR Tryz.prog F noK (.call none (.fn 18) [] [.cell .bool] (.ret [.d (.var n)])) ags ρ := by
    intro F ags ρ hF n hn
    refine denR_call awake_ok ⟨rfl, _, rfl, ?_⟩
    simp only [denR_ret, List.map_cons, List.map_nil, RT.den, den, List.append_nil]
    rw [show (ρ ++ [D.bool true]).getD n (.bool false) = .bool true by rw [← hn]; simp [List.getD_eq_getElem?_getD]]
    exact hF
  by_cases h0 : good l = true ∧ f.length ≤ 40 ∧ t.length ≤ 40
  rotate_left
  · have hc : ∀ x : Prop, (good l = false ∨ 40 < f.length) ∨ 40 < t.length := fun _ => by grind
    refine denR_gcall check05_ok false [.int .i64 0] ?_ (fun h => by cases h) (fun _ => rfl) ?_
    · simp only [zz, RT.den, den, O1.eval, O2.eval, D.eqb, Ags.none, reduceCtorEq, forall_const, if_true, if_false, ite_true, ite_false, D.sub, D.cell, D.elem, D.cells, D.padd, D.list, D.push]; grind
    refine denR_gcall check05_ok false [.int .i64 0] ?_ (fun h => by cases h) (fun _ => rfl) ?_
    · simp only [zz, RT.den, den, O1.eval, O2.eval, D.eqb, Ags.none, reduceCtorEq, forall_const, if_true, if_false, ite_true, ite_false, D.sub, D.cell, D.elem, D.cells, D.padd, D.list, D.push]; grind
    refine denR_iteT ?_ (haw _ _ _ hK _ rfl)
    simp only [zz, RT.den, den, O1.eval, O2.eval, D.eqb, Ags.none, reduceCtorEq, forall_const, if_true, if_false, ite_true, ite_false, D.sub, D.cell, D.elem, D.cells, D.padd, D.list, D.push]; grind
  obtain ⟨hg, hlf, hlt⟩ := h0
  have hg0 : checkL order05 l = 0 := by
    unfold good at hg
    split at hg
    · simpa using hg
    · cases hg
  refine denR_gcall check05_ok true [.int .i64 (check05 f)] ?_ (fun _ => ⟨f, rfl, rfl⟩) (fun h => by cases h) ?_
  · simp only [zz, RT.den, den, O1.eval, O2.eval, D.eqb, Ags.none, reduceCtorEq, forall_const, if_true, if_false, ite_true, ite_false, D.sub, D.cell, D.elem, D.cells, D.padd, D.list, D.push, hg]; grind
  by_cases hcf : check05 f = 0
  rotate_left
  · refine denR_gcall check05_ok false [.int .i64 0] ?_ (fun h => by cases h) (fun _ => rfl) ?_
    · simp only [zz, RT.den, den, O1.eval, O2.eval, D.eqb, Ags.none, reduceCtorEq, forall_const, if_true, if_false, ite_true, ite_false, D.sub, D.cell, D.elem, D.cells, D.padd, D.list, D.push]; grind
    refine denR_iteT ?_ (haw _ _ _ hK _ rfl)
    simp only [zz, RT.den, den, O1.eval, O2.eval, D.eqb, Ags.none, reduceCtorEq, forall_const, if_true, if_false, ite_true, ite_false, D.sub, D.cell, D.elem, D.cells, D.padd, D.list, D.push]; grind
  refine denR_gcall check05_ok true [.int .i64 (check05 t)] ?_ (fun _ => ⟨t, rfl, rfl⟩) (fun h => by cases h) ?_
  · simp only [zz, RT.den, den, O1.eval, O2.eval, D.eqb, Ags.none, reduceCtorEq, forall_const, if_true, if_false, ite_true, ite_false, D.sub, D.cell, D.elem, D.cells, D.padd, D.list, D.push, hg]; grind
  by_cases hct : check05 t = 0
  rotate_left
  · refine denR_iteT ?_ (haw _ _ _ hK _ rfl)
    simp only [zz, RT.den, den, O1.eval, O2.eval, D.eqb, Ags.none, reduceCtorEq, forall_const, if_true, if_false, ite_true, ite_false, D.sub, D.cell, D.elem, D.cells, D.padd, D.list, D.push]; grind
  refine denR_iteF ?_ ?_
  · simp only [zz, RT.den, den, O1.eval, O2.eval, D.eqb, Ags.none, reduceCtorEq, forall_const, if_true, if_false, ite_true, ite_false, D.sub, D.cell, D.elem, D.cells, D.padd, D.list, D.push, hg, hcf, hct]; grind
  have hgf := given_zero hg0 hcf
  have ho := renumRef_Ok hl f t
  refine denR_call renumber_ok ⟨l, f, t, hl, rfl, _, rfl, ?_⟩
  by_cases hpl : place l.cues f < 0
  · have e : renumRef l f t = (zeroL, 6) := by simp [renumRef, hgf, hct, hpl]
    rw [e]
    refine denR_iteT (by simp only [zz, RT.den, den, O1.eval, O2.eval, D.eqb, Ags.none, reduceCtorEq, forall_const, if_true, if_false, ite_true, ite_false, D.sub, D.cell, D.elem, D.cells, D.padd, D.list, D.push]; decide) ?_
    refine denR_gcall awake_ok true [.bool true] (by simp only [zz, RT.den, den, O1.eval, O2.eval, D.eqb, Ags.none, reduceCtorEq, forall_const, if_true, if_false, ite_true, ite_false, D.sub, D.cell, D.elem, D.cells, D.padd, D.list, D.push]; decide) (fun _ => ⟨rfl, rfl⟩) (fun h => by cases h) ?_
    simp only [zz, RT.den, den, O1.eval, O2.eval, D.eqb, Ags.none, reduceCtorEq, forall_const, if_true, if_false, ite_true, ite_false, D.sub, D.cell, D.elem, D.cells, D.padd, D.list, D.push]
    exact hK
  by_cases htw : f ≠ t ∧ 0 ≤ place l.cues t
  · have e : renumRef l f t = (zeroL, 7) := by
      unfold renumRef
      rw [if_neg (by simp [hgf]), if_neg (by simp [hct]), if_neg hpl, if_pos htw]
    rw [e]
    refine denR_iteT (by simp only [zz, RT.den, den, O1.eval, O2.eval, D.eqb, Ags.none, reduceCtorEq, forall_const, if_true, if_false, ite_true, ite_false, D.sub, D.cell, D.elem, D.cells, D.padd, D.list, D.push]; decide) ?_
    refine denR_gcall awake_ok true [.bool true] (by simp only [zz, RT.den, den, O1.eval, O2.eval, D.eqb, Ags.none, reduceCtorEq, forall_const, if_true, if_false, ite_true, ite_false, D.sub, D.cell, D.elem, D.cells, D.padd, D.list, D.push]; decide) (fun _ => ⟨rfl, rfl⟩) (fun h => by cases h) ?_
    simp only [zz, RT.den, den, O1.eval, O2.eval, D.eqb, Ags.none, reduceCtorEq, forall_const, if_true, if_false, ite_true, ite_false, D.sub, D.cell, D.elem, D.cells, D.padd, D.list, D.push]
    exact hK
  have e : renumRef l f t = ({ l with cues := renumbered l.cues f t }, 0) := by
    unfold renumRef
    rw [if_neg (by simp [hgf]), if_neg (by simp [hct]), if_neg hpl, if_neg htw]
  rw [e] at ho ⊢
  have hft : f = t ∨ place l.cues t < 0 := by
    by_cases h : f = t
    · exact .inl h
    · refine .inr ?_
      have : ¬ 0 ≤ place l.cues t := fun h' => htw ⟨h, h'⟩
      omega
  have hN := renumd hg0 hcf hct hpl hft
  generalize hM : ({ l with cues := renumbered l.cues f t } : Lis) = M at ho ⊢
  have hMc : M.cues = renumbered l.cues f t := by rw [← hM]
  have hMr : checkL order05 M = 0 := by rw [← hM]; exact hN.right
  have hMl : M.cues.length = l.cues.length := by rw [hMc]; exact hN.len
  have hMo : (openL M.cues).length ≤ (openL l.cues).length := by rw [hMc]; exact hN.opens
  refine denR_iteF (by simp only [zz, RT.den, den, O1.eval, O2.eval, D.eqb, Ags.none, reduceCtorEq, forall_const, if_true, if_false, ite_true, ite_false, D.sub, D.cell, D.elem, D.cells, D.padd, D.list, D.push, Lis.enc]; first | done | decide) ?_
  refine denR_call openR_ok ⟨l, hl, rfl, _, rfl, ?_⟩
  refine denR_call openR_ok ⟨M, ho, rfl, _, rfl, ?_⟩
  have eL : openR l = (openL l.cues, 0) := by simp [openR, hg0]
  have eM : openR M = (openL M.cues, 0) := by simp [openR, hMr]
  rw [eL, eM]
  simp only [zz, RT.den, den, O1.eval, O2.eval, D.eqb, Ags.none, reduceCtorEq, forall_const, if_true, if_false, ite_true, ite_false, D.sub, D.cell, D.elem, D.cells, D.padd, D.list, D.push, Lis.enc, List.length_map, txts_len]
  intro _ _
  refine denR_gcall clCheck17_ok true [.int .i64 0] ?_ (fun _ => ⟨M, ho, rfl, by rw [hMr]; rfl⟩) (fun h => by cases h) ?_
  · simp only [zz, RT.den, den, O1.eval, O2.eval, D.eqb, Ags.none, reduceCtorEq, forall_const, if_true, if_false, ite_true, ite_false, D.sub, D.cell, D.elem, D.cells, D.padd, D.list, D.push, txts_len]; grind
  simp only [zz, RT.den, den, O1.eval, O2.eval, D.eqb, Ags.none, reduceCtorEq, forall_const, if_true, if_false, ite_true, ite_false, D.sub, D.cell, D.elem, D.cells, D.padd, D.list, D.push, Lis.enc, List.length_map, txts_len]
  intro _ _
  refine ⟨fun h => absurd h (by grind), fun _ => ?_⟩
  refine denR_call containsCue_ok ⟨l.cues, fun c => c.link == t, 27, [.ptr [.str t]], hl.cues, rfl, linksTo_says l.cues hl.cues t, _, rfl, ?_⟩
  cases hany : l.cues.any fun c => c.link == t with
  | true =>
    refine denR_iteT (by simp only [zz, RT.den, den, O1.eval, O2.eval, D.eqb, Ags.none, reduceCtorEq, forall_const, if_true, if_false, ite_true, ite_false, D.sub, D.cell, D.elem, D.cells, D.padd, D.list, D.push]) (haw _ _ _ hK _ rfl)
  | false =>
    refine denR_iteF (by simp only [zz, RT.den, den, O1.eval, O2.eval, D.eqb, Ags.none, reduceCtorEq, forall_const, if_true, if_false, ite_true, ite_false, D.sub, D.cell, D.elem, D.cells, D.padd, D.list, D.push]) ?_
    have hlinks : ∀ c ∈ l.cues, c.link ≠ t := fun c hc => by
      have := List.any_eq_false.1 hany c hc
      simpa using this
    have hback : renumRef M t f = (l, 0) := by
      by_cases h : f = t
      · subst h
        obtain ⟨j, hj, hp, hjf, _⟩ := place_pos hpl
        have hR := rightL_of hg0
        have h1 := renumbered_self hR.rising hR.num hj hjf hp
        have h2 : M = l := by rw [← hM, ← h1]
        rw [h2, e, ← h1]
      · rw [← hM]; exact hN.back h hlinks
    refine denR_call renumber_ok ⟨M, t, f, ho, rfl, _, rfl, ?_⟩
    rw [hback]
    refine denR_gcall same17_ok true [.bool true] (by simp only [zz, RT.den, den, O1.eval, O2.eval, D.eqb, Ags.none, reduceCtorEq, forall_const, if_true, if_false, ite_true, ite_false, D.sub, D.cell, D.elem, D.cells, D.padd, D.list, D.push, Lis.enc]; first | done | decide) (fun _ => ⟨l, l, hl, hl, rfl, by rw [same17_self]; rfl⟩) (fun h => by cases h) ?_
    refine denR_gcall awake_ok true [.bool true] (by simp only [zz, RT.den, den, O1.eval, O2.eval, D.eqb, Ags.none, reduceCtorEq, forall_const, if_true, if_false, ite_true, ite_false, D.sub, D.cell, D.elem, D.cells, D.padd, D.list, D.push, Lis.enc]; first | done | decide) (fun _ => ⟨rfl, rfl⟩) (fun h => by cases h) ?_
    simp only [zz, RT.den, den, O1.eval, O2.eval, D.eqb, Ags.none, reduceCtorEq, forall_const, if_true, if_false, ite_true, ite_false, D.sub, D.cell, D.elem, D.cells, D.padd, D.list, D.push]
    exact hK
theorem law4 : Contract Tryz.prog 4 (LawSpec Tryz.prog 4) :=
  law4_typed.weaken fun args K _ h => by
    obtain ⟨h1, h2, hK⟩ := lawArgs [.agg liKs, .cell .str, .cell .str] (by kernel_rfl) h
    match args, h1 with
    | [a, b, c], _ =>
      obtain ⟨l, hl, rfl⟩ := Lis.ofAgg (h2 0 _ _ rfl rfl)
      obtain ⟨s, rfl⟩ := str_of (h2 1 _ _ rfl rfl)
      obtain ⟨t, rfl⟩ := str_of (h2 2 _ _ rfl rfl)
      exact ⟨l, s, t, hl, rfl, hK⟩
end Go.Sx.La
