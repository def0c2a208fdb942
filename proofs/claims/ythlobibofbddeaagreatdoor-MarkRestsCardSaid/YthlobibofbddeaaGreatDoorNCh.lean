/-
 Part 8 of the proof: the executor over the kit's code with its soundness, or contracts of functions.
-/
import Derived.Test.YthlobibofbddeaaGreatDoorNCg
set_option linter.unusedSimpArgs false
set_option linter.unusedVariables false
set_option linter.unusedSectionVars false
set_option linter.defProp false
set_option maxRecDepth 100000
namespace Go.Sx.La
open Go Go.Sx Go.RowKit Go.Proofs
def litV (v : Val) : Bool := decide (0 ≤ v.pal) && (decide (0 < v.pal) || decide (0 < v.lev))
def darkV (v : Val) : Bool := decide (v = hval) || decide (v = ⟨0, 0⟩)
def isDark : List Ent → Int → Bool
 | [], _ => true
 | e :: es, c => if e.pa.ch = c ∧ e.pa.at_ = 0 then darkV e.va else isDark es c
def litGo : List Ent → List Nat → List Nat
 | [], ws => ws
 | e :: es, ws => litGo es (if e.pa.at_ = 0 ∧ litV e.va = true then addW ws e.pa.ch.toNat else ws)
def litW (es : List Ent) : List Nat := litGo es (List.replicate 16 0)
structure RightE (es : List Ent) : Prop where
 ok : ∀ e ∈ es, e.Ok
 par : ∀ e ∈ es, param15 e.pa = 0
 val : ∀ e ∈ es, value15 e.va = 0
 rising : es.Pairwise fun a b => before15 a.pa b.pa = true
 len : es.length ≤ 10000
theorem darkV_lit {v : Val} (h : value15 v = 0) : darkV v = !litV v := by
 unfold value15 isLevel at h
 split at h <;> try contradiction
 rename_i hc
 have e1 : (v = hval) ↔ (v.pal = -1 ∧ v.lev = 0) := val_eq v hval
 have e2 : (v = (⟨0, 0⟩ : Val)) ↔ (v.pal = 0 ∧ v.lev = 0) := val_eq v ⟨0, 0⟩
 unfold darkV litV
 simp only [e1, e2]
 simp only [Bool.and_eq_true, decide_eq_true_eq] at hc
 rw [Bool.eq_iff_iff]
 simp only [Bool.or_eq_true, Bool.not_eq_true', Bool.and_eq_false_iff, Bool.or_eq_false_iff, decide_eq_true_eq, decide_eq_false_iff_not]
 omega
theorem addW_len (ws : List Nat) (c : Nat) : (addW ws c).length = ws.length := by simp [addW]
theorem litGo_has {c : Nat} : ∀ {es : List Ent} {ws : List Nat}, (∀ e ∈ es, param15 e.pa = 0) → ws.length = 16 →
   hasW (litGo es ws) c = (hasW ws c || es.any fun e => decide (e.pa.ch = c ∧ e.pa.at_ = 0) && litV e.va)
 | [], ws, _, _ => by simp [litGo]
 | e :: es, ws, h, hl => by
   have hp := param15_ok' (h e List.mem_cons_self)
   simp only [litGo, List.any_cons]
   by_cases hc : e.pa.at_ = 0 ∧ litV e.va = true
   · rw [if_pos hc, litGo_has (fun x hx => h x (List.mem_cons_of_mem _ hx)) (by rw [addW_len]; exact hl), hasW_add (by omega)]
     have e1 : decide (c = e.pa.ch.toNat) = (decide (e.pa.ch = c ∧ e.pa.at_ = 0) && litV e.va) := by
       rw [hc.2, Bool.and_true, Bool.eq_iff_iff]
       simp only [decide_eq_true_eq, hc.1, and_true]
       omega
     rw [e1]
     generalize (decide (e.pa.ch = (c : Int) ∧ e.pa.at_ = 0) && litV e.va) = x
     cases x <;> simp
   · rw [if_neg hc, litGo_has (fun x hx => h x (List.mem_cons_of_mem _ hx)) hl]
     have e1 : (decide (e.pa.ch = c ∧ e.pa.at_ = 0) && litV e.va) = false := by
       rw [Bool.and_eq_false_iff]
       by_cases h1 : e.pa.at_ = 0
       · right; cases hv : litV e.va with
         | true => exact absurd ⟨h1, hv⟩ hc
         | false => rfl
       · left; simp [h1]
     rw [e1]; simp
theorem litGo_ok : ∀ {es : List Ent} {ws : List Nat}, ws.length = 16 → (∀ w ∈ ws, w < 2 ^ 64) → (litGo es ws).length = 16 ∧ ∀ w ∈ litGo es ws, w < 2 ^ 64
 | [], ws, hl, h => ⟨hl, h⟩
 | e :: es, ws, hl, h => by
   simp only [litGo]
   split
   · exact litGo_ok (by rw [addW_len]; exact hl) (addW_lt h)
   · exact litGo_ok hl h
theorem litW_ok (es : List Ent) : (litW es).length = 16 ∧ ∀ w ∈ litW es, w < 2 ^ 64 := litGo_ok (by simp) (by simp)
theorem isDark_any {c : Int} : ∀ {es : List Ent}, (∀ e ∈ es, value15 e.va = 0) → (es.Pairwise fun a b => before15 a.pa b.pa = true) → isDark es c = !(es.any fun e => decide (e.pa.ch = c ∧ e.pa.at_ = 0) && litV e.va)
 | [], _, _ => rfl
 | e :: es, hv, hr => by
   have hr' := List.pairwise_cons.1 hr
   have ih := isDark_any (c := c) (fun x hx => hv x (List.mem_cons_of_mem _ hx)) hr'.2
   simp only [isDark, List.any_cons]
   by_cases h : e.pa.ch = c ∧ e.pa.at_ = 0
   · rw [if_pos h, darkV_lit (hv e List.mem_cons_self)]
     have e0 : (es.any fun e => decide (e.pa.ch = c ∧ e.pa.at_ = 0) && litV e.va) = false := by
       rw [List.any_eq_false]
       intro x hx
       have hb := hr'.1 x hx
       have : ¬ (x.pa.ch = c ∧ x.pa.at_ = 0) := fun h2 => by
         have : e.pa = x.pa := Par.ext' (by rw [h.1, h2.1]) (by rw [h.2, h2.2])
         rw [this, before_irr] at hb; cases hb
       simp [this]
     rw [e0]; simp [h]
   · rw [if_neg h, ih]; simp [h]
theorem isDark_lit {es : List Ent} (h : RightE es) (c : Nat) : isDark es c = !hasW (litW es) c := by
 rw [isDark_any h.val h.rising, litW, litGo_has h.par (by simp), hasW_none]; simp
theorem movesGo_vals {xs : List Mov} : ∀ (cs : List Mov) (i : Nat), movesGo xs i cs = 0 → ∀ c ∈ cs, value15 c.va = 0
 | [], i, _ => by simp
 | c :: cs, i, h => by
   simp only [movesGo] at h
   split at h
   · rename_i hc; exact absurd h hc
   split at h
   · rename_i hc; exact absurd h hc
   rename_i hv
   split at h
   · cases h
   split at h
   · cases h
   intro d hd
   rcases List.mem_cons.1 hd with rfl | hd
   · simpa using hv
   · exact movesGo_vals cs (i + 1) h d hd
theorem moves_vals {ms : List Mov} (h : moves16 ms = 0) : ∀ m ∈ ms, value15 m.va = 0 := by
 unfold moves16 at h
 split at h
 · cases h
 · exact movesGo_vals ms 0 h
theorem valued_val {l : Lis} (h : checkL order05 l = 0) (p : Par) (n : Nat) : value15 (valued l.cues p n) = 0 := by
 unfold valued lastM
 cases h1 : (backL l.cues n).findSome? fun c => mfind c.moves p with
 | none => decide
 | some m =>
   obtain ⟨c, hc, hm⟩ := List.exists_of_findSome?_eq_some h1
   exact moves_vals (check16_moves ((rightL_of h).cues c (backL_mem hc))) m (List.mem_of_find?_eq_some hm)
theorem rightE_map {l : Lis} (hl : l.Ok) (h : checkL order05 l = 0) (f : Par → Val) (hok : ∀ p, (f p).Ok) (hv : ∀ p, value15 (f p) = 0) : RightE ((movedL l.cues).map fun p => ⟨p, f p⟩) := by
 have hR := rightT_of hl h
 refine ⟨?_, ?_, ?_, ?_, by rw [List.length_map]; exact Nat.le_trans (moved_len hR) (by decide)⟩
 · intro e he; obtain ⟨p, hp, rfl⟩ := List.mem_map.1 he; exact ⟨(moved_par hR p hp).1, hok p⟩
 · intro e he; obtain ⟨p, hp, rfl⟩ := List.mem_map.1 he; exact (moved_par hR p hp).2
 · intro e he; obtain ⟨p, hp, rfl⟩ := List.mem_map.1 he; exact hv p
 · rw [List.pairwise_map]; exact (rising_movedL l.cues).imp fun h => h
theorem look_right {l : Lis} (hl : l.Ok) (h : checkL order05 l = 0) (n : Nat) : RightE (lookL l.cues n) :=
 rightE_map hl h _ (fun p => valued_ok' (rightT_of hl h) p n) fun p => valued_val h p n
def earlyB (cs : List Cue) (n : Nat) (m : Mov) : Bool := !decide (m.pa.at_ = 0) && (isDark (lookL cs n) m.pa.ch && isDark (lookL cs (n - 1)) m.pa.ch)
def earlyM (cs : List Cue) (n : Nat) : List Mov := if n = 0 then [] else match cs[n]? with
 | some c => if c.mark then c.moves.filter (earlyB cs n) else []
 | none => []
def aheadL (cs : List Cue) (n : Nat) : List Ent := entsOf (earlyM cs n)
def markedL (cs : List Cue) (n : Nat) : List Ent := overL (lookL cs n) (aheadL cs n)
def lateM (cs : List Cue) (n : Nat) : List Mov := match cs[n - 1]? with
 | some c => if c.mark then c.moves.filter fun m => !decide (m.pa.at_ = 0) && !((earlyM cs (n - 1)).any fun x => decide (x.pa = m.pa)) else []
 | none => []
theorem earlyM_sub {cs : List Cue} {n : Nat} (h : earlyM cs n ≠ []) : 0 < n ∧ ∃ hn : n < cs.length, cs[n].mark = true ∧ earlyM cs n = cs[n].moves.filter (earlyB cs n) := by
 unfold earlyM at h ⊢
 split at h
 · exact absurd rfl h
 rename_i h0
 rw [if_neg h0]
 refine ⟨by omega, ?_⟩
 split at h
 · rename_i c hc
   obtain ⟨hn, he⟩ := List.getElem?_eq_some_iff.1 hc
   subst he
   split at h
   · rename_i hm
     exact ⟨hn, hm, by simp [hm]⟩
   · exact absurd rfl h
 · exact absurd rfl h
theorem earlyM_mem {cs : List Cue} {n : Nat} {m : Mov} (h : m ∈ earlyM cs n) : 0 < n ∧ ∃ hn : n < cs.length, cs[n].mark = true ∧ m ∈ cs[n].moves ∧ earlyB cs n m = true := by
 obtain ⟨h0, hn, hm, he⟩ := earlyM_sub (List.ne_nil_of_mem h)
 rw [he] at h
 exact ⟨h0, hn, hm, (List.mem_filter.1 h).1, (List.mem_filter.1 h).2⟩
theorem early_rising {l : Lis} (hR : RightT l) (n : Nat) : RisingM (earlyM l.cues n) := by
 by_cases h : earlyM l.cues n = []
 · rw [h]; exact List.Pairwise.nil
 · obtain ⟨_, hn, _, he⟩ := earlyM_sub h
   rw [he]; exact (hR.moves _ (List.getElem_mem hn)).rising.filter _
theorem early_Ok {l : Lis} (hl : l.Ok) (n : Nat) : ∀ m ∈ earlyM l.cues n, m.Ok := by
 intro m hm
 obtain ⟨_, hn, _, h, _⟩ := earlyM_mem hm
 exact (hl.cues _ (List.getElem_mem hn)).moves m h
theorem ahead_nodup {l : Lis} (hR : RightT l) (n : Nat) : ((aheadL l.cues n).map (·.pa)).Nodup := nodup_moves (early_rising hR n)
theorem marked_map {l : Lis} (hR : RightT l) (n : Nat) : markedL l.cues n = (lookL l.cues n).map (pickE (aheadL l.cues n)) := overL_map (ahead_nodup hR n)
def mvalued (cs : List Cue) (p : Par) (n : Nat) : Val := ((mfind (earlyM cs n) p).map (·.va)).getD (valued cs p n)
theorem marked_eq {l : Lis} (hR : RightT l) (n : Nat) : markedL l.cues n = (movedL l.cues).map fun p => ⟨p, mvalued l.cues p n⟩ := by
 rw [marked_map hR, lookL, List.map_map]
 refine List.map_congr_left fun p _ => ?_
 simp only [Function.comp, aheadL, pick_ents, mvalued]
theorem mvalued_ok {l : Lis} (hl : l.Ok) (h : checkL order05 l = 0) (p : Par) (n : Nat) : (mvalued l.cues p n).Ok ∧ value15 (mvalued l.cues p n) = 0 := by
 unfold mvalued
 cases hf : mfind (earlyM l.cues n) p with
 | none => exact ⟨valued_ok' (rightT_of hl h) p n, valued_val h p n⟩
 | some m =>
   have hm : m ∈ earlyM l.cues n := List.mem_of_find?_eq_some hf
   obtain ⟨_, hn, _, h2, _⟩ := earlyM_mem hm
   exact ⟨(early_Ok hl n m hm).2.1, moves_vals (check16_moves ((rightL_of h).cues _ (List.getElem_mem hn))) m h2⟩
theorem marked_right {l : Lis} (hl : l.Ok) (h : checkL order05 l = 0) (n : Nat) : RightE (markedL l.cues n) := by
 rw [marked_eq (rightT_of hl h)]
 exact rightE_map hl h _ (fun p => (mvalued_ok hl h p n).1) fun p => (mvalued_ok hl h p n).2
theorem marked_same {l : Lis} (hR : RightT l) (n k : Nat) : SamePs (markedL l.cues n) (markedL l.cues k) := by rw [marked_eq hR, marked_eq hR]; simp [SamePs]
theorem marked_zero (cs : List Cue) : markedL cs 0 = lookL cs 0 := by simp [markedL, aheadL, earlyM, entsOf, overL]
def earlyR (l : Lis) (s : List UInt8) : List Ent × Int := if cue18 l s ≠ 0 then ([], cue18 l s) else (aheadL l.cues (upto l s), 0)
def markedR (l : Lis) (s : List UInt8) : List Ent × Int := if cue18 l s ≠ 0 then ([], cue18 l s) else (markedL l.cues (upto l s), 0)
def mstepsR (l : Lis) (s : List UInt8) : List Ent × Int := if cue18 l s ≠ 0 then ([], cue18 l s) else (diffE (markedL l.cues (upto l s - 1)) (markedL l.cues (upto l s)), 0)
def lateR (l : Lis) (s : List UInt8) : List Par × Int := if cue18 l s ≠ 0 then ([], cue18 l s) else ((lateM l.cues (upto l s)).map (·.pa), 0)
noncomputable def t143 : R := .call none (.fn 144) [.lcons (.var 0) (.lcons (.var 1) .lnil), .lcons (.var 4) (.lcons (.var 5) .lnil)] [.cell (.int .i64)] (.ret [.d (.var 8)])
noncomputable def t100 : R := let x0 : T := .lcons (.var 2) (.lcons (.var 3) (.lcons (.var 4) (.lcons (.var 5) (.lcons (.var 6) (.lcons (.var 7) (.lcons (.var 8) (.lcons (.var 9) (.lcons (.var 10) (.lcons (.var 11) (.lcons (.var 12) (.lcons (.var 13) (.lcons (.var 14) (.lcons (.var 15) (.lcons (.var 16) (.lcons (.var 17) .lnil))))))))))))))); let x1 : T := .idx (.var 0) (.var 1) 2 (.int .i64); .fact (.o2 .le (.o1 .len (.var 0)) (.int .i64 140737488355328)) (.loop 0 [.int .i64 0, .int .u64 0, .int .u64 0, .int .u64 0, .int .u64 0, .int .u64 0, .int .u64 0, .int .u64 0, .int .u64 0, .int .u64 0, .int .u64 0, .int .u64 0, .int .u64 0, .int .u64 0, .int .u64 0, .int .u64 0, .int .u64 0] [.int .i64, .int .u64, .int .u64, .int .u64, .int .u64, .int .u64, .int .u64, .int .u64, .int .u64, .int .u64, .int .u64, .int .u64, .int .u64, .int .u64, .int .u64, .int .u64, .int .u64] (.ite (.o2 .lt (.var 1) (.o1 .len (.var 0))) (.need (.o2 .le (.int .i64 0) (.var 1)) (.ite (.ite (.ite (.o2 .eq (.idx (.var 0) (.var 1) 1 (.int .i64)) (.int .i64 0)) (.o2 .ge x1 (.int .i64 0)) (.bool false)) (.ite (.o2 .gt x1 (.int .i64 0)) (.bool true) (.o2 .gt (.idx (.var 0) (.var 1) 3 (.int .i64)) (.int .i64 0))) (.bool false)) (.callX true 145 [.box x0, .d (.idx (.var 0) (.var 1) 0 (.int .i64))] [.box [.int .u64, .int .u64, .int .u64, .int .u64, .int .u64, .int .u64, .int .u64, .int .u64, .int .u64, .int .u64, .int .u64, .int .u64, .int .u64, .int .u64, .int .u64, .int .u64]] (.again 0 [.o2 (.add .i64) (.var 1) (.int .i64 1), .var 18, .var 19, .var 20, .var 21, .var 22, .var 23, .var 24, .var 25, .var 26, .var 27, .var 28, .var 29, .var 30, .var 31, .var 32, .var 33])) (.again 0 [.o2 (.add .i64) (.var 1) (.int .i64 1), .var 2, .var 3, .var 4, .var 5, .var 6, .var 7, .var 8, .var 9, .var 10, .var 11, .var 12, .var 13, .var 14, .var 15, .var 16, .var 17]))) (.ret [.d x0])))
theorem t100_ok : fnO Tryz.prog mdA 100 [.cell (.slice [.int .i64, .int .i64, .int .i64, .int .i64])] = t100 := by kernel_rfl
theorem c100 : callable Tryz.prog 100 = true := by kernel_rfl
noncomputable def t55 : R := .call none (.fn 99) [.var 0] [.cell (.int .i64)] (.ite (.o2 .ne (.var 2) (.int .i64 0)) (.ret [.d (.bool false), .d (.var 2)]) (.ite (.ite (.o2 .lt (.var 1) (.int .i64 1)) (.bool true) (.o2 .gt (.var 1) (.int .i64 999))) (.ret [.d (.bool false), .d (.int .i64 2)]) (.call none (.fn 100) [.var 0] [.agg [.int .u64, .int .u64, .int .u64, .int .u64, .int .u64, .int .u64, .int .u64, .int .u64, .int .u64, .int .u64, .int .u64, .int .u64, .int .u64, .int .u64, .int .u64, .int .u64]] (.call none (.fn 101) [.lcons (.var 3) (.lcons (.var 4) (.lcons (.var 5) (.lcons (.var 6) (.lcons (.var 7) (.lcons (.var 8) (.lcons (.var 9) (.lcons (.var 10) (.lcons (.var 11) (.lcons (.var 12) (.lcons (.var 13) (.lcons (.var 14) (.lcons (.var 15) (.lcons (.var 16) (.lcons (.var 17) (.lcons (.var 18) .lnil))))))))))))))), .var 1] [.cell .bool] (.ret [.d (.o1 .not (.var 19)), .d (.int .i64 0)])))))
instance : Inhabited Ent := ⟨⟨⟨0, 0⟩, ⟨0, 0⟩⟩⟩
def e15 (e : Ent) : Int := if param15 e.pa ≠ 0 then param15 e.pa else value15 e.va
def entsGo (xs : List Ent) : Nat → List Ent → Int
 | _, [] => 0
 | i, e :: es => if e15 e ≠ 0 then e15 e else if 0 < i ∧ before15 (xs[i - 1]!).pa e.pa = false then 9 else entsGo xs (i + 1) es
def ents15 (l : List Ent) : Int := if 4096 < l.length then 5 else entsGo l 0 l
theorem lit_ok : Contract Tryz.prog 100 fun args K => ∃ l : List Ent, (∀ e ∈ l, e.Ok) ∧ (∀ e ∈ l, param15 e.pa = 0) ∧ args = [.slice (l.map Ent.enc)] ∧ K [.d (.agg (encW (litW l)))] := by
 refine .of c100 t100_ok ?_
 rintro _ K ⟨l, hl, hp, rfl, hK⟩ hsm
 refine ⟨[.slice (l.map Ent.enc)], rfl, ⟨ents_has hl, trivial⟩, ?_⟩
 simp only [zz, reduceCtorEq, t100, List.length_map]
 intro hcap
 refine loop_goI l (fun _ l' ws => litGo l' ws) (fun i ws => .int .i64 i :: encW ws) (fun _ ws => ws.length = 16 ∧ ∀ w ∈ ws, w < 2 ^ 64) (List.replicate 16 0) (litW l) rfl ⟨by simp, by simp⟩ 0 (fun _ _ => rfl) rfl ?_ ?_
 · rintro i hi ws ⟨hwl, hw⟩ hgo
   simp only [litGo] at hgo
   have hpi := param15_ok' (hp _ (List.getElem_mem hi))
   have hch : (l[i].pa.ch.toNat : Int) = l[i].pa.ch := by omega
   have haw := addW_lt (c := l[i].pa.ch.toNat) hw
   have hal := addW_len ws l[i].pa.ch.toNat
   match ws, hwl with
   | [a0, a1, a2, a3, a4, a5, a6, a7, a8, a9, a10, a11, a12, a13, a14, a15], _ =>
   simp only [zz, reduceCtorEq, hi, List.length_map, getD_map hi, Ent.enc, encW]
   refine ⟨by omega, fun h => ?_, fun h => ?_⟩
   · rw [if_pos ⟨h.1.1, by simp [litV, h.1.2, h.2]⟩] at hgo
     generalize hz : addW [a0, a1, a2, a3, a4, a5, a6, a7, a8, a9, a10, a11, a12, a13, a14, a15] l[i].pa.ch.toNat = zs at hgo haw hal
     match zs, hal with
     | [b0, b1, b2, b3, b4, b5, b6, b7, b8, b9, b10, b11, b12, b13, b14, b15], _ =>
     refine denR_callX madd_ok ⟨encW [a0, a1, a2, a3, a4, a5, a6, a7, a8, a9, a10, a11, a12, a13, a14, a15] ++ [.int .i64 l[i].pa.ch.toNat], by simp only [zz, reduceCtorEq, getD_map hi, Ent.enc, encW, hch]; rfl, HasKs.append (encW_ch rfl hw) ⟨i64n (by omega), trivial⟩⟩ (fun _ => by kernel_rfl)
       ⟨[a0, a1, a2, a3, a4, a5, a6, a7, a8, a9, a10, a11, a12, a13, a14, a15], l[i].pa.ch.toNat, rfl, hw, by omega, by simp only [zz, reduceCtorEq, getD_map hi, Ent.enc, encW, hch], ?_⟩
     rw [hz]
     refine ⟨encW [b0, b1, b2, b3, b4, b5, b6, b7, b8, b9, b10, b11, b12, b13, b14, b15], rfl, ?_⟩
     simp only [zz, reduceCtorEq, encW]
     exact ⟨_, ⟨by rw [wr64_eq] <;> omega, rfl⟩, ⟨rfl, haw⟩, hgo⟩
   · rw [if_neg (fun e => by have := e.2; simp only [litV, Bool.and_eq_true, Bool.or_eq_true, decide_eq_true_eq] at this; have := e.1; omega)] at hgo
     exact ⟨_, ⟨by rw [wr64_eq] <;> omega, rfl⟩, ⟨rfl, hw⟩, hgo⟩
 · rintro ws ⟨hwl, hw⟩ hgo
   have hgo : ws = litW l := hgo
   rw [← hgo] at hK
   match ws, hwl with
   | [a0, a1, a2, a3, a4, a5, a6, a7, a8, a9, a10, a11, a12, a13, a14, a15], _ =>
   simp only [zz, reduceCtorEq, List.length_map, Nat.lt_irrefl, encW]
   exact hK
def darkR (l : List Ent) (c : Int) : Bool × Int := if ents15 l ≠ 0 then (false, ents15 l) else if c < 1 ∨ 999 < c then (false, 2) else (isDark l c, 0)
noncomputable def t124 : R := let x1 : T := .lcons (.idx (.var 5) (.var 4) 1 (.int .i64)) (.lcons (.idx (.var 5) (.var 4) 2 (.int .i64)) (.lcons (.idx (.var 5) (.var 4) 3 (.int .i64)) (.lcons (.idx (.var 5) (.var 4) 4 (.int .i64)) .lnil))); let x2 : T := .o1 .len (.var 5); let x3 : T := .o1 .not (.var 6); let x4 : T := .idx (.var 5) (.var 4) 0 (.int .i64); let x5 : T := .o2 .le (.int .i64 0) (.var 3); let x0 : T := .o2 .app (.o2 .app (.sub (.var 5) (.int .i64 0) (.var 3)) (.rep (.o2 (.sub .i64) x2 (.var 3)) (.lcons (.int .i64 0) (.lcons (.int .i64 0) (.lcons (.int .i64 0) (.lcons (.int .i64 0) (.lcons (.int .i64 0) .lnil))))))) (.sub (.var 5) x2 x2); .call none (.fn 181) [.var 0, .var 1] [.cell (.int .i64)] (.ite (.o2 .eq (.var 2) (.int .i64 (-1))) (.ret [.own 5 (.var 0)]) (.loop 0 [.var 2, .o2 (.add .i64) (.var 2) (.int .i64 1), .var 0] [.int .i64, .int .i64, .slice [.int .i64, .int .i64, .int .i64, .int .i64, .int .i64]] (.fact (.o2 .le x2 (.int .i64 140737488355328)) (.ite (.o2 .lt (.var 4) x2) (.need (.o2 .le (.int .i64 0) (.var 4)) (.call none (.val (.var 1)) [.lcons x4 x1] [.cell .bool] (.need (.ite x3 x5 (.bool true)) (.need (.ite x3 (.o2 .lt (.var 3) x2) (.bool true)) (.lets [.ite x3 (.o2 (.add .i64) (.var 3) (.int .i64 1)) (.var 3), .ite x3 (.upd (.var 5) (.var 3) 0 (.lcons x4 x1)) (.var 5)] (.again 0 [.var 7, .o2 (.add .i64) (.var 4) (.int .i64 1), .var 8])))))) (.need x5 (.need (.o2 .le (.var 3) x2) (.need (.o2 .le (.var 3) (.o1 .len x0)) (.ret [.own 5 (.sub x0 (.int .i64 0) (.var 3))]))))))))
theorem t124_ok : fnXO Tryz.prog mdA 124 [.own mvKs, .cell .fn] = t124 := by kernel_rfl
theorem c124 : callable Tryz.prog 124 = true := by kernel_rfl
def kept {X : Type} (p : X → Bool) (l : List X) (n : Nat) : List X := (l.take n).filter fun x => !p x
theorem kept_succ {X : Type} (p : X → Bool) {l : List X} {n : Nat} (h : n < l.length) : kept p l (n + 1) = kept p l n ++ if p l[n] then [] else [l[n]] := by
 unfold kept
 rw [List.take_succ_eq_append_getElem h, List.filter_append]
 congr 1
 by_cases hp : p l[n] = true
 · simp [hp]
 · simp [hp]
theorem kept_all {X : Type} (p : X → Bool) (l : List X) : kept p l l.length = l.filter fun x => !p x := by simp [kept]
theorem kept_start {X : Type} {p : X → Bool} {l : List X} {j : Nat} (hj : j < l.length) (h1 : p l[j] = true) (h2 : ∀ k (hk : k < j), p (l[k]'(by omega)) = false) : kept p l (j + 1) = l.take j := by
 rw [kept_succ p hj, if_pos h1, List.append_nil]
 unfold kept
 refine List.filter_eq_self.2 fun x hx => ?_
 obtain ⟨k, hk, rfl⟩ := List.getElem_of_mem hx
 simp only [List.length_take] at hk
 rw [List.getElem_take, h2 k (by omega)]; rfl
structure Swept {X : Type} (p : X → Bool) (l a : List X) (n : Nat) : Prop where
 len : a.length = l.length
 le : n ≤ l.length
 lt : (kept p l n).length < n
 head : a.take (kept p l n).length = kept p l n
 rest : a.drop n = l.drop n
theorem Swept.get {X : Type} {p : X → Bool} {l a : List X} {n : Nat} (h : Swept p l a n) (hn : n < l.length) : a[n]'(by rw [h.len]; exact hn) = l[n] := by
 have h1 := h.rest
 have hn' : n < a.length := by rw [h.len]; exact hn
 rw [List.drop_eq_getElem_cons hn, List.drop_eq_getElem_cons hn'] at h1
 exact (List.cons.inj h1).1
theorem Swept.skip {X : Type} {p : X → Bool} {l a : List X} {n : Nat} (h : Swept p l a n) (hn : n < l.length) (hp : p l[n] = true) : Swept p l a (n + 1) := by
 have e : kept p l (n + 1) = kept p l n := by rw [kept_succ p hn, if_pos hp, List.append_nil]
 exact ⟨h.len, hn, by rw [e]; have := h.lt; omega, by rw [e]; exact h.head, by rw [← List.drop_drop, ← List.drop_drop, h.rest]⟩
theorem Swept.keep {X : Type} {p : X → Bool} {l a : List X} {n : Nat} (h : Swept p l a n) (hn : n < l.length) (hp : p l[n] = false) : Swept p l (a.set (kept p l n).length l[n]) (n + 1) ∧ (kept p l (n + 1)).length = (kept p l n).length + 1 := by
 have e : kept p l (n + 1) = kept p l n ++ [l[n]] := by rw [kept_succ p hn, if_neg (by simp [hp])]
 have el : (kept p l (n + 1)).length = (kept p l n).length + 1 := by rw [e]; simp
 have hlt := h.lt
 refine ⟨⟨by simp [h.len], hn, by rw [el]; omega, ?_, ?_⟩, el⟩
 · rw [el, List.take_succ_eq_append_getElem (by simp [h.len]; omega), e]
   rw [List.getElem_set_self, List.take_set_of_le (Nat.le_refl _), h.head]
 · rw [List.drop_set_of_lt (by omega), ← List.drop_drop, ← List.drop_drop, h.rest]
theorem take_swept {A R B : List (List D)} {i : Nat} (h : i ≤ A.length) : (A.take i ++ R ++ B).take i = A.take i := by
 rw [List.append_assoc, List.take_append_of_le_length (by simp; omega), List.take_take, Nat.min_self]
theorem setMov {l : List Mov} {k : Nat} (hk : k < l.length) (e : Mov) : ((l.map Mov.enc).modify k fun x => setCells x 0 e.enc) = (l.set k e).map Mov.enc := by
 apply List.ext_getElem?
 intro i
 rw [List.getElem?_modify, List.getElem?_map, List.getElem?_map, List.getElem?_set]
 by_cases h : k = i
 · subst h
   simp [hk, setCells, Mov.enc]
 · simp [h]
theorem delMov_ok : ContractX Tryz.prog 124 [.own mvKs, .cell .fn] false fun args K => ∃ (l : List Mov) (p : Mov → Bool) (f : FuncId) (caps : List D), (∀ m ∈ l, m.Ok) ∧ l.length ≤ 1000000 ∧ args = [.own 5 (l.map Mov.enc), .d (.clo f caps)] ∧ SaysOf Tryz.prog (.clo f caps) Mov.enc l p ∧ K [.own 5 ((l.filter fun c => !p c).map Mov.enc)] := by
 refine .of c124 t124_ok ?_
 rintro _ K ⟨l, p, f, caps, hl, hlen, rfl, hsay, hK⟩
 have hhas : HasK (.slice mvKs) (.slice (l.map Mov.enc)) := slice_has fun m hm => Mov.has (hl m hm)
 refine ⟨[.slice (l.map Mov.enc), .clo f caps], rfl, ⟨hhas, trivial, trivial⟩, ?_⟩
 refine denR_call indexMov_ok ⟨l, p, f, caps, hl, by simp only [zz, reduceCtorEq], hsay, _, rfl, ?_⟩
 simp only [zz, reduceCtorEq]
 rcases idxGo_spec p l 0 with ⟨h1, h2⟩ | ⟨j, hj, h1, h2, h3⟩
 · rw [h1]
   have e : (l.filter fun c => !p c) = l := List.filter_eq_self.2 fun x hx => by rw [h2 x hx]; rfl
   rw [e] at hK
   refine ⟨fun _ => hK, fun h => by simp at h⟩
 · rw [h1]
   simp only [Nat.zero_add]
   refine ⟨fun h => by omega, fun _ => ?_⟩
   obtain ⟨sf, hf, hs⟩ := hsay
   have hks := kept_start hj h2 h3
   rw [denR_loop]
   refine ⟨fun c ys => c = none ∧ ∃ (n : Nat) (a : List Mov), Swept p l a n ∧ ys = [.int .i64 ((kept p l n).length : Nat), .int .i64 n, .slice (a.map Mov.enc)],
     fun ys => match ys with | [_, .int _ n, _] => l.length - n.toNat | _ => 0, ⟨rfl, j + 1, l, ⟨rfl, hj, by rw [hks]; simp <;> omega, by rw [hks]; simp <;> omega, rfl⟩, ?_⟩, ?_⟩
   · rw [hks]
     simp only [zz, reduceCtorEq]
     rw [wr64_eq (by omega)]
     simp; omega
   rintro _ _ _ ⟨rfl, n, a, hw, rfl⟩
   have hle := hw.le
   have hal := hw.len
   have hkl := hw.lt
   simp only [zz, reduceCtorEq, List.length_map, hal, D.rep]
   intro hcap
   refine ⟨fun h => ?_, fun h => ?_⟩
   · have hn : n < l.length := by omega
     have hna : n < a.length := by omega
     have hga := hw.get hn
     refine ⟨by omega, denR_fcall (FvC.up' (s := sf) (fv := .clo f caps) hf) ⟨fun rs => rs = [.d (.bool (p l[n]))], ?_, fun rs h => ⟨[.bool (p l[n])], by rw [h]; rfl, by simp [RK.all, RK.kinds, HasKs, HasK], ?_⟩⟩⟩
     · simp only [zz, reduceCtorEq, getD_map hna, hga, Mov.enc]
       exact hs l[n] (List.getElem_mem hn)
     · have hia : (kept p l n).length < a.length := by omega
       have hset := setMov hia l[n]
       simp only [Mov.enc] at hset
       cases hp : p l[n] with
       | true =>
         have hsk := hw.skip hn hp
         have ek : kept p l (n + 1) = kept p l n := by rw [kept_succ p hn, if_pos hp, List.append_nil]
         simp only [zz, reduceCtorEq, hp]
         refine ⟨⟨rfl, n + 1, a, hsk, by rw [ek], by rw [wr64_eq] <;> omega, rfl⟩, ?_⟩
         rw [wr64_eq (by omega)]
         show l.length - ((n : Int) + 1).toNat < l.length - ((n : Int)).toNat
         omega
       | false =>
         obtain ⟨hsk, ek⟩ := hw.keep hn hp
         simp only [zz, reduceCtorEq, hp, List.length_map, hia, getD_map hna, hga, Mov.enc, D.upd, hset]
         refine ⟨by omega, ⟨rfl, n + 1, _, hsk, by rw [ek, wr64_eq] <;> omega, by rw [wr64_eq] <;> omega, rfl⟩, ?_⟩
         rw [wr64_eq (n := (n : Int) + 1) (by omega)]
         show l.length - ((n : Int) + 1).toNat < l.length - ((n : Int)).toNat
         omega
   · have hn : n = l.length := by omega
     subst hn
     rw [kept_all] at hkl ⊢
     have hh := hw.head
     rw [kept_all] at hh
     generalize hfl : (l.filter fun c => !p c) = fl at *
     have hia : fl.length ≤ (a.map Mov.enc).length := by simp; omega
     have e2 : ((a.map Mov.enc).take fl.length) = fl.map Mov.enc := by rw [← List.map_take, hh]
     refine ⟨by omega, by omega, by simp <;> omega, ?_⟩
     rw [take_swept hia, e2]
     exact hK
def same16 (a b : Cue) : Bool := decide (a.num = b.num ∧ a.label = b.label ∧ a.block = b.block ∧ a.mark = b.mark ∧ a.follow = b.follow ∧ a.link = b.link ∧ a.loops = b.loops) && decide (a.moves = b.moves) && decide (a.parts = b.parts)
def sameGo : List Cue → List Cue → Bool
 | [], _ => true
 | a :: as_, b :: bs => if same16 a b then sameGo as_ bs else false
 | _ :: _, [] => true
def same17 (a b : Lis) : Bool := if a.num ≠ b.num ∨ a.prio ≠ b.prio ∨ a.cues.length ≠ b.cues.length then false else sameGo a.cues b.cues
theorem cloneA_ok : Contract Tryz.prog 35 fun args K => ∃ (cs : List Cue), (∀ c ∈ cs, c.Ok) ∧ cs.length ≤ 1000000 ∧ args = [.slice (cs.map Cue.enc)] ∧ K [.own 9 (cs.map Cue.enc)] := by
 refine .of c35 t35_ok ?_
 rintro _ K ⟨cs, hcs, hlen, rfl, hK⟩ hsm
 refine ⟨[.slice (cs.map Cue.enc)], rfl, ⟨cues_has hcs, trivial⟩, ?_⟩
 unfold t35
 simp only [denR]
 intro b hb
 simp only [zz, reduceCtorEq, List.length_map]
 cases b with
 | true =>
   have := hb rfl
   simp only [zz, reduceCtorEq, List.length_map] at this
   have h0 : cs = [] := List.eq_nil_of_length_eq_zero (by omega)
   subst h0
   exact ⟨fun _ => hK, fun h => by simp at h⟩
 | false => exact ⟨fun h => by simp at h, fun _ => ⟨by omega, hK⟩⟩
def putR (l : Lis) (c : Cue) : Lis × Int := if checkL order05 l ≠ 0 then (zeroL, checkL order05 l) else if check16 c ≠ 0 then (zeroL, check16 c) else if 64 < (ins c (without l.cues c.num)).length then (zeroL, 5) else ({ l with cues := ins c (without l.cues c.num) }, 0)
def dropR (l : Lis) (s : List UInt8) : Lis × Bool × Int := if given17 l s ≠ 0 then (zeroL, false, given17 l s) else ({ l with cues := without l.cues s }, decide (0 ≤ place l.cues s), 0)
noncomputable def t125 : R := .guess (.o2 .eq (.o1 .len (.var 0)) (.int .i64 0)) (.ite (.var 1) (.ret [.own 5 .nils]) (.need (.o2 .le (.o1 .len (.o2 .app .nils (.var 0))) (.int .i64 3518437208883)) (.ret [.own 5 (.o2 .app .nils (.var 0))])))
theorem t125_ok : fnO Tryz.prog mdA 125 [.cell (.slice [.int .i64, .int .i64, .int .i64, .int .i64, .int .i64])] = t125 := by kernel_rfl
theorem c125 : callable Tryz.prog 125 = true := by kernel_rfl
theorem idxGo_any {X : Type} (p : X → Bool) : ∀ (xs : List X) (i : Nat), decide (0 ≤ idxGo p i xs) = xs.any p
 | [], i => by simp [idxGo]
 | x :: xs, i => by
   simp only [idxGo, List.any_cons]
   by_cases hx : p x = true
   · simp [hx]
   · simp only [hx, if_false, Bool.false_or]; simpa [hx] using idxGo_any p xs (i + 1)
theorem cloneM_ok : Contract Tryz.prog 125 fun args K => ∃ (ms : List Mov), (∀ m ∈ ms, m.Ok) ∧ ms.length ≤ 1000000 ∧ args = [.slice (ms.map Mov.enc)] ∧ K [.own 5 (ms.map Mov.enc)] := by
 refine .of c125 t125_ok ?_
 rintro _ K ⟨cs, hcs, hlen, rfl, hK⟩ hsm
 refine ⟨[.slice (cs.map Mov.enc)], rfl, ⟨slice_has fun m hm => Mov.has (hcs m hm), trivial⟩, ?_⟩
 unfold t125
 simp only [denR]
 intro b hb
 simp only [zz, reduceCtorEq, List.length_map]
 cases b with
 | true =>
   have := hb rfl
   simp only [zz, reduceCtorEq, List.length_map] at this
   have h0 : cs = [] := List.eq_nil_of_length_eq_zero (by omega)
   subst h0
   exact ⟨fun _ => hK, fun h => by simp at h⟩
 | false => exact ⟨fun h => by simp at h, fun _ => ⟨by omega, hK⟩⟩
def dropC (c : Cue) (ps : List Par) : Cue := { c with moves := c.moves.filter fun m => !ps.any fun x => decide (x = m.pa) }
structure Putd (l : Lis) (c : Cue) : Prop where
 right : checkL order05 { l with cues := ins c (without l.cues c.num) } = 0
 find : ∃ (i : Nat) (hi : i < (ins c (without l.cues c.num)).length), findR { l with cues := ins c (without l.cues c.num) } c.num = ((i : Int), true, 0) ∧ (ins c (without l.cues c.num))[i] = c
 drop : dropR { l with cues := ins c (without l.cues c.num) } c.num = ({ l with cues := without l.cues c.num }, true, 0)
 drop0 : ∃ b, dropR l c.num = ({ l with cues := without l.cues c.num }, b, 0)
def idleGo (steps : List Ent) (ms : List Mov) : List Par := (ms.filter fun m => !steps.any fun x => decide (x.pa = m.pa)).map (·.pa)
noncomputable def t167 : R := .call none (.fn 168) [.lcons (.var 0) (.lcons (.var 1) .lnil), .lcons (.var 5) (.lcons (.var 6) .lnil)] [.cell (.int .i64)] (.ret [.d (.var 7)])
noncomputable def t85 : R := .fact (.o2 .le (.o1 .len (.var 0)) (.int .i64 140737488355328)) (.loop 0 [.int .i64 0] [.int .i64] (.ite (.o2 .lt (.var 5) (.o1 .len (.var 0))) (.need (.o2 .le (.int .i64 0) (.var 5)) (.ite (.o2 .band (.o2 .band (.o2 .eq (.var 1) (.idx (.var 0) (.var 5) 0 (.int .i64))) (.o2 .band (.o2 .eq (.var 2) (.idx (.var 0) (.var 5) 1 (.int .i64))) (.bool true))) (.o2 .band (.o2 .band (.o2 .eq (.var 3) (.idx (.var 0) (.var 5) 2 (.int .i64))) (.o2 .band (.o2 .eq (.var 4) (.idx (.var 0) (.var 5) 3 (.int .i64))) (.bool true))) (.bool true))) (.ret [.d (.var 5)]) (.again 0 [.o2 (.add .i64) (.var 5) (.int .i64 1)]))) (.ret [.d (.int .i64 (-1))])))
structure Early (l : Lis) (s : List UInt8) (n : Nat) : Prop where
 ok : Lis.Ok { l with cues := l.cues.take n }
 look : lookR { l with cues := l.cues.take n } s = (lookL (l.cues.take n) n, 0)
noncomputable def t84 : R := .fact (.o2 .le (.o1 .len (.var 0)) (.int .i64 140737488355328)) (.loop 0 [.int .i64 0] [.int .i64] (.ite (.o2 .lt (.var 2) (.o1 .len (.var 0))) (.need (.o2 .le (.int .i64 0) (.var 2)) (.call none (.val (.var 1)) [.lcons (.idx (.var 0) (.var 2) 0 (.int .i64)) (.lcons (.idx (.var 0) (.var 2) 1 (.int .i64)) (.lcons (.idx (.var 0) (.var 2) 2 (.int .i64)) (.lcons (.idx (.var 0) (.var 2) 3 (.int .i64)) .lnil)))] [.cell .bool] (.ite (.var 3) (.ret [.d (.var 2)]) (.again 0 [.o2 (.add .i64) (.var 2) (.int .i64 1)])))) (.ret [.d (.int .i64 (-1))])))
theorem t84_ok : fnO Tryz.prog mdA 84 [.cell (.slice [.int .i64, .int .i64, .int .i64, .int .i64]), .cell .fn] = t84 := by kernel_rfl
theorem c84 : callable Tryz.prog 84 = true := by kernel_rfl
theorem indexEnt_ok : Contract Tryz.prog 84 fun args K => ∃ (l : List Ent) (p : Ent → Bool) (f : FuncId) (caps : List D), (∀ m ∈ l, m.Ok) ∧ args = [.slice (l.map Ent.enc), .clo f caps] ∧ SaysOf Tryz.prog (.clo f caps) Ent.enc l p ∧ K [.d (.int .i64 (idxGo p 0 l))] := by
 refine .of c84 t84_ok ?_
 rintro _ K ⟨l, p, f, caps, hl, rfl, ⟨sf, hf, hs⟩, hK⟩ hsm
 refine ⟨[.slice (l.map Ent.enc), .clo f caps], rfl, by exact ⟨ents_has hl, trivial, trivial⟩, ?_⟩
 simp only [zz, reduceCtorEq, t84, List.length_map]
 intro hcap
 refine loop_go l (fun i l' (_ : Unit) => idxGo p i l') (fun i _ => [.int .i64 i]) () _ rfl 0 (fun _ _ => rfl) rfl ?_ ?_
 · intro i hi _ hgo
   simp only [idxGo] at hgo
   simp only [zz, reduceCtorEq, hi, List.length_map]
   refine ⟨by omega, denR_fcall (FvC.up' (s := sf) (fv := .clo f caps) hf) ⟨fun rs => rs = [.d (.bool (p l[i]))], ?_, fun rs h => ⟨[.bool (p l[i])], by rw [h]; rfl, by simp [RK.all, RK.kinds, HasKs, HasK], ?_⟩⟩⟩
   · simp only [zz, reduceCtorEq, getD_map hi, Ent.enc]
     exact hs l[i] (List.getElem_mem hi)
   · simp only [zz, reduceCtorEq]
     grind [wr64_eq]
 · intro _ hgo
   simp only [idxGo] at hgo
   simp only [zz, reduceCtorEq, List.length_map]
   rw [← hgo] at hK; exact hK
noncomputable def t72 : R := let x0 : T := .lcons (.var 1) (.lcons (.var 2) .lnil); let x1 : List K := [.int .i64, .int .i64, .int .i64, .int .i64]; let x2 : T := .lcons .nils (.lcons .nils .lnil); .call none (.fn 36) [.lcons (.var 0) x0, .var 3] [.cell (.slice x1), .cell (.int .i64)] (.ite (.o2 .ne (.var 5) (.int .i64 0)) (.ret [.d x2, .d (.int .i64 0), .d (.var 5)]) (.call none (.fn 119) [.lcons (.var 0) x0] [.cell (.slice [.slice x1]), .cell (.int .i64)] (.ite (.o2 .ne (.var 7) (.int .i64 0)) (.ret [.d x2, .d (.int .i64 0), .d (.var 7)]) (.call none (.fn 97) [.var 2, .clo 120 (.lcons (.ptr (.lcons (.var 3) .lnil)) .lnil)] [.cell (.int .i64)] (.ret [.d (.lcons (.var 2) (.lcons (.var 6) .lnil)), .d (.var 8), .d (.int .i64 0)])))))
theorem t72_ok : fnO Tryz.prog mdA 72 [.agg [.int .i64, .int .i64, .slice [.str, .str, .slice [.int .i64, .int .i64, .int .i64, .int .i64, .int .i64], .slice [.int .i64, .int .i64, .int .i64, .int .i64, .int .i64, .int .i64], .bool, .bool, .int .i64, .str, .int .i64]], .cell .str] = t72 := by kernel_rfl
theorem c72 : callable Tryz.prog 72 = true := by kernel_rfl
noncomputable def t120 : R := .ret [.d (.o2 .eq (.var 0) (.fld (.var 9) 0 .str))]
theorem t120_ok : fnO Tryz.prog mdA 120 ([.agg [.str, .str, .slice [.int .i64, .int .i64, .int .i64, .int .i64, .int .i64], .slice [.int .i64, .int .i64, .int .i64, .int .i64, .int .i64, .int .i64], .bool, .bool, .int .i64, .str, .int .i64]] ++ [.cell (.ptr [.str])]) = t120 := by kernel_rfl
theorem c120 : callable Tryz.prog 120 = true := by kernel_rfl
noncomputable def t73 : R := let x0 : T := .lcons (.var 3) (.lcons (.var 4) (.lcons (.var 5) (.lcons (.var 6) (.lcons (.var 7) (.lcons (.var 8) (.lcons (.var 9) (.lcons (.var 10) (.lcons (.var 11) (.lcons (.var 12) (.lcons (.var 13) (.lcons (.var 14) (.lcons (.var 15) (.lcons (.var 16) (.lcons (.var 17) (.lcons (.var 18) .lnil))))))))))))))); let x1 : List K := [.int .u64, .int .u64, .int .u64, .int .u64, .int .u64, .int .u64, .int .u64, .int .u64, .int .u64, .int .u64, .int .u64, .int .u64, .int .u64, .int .u64, .int .u64, .int .u64]; let x2 : T := .o2 (.sub .i64) (.var 2) (.int .i64 1); let x3 : List K := [.int .i64, .int .i64, .int .i64, .int .i64, .int .i64]; let x4 : List K := [.int .i64, .int .i64, .int .i64, .int .i64]; .ite (.o2 .lt (.var 2) (.int .i64 0)) (.ret [.d .nils]) (.need (.o2 .le (.int .i64 0) (.var 2)) (.need (.o2 .lt (.var 2) (.o1 .len (.var 1))) (.call none (.fn 100) [.idx (.var 1) (.var 2) 0 (.slice x4)] [.agg x1] (.ite (.o2 .gt (.var 2) (.int .i64 0)) (.need (.o2 .le (.int .i64 0) x2) (.need (.o2 .lt x2 (.o1 .len (.var 1))) (.call none (.fn 100) [.idx (.var 1) x2 0 (.slice x4)] [.agg x1] (.call none (.fn 76) [.lcons (.var 0) (.lcons (.var 1) .lnil), .o2 (.add .i64) (.var 2) (.int .i64 1), .clo 121 (.lcons (.ptr x0) (.lcons (.ptr (.lcons (.var 19) (.lcons (.var 20) (.lcons (.var 21) (.lcons (.var 22) (.lcons (.var 23) (.lcons (.var 24) (.lcons (.var 25) (.lcons (.var 26) (.lcons (.var 27) (.lcons (.var 28) (.lcons (.var 29) (.lcons (.var 30) (.lcons (.var 31) (.lcons (.var 32) (.lcons (.var 33) (.lcons (.var 34) .lnil))))))))))))))))) .lnil))] [.cell (.slice x3)] (.ret [.d (.var 35)]))))) (.call none (.fn 76) [.lcons (.var 0) (.lcons (.var 1) .lnil), .o2 (.add .i64) (.var 2) (.int .i64 1), .clo 121 (.lcons (.ptr x0) (.lcons (.ptr (.lcons (.int .u64 0) (.lcons (.int .u64 0) (.lcons (.int .u64 0) (.lcons (.int .u64 0) (.lcons (.int .u64 0) (.lcons (.int .u64 0) (.lcons (.int .u64 0) (.lcons (.int .u64 0) (.lcons (.int .u64 0) (.lcons (.int .u64 0) (.lcons (.int .u64 0) (.lcons (.int .u64 0) (.lcons (.int .u64 0) (.lcons (.int .u64 0) (.lcons (.int .u64 0) (.lcons (.int .u64 0) .lnil))))))))))))))))) .lnil))] [.cell (.slice x3)] (.ret [.d (.var 19)]))))))
theorem t73_ok : fnO Tryz.prog mdA 73 [.agg [.slice [.str, .str, .slice [.int .i64, .int .i64, .int .i64, .int .i64, .int .i64], .slice [.int .i64, .int .i64, .int .i64, .int .i64, .int .i64, .int .i64], .bool, .bool, .int .i64, .str, .int .i64], .slice [.slice [.int .i64, .int .i64, .int .i64, .int .i64]]], .cell (.int .i64)] = t73 := by kernel_rfl
theorem c73 : callable Tryz.prog 73 = true := by kernel_rfl
noncomputable def t121 : R := .call none (.fn 101) [.lcons (.fld (.var 5) 0 (.int .u64)) (.lcons (.fld (.var 5) 1 (.int .u64)) (.lcons (.fld (.var 5) 2 (.int .u64)) (.lcons (.fld (.var 5) 3 (.int .u64)) (.lcons (.fld (.var 5) 4 (.int .u64)) (.lcons (.fld (.var 5) 5 (.int .u64)) (.lcons (.fld (.var 5) 6 (.int .u64)) (.lcons (.fld (.var 5) 7 (.int .u64)) (.lcons (.fld (.var 5) 8 (.int .u64)) (.lcons (.fld (.var 5) 9 (.int .u64)) (.lcons (.fld (.var 5) 10 (.int .u64)) (.lcons (.fld (.var 5) 11 (.int .u64)) (.lcons (.fld (.var 5) 12 (.int .u64)) (.lcons (.fld (.var 5) 13 (.int .u64)) (.lcons (.fld (.var 5) 14 (.int .u64)) (.lcons (.fld (.var 5) 15 (.int .u64)) .lnil))))))))))))))), .var 0] [.cell .bool] (.call (some (.o1 .not (.var 7))) (.fn 101) [.lcons (.fld (.var 6) 0 (.int .u64)) (.lcons (.fld (.var 6) 1 (.int .u64)) (.lcons (.fld (.var 6) 2 (.int .u64)) (.lcons (.fld (.var 6) 3 (.int .u64)) (.lcons (.fld (.var 6) 4 (.int .u64)) (.lcons (.fld (.var 6) 5 (.int .u64)) (.lcons (.fld (.var 6) 6 (.int .u64)) (.lcons (.fld (.var 6) 7 (.int .u64)) (.lcons (.fld (.var 6) 8 (.int .u64)) (.lcons (.fld (.var 6) 9 (.int .u64)) (.lcons (.fld (.var 6) 10 (.int .u64)) (.lcons (.fld (.var 6) 11 (.int .u64)) (.lcons (.fld (.var 6) 12 (.int .u64)) (.lcons (.fld (.var 6) 13 (.int .u64)) (.lcons (.fld (.var 6) 14 (.int .u64)) (.lcons (.fld (.var 6) 15 (.int .u64)) .lnil))))))))))))))), .var 0] [.cell .bool] (.ret [.d (.ite (.o1 .not (.var 7)) (.o1 .not (.var 8)) (.bool false))]))
theorem t121_ok : fnO Tryz.prog mdA 121 ([.agg [.int .i64, .int .i64, .int .i64, .int .i64, .int .i64]] ++ [.cell (.ptr chKs), .cell (.ptr chKs)]) = t121 := by kernel_rfl
theorem c121 : callable Tryz.prog 121 = true := by kernel_rfl
noncomputable def t76 : R := let x0 : List K := [.int .i64, .int .i64, .int .i64, .int .i64, .int .i64]; let x2 : T := .o1 .len (.var 0); let x3 : T := .o2 .lt (.var 2) (.int .i64 0); let x4 : T := .o2 .le (.int .i64 0) (.var 2); let x1 : T := .o1 .not (.ite x3 (.bool true) (.o2 .ge (.var 2) x2)); .fact (.ite (.o1 .not x3) (.o2 .le x2 (.int .i64 140737488355328)) (.bool true)) (.need (.ite x1 x4 (.bool true)) (.need (.ite x1 (.o2 .lt (.var 2) x2) (.bool true)) (.ite (.ite (.ite x3 (.bool true) (.o2 .ge (.var 2) x2)) (.bool true) (.o1 .not (.idx (.var 0) (.var 2) 5 .bool))) (.ret [.d .nils]) (.need x4 (.need (.o2 .lt (.var 2) x2) (.call none (.fn 125) [.idx (.var 0) (.var 2) 2 (.slice x0)] [.own x0] (.callX false 124 [.own 5 (.var 4), .d (.clo 126 (.lcons (.ptr (.lcons (.var 3) .lnil)) .lnil))] [.own x0] (.ret [.own 5 (.var 5)]))))))))
theorem t76_ok : fnO Tryz.prog mdA 76 [.agg [.slice [.str, .str, .slice [.int .i64, .int .i64, .int .i64, .int .i64, .int .i64], .slice [.int .i64, .int .i64, .int .i64, .int .i64, .int .i64, .int .i64], .bool, .bool, .int .i64, .str, .int .i64], .slice [.slice [.int .i64, .int .i64, .int .i64, .int .i64]]], .cell (.int .i64), .cell .fn] = t76 := by kernel_rfl
theorem c76 : callable Tryz.prog 76 = true := by kernel_rfl
noncomputable def t126 : R := let x0 : T := .o2 .eq (.var 1) (.int .i64 0); .call (some (.o1 .not x0)) (.val (.fld (.var 5) 0 .fn)) [.lcons (.var 0) (.lcons (.var 1) (.lcons (.var 2) (.lcons (.var 3) (.lcons (.var 4) .lnil))))] [.cell .bool] (.ret [.d (.ite x0 (.bool true) (.o1 .not (.var 6)))])
theorem t126_ok : fnO Tryz.prog mdA 126 ([.agg [.int .i64, .int .i64, .int .i64, .int .i64, .int .i64]] ++ [.cell (.ptr [.fn])]) = t126 := by kernel_rfl
theorem c126 : callable Tryz.prog 126 = true := by kernel_rfl
noncomputable def t81 : R := let x0 : List K := [.int .i64, .int .i64, .int .i64, .int .i64]; let x1 : T := .o2 .ge (.var 7) (.int .i64 0); let x2 : T := .idx (.var 4) (.var 5) 2 (.int .i64); let x3 : T := .idx (.var 4) (.var 5) 3 (.int .i64); .need (.o2 .le (.int .i64 0) (.var 2)) (.need (.o2 .lt (.var 2) (.o1 .len (.var 1))) (.call none (.fn 128) [.idx (.var 1) (.var 2) 0 (.slice x0)] [.own x0] (.call none (.fn 73) [.lcons (.var 0) (.lcons (.var 1) .lnil), .var 2] [.cell (.slice [.int .i64, .int .i64, .int .i64, .int .i64, .int .i64])] (.fact (.o2 .le (.o1 .len (.var 4)) (.int .i64 140737488355328)) (.loop 0 [.int .i64 0, .var 3] [.int .i64, .slice x0] (.ite (.o2 .lt (.var 5) (.o1 .len (.var 4))) (.need (.o2 .le (.int .i64 0) (.var 5)) (.call none (.fn 84) [.var 6, .clo 129 (.lcons (.ptr (.lcons (.idx (.var 4) (.var 5) 0 (.int .i64)) (.lcons (.idx (.var 4) (.var 5) 1 (.int .i64)) (.lcons x2 (.lcons x3 (.lcons (.idx (.var 4) (.var 5) 4 (.int .i64)) .lnil)))))) .lnil)] [.cell (.int .i64)] (.need (.ite x1 (.o2 .le (.int .i64 0) (.var 7)) (.bool true)) (.need (.ite x1 (.o2 .lt (.var 7) (.o1 .len (.var 6))) (.bool true)) (.lets [.ite x1 (.upd (.var 6) (.var 7) 2 (.lcons x2 (.lcons x3 .lnil))) (.var 6)] (.again 0 [.o2 (.add .i64) (.var 5) (.int .i64 1), .var 8])))))) (.ret [.own 4 (.var 6)])))))))
theorem t81_ok : fnO Tryz.prog mdA 81 [.agg [.slice [.str, .str, .slice [.int .i64, .int .i64, .int .i64, .int .i64, .int .i64], .slice [.int .i64, .int .i64, .int .i64, .int .i64, .int .i64, .int .i64], .bool, .bool, .int .i64, .str, .int .i64], .slice [.slice [.int .i64, .int .i64, .int .i64, .int .i64]]], .cell (.int .i64)] = t81 := by kernel_rfl
theorem c81 : callable Tryz.prog 81 = true := by kernel_rfl
noncomputable def t129 : R := .ret [.d (.o2 .band (.o2 .eq (.var 0) (.fld (.padd (.var 4) 0) 0 (.int .i64))) (.o2 .band (.o2 .eq (.var 1) (.fld (.padd (.var 4) 0) 1 (.int .i64))) (.bool true)))]
theorem t129_ok : fnO Tryz.prog mdA 129 ([.agg [.int .i64, .int .i64, .int .i64, .int .i64]] ++ [.cell (.ptr mvKs)]) = t129 := by kernel_rfl
theorem c129 : callable Tryz.prog 129 = true := by kernel_rfl
noncomputable def t19 : R := let x0 : T := .push .nils (.lcons (.idx (.var 8) (.var 10) 0 (.int .i64)) (.lcons (.idx (.var 8) (.var 10) 1 (.int .i64)) (.lcons (.idx (.var 8) (.var 10) 2 (.int .i64)) (.lcons (.idx (.var 8) (.var 10) 3 (.int .i64)) .lnil)))); let x1 : List K := [.int .i64, .int .i64, .int .i64, .int .i64, .int .i64]; let x2 : List K := [.int .i64, .int .i64, .int .i64, .int .i64]; .call none (.fn 72) [.lcons (.var 0) (.lcons (.var 1) (.lcons (.var 2) .lnil)), .var 3] [.agg [.slice [.str, .str, .slice x1, .slice [.int .i64, .int .i64, .int .i64, .int .i64, .int .i64, .int .i64], .bool, .bool, .int .i64, .str, .int .i64], .slice [.slice x2]], .cell (.int .i64), .cell (.int .i64)] (.ite (.o2 .ne (.var 7) (.int .i64 0)) (.ret [.d .nils, .d (.var 7)]) (.call none (.fn 73) [.lcons (.var 4) (.lcons (.var 5) .lnil), .var 6] [.cell (.slice x1)] (.fact (.o2 .le (.o1 .len (.var 8)) (.int .i64 140737488355328)) (.loop 0 [.nils, .int .i64 0] [.slice x2, .int .i64] (.ite (.o2 .lt (.var 10) (.o1 .len (.var 8))) (.need (.o2 .le (.int .i64 0) (.var 10)) (.need (.o2 .le (.o1 .len (.o2 .app (.var 9) x0)) (.int .i64 4398046511104)) (.again 0 [.o2 .app (.var 9) x0, .o2 (.add .i64) (.var 10) (.int .i64 1)]))) (.ret [.own 4 (.var 9), .d (.int .i64 0)]))))))
theorem t19_ok : fnO Tryz.prog mdA 19 [.agg [.int .i64, .int .i64, .slice [.str, .str, .slice [.int .i64, .int .i64, .int .i64, .int .i64, .int .i64], .slice [.int .i64, .int .i64, .int .i64, .int .i64, .int .i64, .int .i64], .bool, .bool, .int .i64, .str, .int .i64]], .cell .str] = t19 := by kernel_rfl
theorem c19 : callable Tryz.prog 19 = true := by kernel_rfl
noncomputable def t21 : R := let x0 : T := .push .nils (.lcons (.idx (.var 9) (.var 11) 0 (.int .i64)) (.lcons (.idx (.var 9) (.var 11) 1 (.int .i64)) .lnil)); let x1 : List K := [.int .i64, .int .i64, .int .i64, .int .i64, .int .i64]; .call none (.fn 72) [.lcons (.var 0) (.lcons (.var 1) (.lcons (.var 2) .lnil)), .var 3] [.agg [.slice [.str, .str, .slice x1, .slice [.int .i64, .int .i64, .int .i64, .int .i64, .int .i64, .int .i64], .bool, .bool, .int .i64, .str, .int .i64], .slice [.slice [.int .i64, .int .i64, .int .i64, .int .i64]]], .cell (.int .i64), .cell (.int .i64)] (.ite (.o2 .ne (.var 7) (.int .i64 0)) (.ret [.d .nils, .d (.var 7)]) (.call none (.fn 73) [.lcons (.var 4) (.lcons (.var 5) .lnil), .o2 (.sub .i64) (.var 6) (.int .i64 1)] [.cell (.slice x1)] (.call none (.fn 76) [.lcons (.var 4) (.lcons (.var 5) .lnil), .var 6, .clo 77 (.lcons (.ptr (.lcons (.var 8) .lnil)) .lnil)] [.cell (.slice x1)] (.fact (.o2 .le (.o1 .len (.var 9)) (.int .i64 140737488355328)) (.loop 0 [.nils, .int .i64 0] [.slice [.int .i64, .int .i64], .int .i64] (.ite (.o2 .lt (.var 11) (.o1 .len (.var 9))) (.need (.o2 .le (.int .i64 0) (.var 11)) (.need (.o2 .le (.o1 .len (.o2 .app (.var 10) x0)) (.int .i64 8796093022208)) (.again 0 [.o2 .app (.var 10) x0, .o2 (.add .i64) (.var 11) (.int .i64 1)]))) (.ret [.own 2 (.var 10), .d (.int .i64 0)])))))))
theorem t21_ok : fnO Tryz.prog mdA 21 [.agg [.int .i64, .int .i64, .slice [.str, .str, .slice [.int .i64, .int .i64, .int .i64, .int .i64, .int .i64], .slice [.int .i64, .int .i64, .int .i64, .int .i64, .int .i64, .int .i64], .bool, .bool, .int .i64, .str, .int .i64]], .cell .str] = t21 := by kernel_rfl
theorem c21 : callable Tryz.prog 21 = true := by kernel_rfl
noncomputable def t77 : R := .call none (.fn 78) [.fld (.var 5) 0 (.slice [.int .i64, .int .i64, .int .i64, .int .i64, .int .i64]), .lcons (.var 0) (.lcons (.var 1) (.lcons (.var 2) (.lcons (.var 3) (.lcons (.var 4) .lnil))))] [.cell .bool] (.ret [.d (.o1 .not (.var 6))])
theorem t77_ok : fnO Tryz.prog mdA 77 ([.agg [.int .i64, .int .i64, .int .i64, .int .i64, .int .i64]] ++ [.cell (.ptr [.slice mvKs])]) = t77 := by kernel_rfl
theorem c77 : callable Tryz.prog 77 = true := by kernel_rfl
noncomputable def t78 : R := .call none (.fn 127) [.var 0, .lcons (.var 1) (.lcons (.var 2) (.lcons (.var 3) (.lcons (.var 4) (.lcons (.var 5) .lnil))))] [.cell (.int .i64)] (.ret [.d (.o2 .ge (.var 6) (.int .i64 0))])
theorem t78_ok : fnO Tryz.prog mdA 78 [.cell (.slice [.int .i64, .int .i64, .int .i64, .int .i64, .int .i64]), .agg [.int .i64, .int .i64, .int .i64, .int .i64, .int .i64]] = t78 := by kernel_rfl
theorem c78 : callable Tryz.prog 78 = true := by kernel_rfl
noncomputable def t127 : R := .fact (.o2 .le (.o1 .len (.var 0)) (.int .i64 140737488355328)) (.loop 0 [.int .i64 0] [.int .i64] (.ite (.o2 .lt (.var 6) (.o1 .len (.var 0))) (.need (.o2 .le (.int .i64 0) (.var 6)) (.ite (.o2 .band (.o2 .band (.o2 .eq (.var 1) (.idx (.var 0) (.var 6) 0 (.int .i64))) (.o2 .band (.o2 .eq (.var 2) (.idx (.var 0) (.var 6) 1 (.int .i64))) (.bool true))) (.o2 .band (.o2 .band (.o2 .eq (.var 3) (.idx (.var 0) (.var 6) 2 (.int .i64))) (.o2 .band (.o2 .eq (.var 4) (.idx (.var 0) (.var 6) 3 (.int .i64))) (.bool true))) (.o2 .band (.o2 .eq (.var 5) (.idx (.var 0) (.var 6) 4 (.int .i64))) (.bool true)))) (.ret [.d (.var 6)]) (.again 0 [.o2 (.add .i64) (.var 6) (.int .i64 1)]))) (.ret [.d (.int .i64 (-1))])))
theorem t127_ok : fnO Tryz.prog mdA 127 [.cell (.slice [.int .i64, .int .i64, .int .i64, .int .i64, .int .i64]), .agg [.int .i64, .int .i64, .int .i64, .int .i64, .int .i64]] = t127 := by kernel_rfl
theorem c127 : callable Tryz.prog 127 = true := by kernel_rfl
noncomputable def t25 : R := let x0 : List K := [.int .i64, .int .i64, .int .i64, .int .i64]; .call none (.fn 72) [.lcons (.var 0) (.lcons (.var 1) (.lcons (.var 2) .lnil)), .var 3] [.agg [.slice [.str, .str, .slice [.int .i64, .int .i64, .int .i64, .int .i64, .int .i64], .slice [.int .i64, .int .i64, .int .i64, .int .i64, .int .i64, .int .i64], .bool, .bool, .int .i64, .str, .int .i64], .slice [.slice x0]], .cell (.int .i64), .cell (.int .i64)] (.ite (.o2 .ne (.var 7) (.int .i64 0)) (.ret [.d .nils, .d (.var 7)]) (.call none (.fn 81) [.lcons (.var 4) (.lcons (.var 5) .lnil), .var 6] [.cell (.slice x0)] (.ret [.d (.var 8), .d (.int .i64 0)])))
theorem t25_ok : fnO Tryz.prog mdA 25 [.agg [.int .i64, .int .i64, .slice [.str, .str, .slice [.int .i64, .int .i64, .int .i64, .int .i64, .int .i64], .slice [.int .i64, .int .i64, .int .i64, .int .i64, .int .i64, .int .i64], .bool, .bool, .int .i64, .str, .int .i64]], .cell .str] = t25 := by kernel_rfl
theorem c25 : callable Tryz.prog 25 = true := by kernel_rfl
noncomputable def t27 : R := let x2 : List K := [.int .i64, .int .i64, .int .i64, .int .i64]; let x5 : T := .lcons (.var 5) .lnil; let x6 : T := .idx (.var 9) (.var 11) 2 (.int .i64); let x7 : T := .idx (.var 9) (.var 11) 3 (.int .i64); let x8 : T := .idx (.var 8) (.var 10) 2 (.int .i64); let x9 : T := .idx (.var 8) (.var 10) 3 (.int .i64); let x10 : T := .o1 .len (.var 8); let x0 : T := .o2 .app (.var 10) (.push .nils (.lcons (.idx (.var 9) (.var 11) 0 (.int .i64)) (.lcons (.idx (.var 9) (.var 11) 1 (.int .i64)) (.lcons x6 (.lcons x7 .lnil))))); let x1 : T := .o2 .app (.var 9) (.push .nils (.lcons (.idx (.var 8) (.var 10) 0 (.int .i64)) (.lcons (.idx (.var 8) (.var 10) 1 (.int .i64)) (.lcons x8 (.lcons x9 .lnil))))); let x3 : T := .o1 .not (.o2 .band (.o2 .eq x8 (.int .i64 (-1))) (.o2 .band (.o2 .eq x9 (.int .i64 0)) (.bool true))); let x4 : T := .o1 .not (.o2 .band (.o2 .eq x6 (.var 12)) (.o2 .band (.o2 .eq x7 (.var 13)) (.bool true))); .call none (.fn 72) [.lcons (.var 0) (.lcons (.var 1) (.lcons (.var 2) .lnil)), .var 3] [.agg [.slice [.str, .str, .slice [.int .i64, .int .i64, .int .i64, .int .i64, .int .i64], .slice [.int .i64, .int .i64, .int .i64, .int .i64, .int .i64, .int .i64], .bool, .bool, .int .i64, .str, .int .i64], .slice [.slice x2]], .cell (.int .i64), .cell (.int .i64)] (.ite (.o2 .ne (.var 7) (.int .i64 0)) (.ret [.d .nils, .d (.var 7)]) (.ite (.o2 .gt (.var 6) (.int .i64 0)) (.call none (.fn 81) [.lcons (.var 4) x5, .o2 (.sub .i64) (.var 6) (.int .i64 1)] [.cell (.slice x2)] (.call none (.fn 81) [.lcons (.var 4) x5, .var 6] [.cell (.slice x2)] (.fact (.o2 .le (.o1 .len (.var 9)) (.int .i64 140737488355328)) (.loop 0 [.nils, .int .i64 0] [.slice x2, .int .i64] (.ite (.o2 .lt (.var 11) (.o1 .len (.var 9))) (.need (.o2 .le (.int .i64 0) (.var 11)) (.need (.o2 .lt (.var 11) x10) (.lets [.idx (.var 8) (.var 11) 2 (.int .i64), .idx (.var 8) (.var 11) 3 (.int .i64)] (.need (.ite x4 (.o2 .le (.o1 .len x0) (.int .i64 4398046511104)) (.bool true)) (.lets [.ite x4 x0 (.var 10)] (.again 0 [.var 14, .o2 (.add .i64) (.var 11) (.int .i64 1)])))))) (.ret [.own 4 (.var 10), .d (.int .i64 0)])))))) (.call none (.fn 81) [.lcons (.var 4) x5, .var 6] [.cell (.slice x2)] (.fact (.o2 .le x10 (.int .i64 140737488355328)) (.loop 0 [.nils, .int .i64 0] [.slice x2, .int .i64] (.ite (.o2 .lt (.var 10) x10) (.need (.o2 .le (.int .i64 0) (.var 10)) (.need (.ite x3 (.o2 .le (.o1 .len x1) (.int .i64 4398046511104)) (.bool true)) (.lets [.ite x3 x1 (.var 9)] (.again 0 [.var 11, .o2 (.add .i64) (.var 10) (.int .i64 1)])))) (.ret [.own 4 (.var 9), .d (.int .i64 0)])))))))
theorem t27_ok : fnO Tryz.prog mdA 27 [.agg [.int .i64, .int .i64, .slice [.str, .str, .slice [.int .i64, .int .i64, .int .i64, .int .i64, .int .i64], .slice [.int .i64, .int .i64, .int .i64, .int .i64, .int .i64, .int .i64], .bool, .bool, .int .i64, .str, .int .i64]], .cell .str] = t27 := by kernel_rfl
theorem c27 : callable Tryz.prog 27 = true := by kernel_rfl
theorem cue18_check {l : Lis} {s : List UInt8} (h : cue18 l s = 0) : checkL order05 l = 0 := by
 unfold cue18 at h
 split at h
 · contradiction
 · rename_i h1; simpa using h1
def sheE (l : Lis) : List D := [.slice (l.cues.map Cue.enc), .slice ((sheetL l.cues l.cues.length).map enS)]
abbrev shKs : List K := [.slice cueKs, .slice [.slice enKs]]
theorem sheL_has {l : Lis} (hR : RightT l) : HasK (.slice [.slice enKs]) (.slice ((sheetL l.cues l.cues.length).map enS)) := sheet_has fun x hx e he => by
 simp only [sheetL, List.mem_map] at hx
 obtain ⟨k, _, rfl⟩ := hx
 exact lookL_ok hR _ e he
theorem she_has {l : Lis} (hR : RightT l) {ks : List K} {ds : List D} (h : HasKs ks ds) : HasKs (shKs ++ ks) (sheE l ++ ds) :=
 HasKs.append (show HasKs shKs (sheE l) from ⟨cues_has hR.ok.cues, sheL_has hR, trivial⟩) h
theorem she_get {l : Lis} {n : Nat} (hn : n < l.cues.length) : ((sheetL l.cues l.cues.length).map enS).getD n [] = enS (lookL l.cues (n + 1)) := by
 rw [getD_map (by rw [sheetL_len]; exact hn)]
 simp [sheetL]
theorem she_len (l : Lis) : ((sheetL l.cues l.cues.length).map enS).length = l.cues.length := by simp [sheetL_len]
theorem isNum_ok : Contract Tryz.prog 120 fun args K => ∃ (c : Cue) (s : List UInt8), c.Ok ∧ args = [.agg c.enc, .ptr [.str s]] ∧ K [.d (.bool (c.num == s))] := by
 refine .of c120 t120_ok ?_
 rintro _ K ⟨c, s, hc, rfl, hK⟩ hsm
 refine ⟨c.enc ++ [.ptr [.str s]], rfl, by exact (Cue.has hc).append (show HasKs [.ptr [.str]] [.ptr [.str s]] from ⟨⟨trivial, trivial⟩, trivial⟩), ?_⟩
 simp only [zz, reduceCtorEq, t120, Cue.enc]
 exact hK
theorem isNum_says (l : List Cue) (hl : ∀ c ∈ l, c.Ok) (s : List UInt8) : SaysOf Tryz.prog (.clo 120 [.ptr [.str s]]) Cue.enc l (fun c => c.num == s) := by
 refine ⟨fun as_ K => ∃ c : Cue, c.Ok ∧ as_ = [.agg c.enc] ∧ K [.d (.bool (c.num == s))], FvC.of c120 isNum_ok ?_, fun c hc => ⟨c, hl c hc, rfl, rfl⟩⟩
 rintro _ K ⟨c, hc, rfl, hK⟩
 refine ⟨⟨c, s, hc, rfl, hK⟩, argsTyped_of [some (.agg cueKs)] (by kernel_rfl) ?_⟩
 intro i rk d h1 h2
 cases i with
 | zero => simp at h1 h2; subst h1 h2; exact Cue.has hc
 | succ i => simp at h1
theorem mopen_ok : Contract Tryz.prog 72 fun args K => ∃ (l : Lis) (s : List UInt8), l.Ok ∧ args = [.agg l.enc, .str s] ∧
   K (if cue18 l s ≠ 0 then [.d (.agg [.slice [], .slice []]), .d (.int .i64 0), .d (.int .i64 (cue18 l s))] else [.d (.agg (sheE l)), .d (.int .i64 ((upto l s : Int) - 1)), .d (.int .i64 0)]) := by
 refine .of c72 t72_ok ?_
 rintro _ K ⟨l, s, hl, rfl, hK⟩ hsm
 refine ⟨l.enc ++ [.str s], rfl, by exact has_s hl, ?_⟩
 refine denR_call lookC_ok ⟨l, s, hl, by simp only [zz, reduceCtorEq, Lis.enc], ?_⟩
 by_cases h : cue18 l s = 0
 · obtain ⟨hR, h05, hpl, hup, hu0, hul⟩ := cue18_right hl h
   have hch := cue18_check h
   rw [if_neg (by simp [h])] at hK
   have e : lookR l s = (lookL l.cues (upto l s), 0) := by unfold lookR; rw [if_neg (by simp [h])]
   rw [e]
   refine ⟨_, rfl, ?_⟩
   simp only [zz, reduceCtorEq, Lis.enc, entRV]
   refine denR_call sheetC_ok ⟨l, hl, by simp only [zz, reduceCtorEq, Lis.enc], ?_⟩
   rw [sheetR_right hch]
   intro rvs hr
   refine ⟨[.slice ((sheetL l.cues l.cues.length).map enS), .int .i64 0], by rcases hr with rfl | rfl <;> rfl, ?_⟩
   simp only [zz, reduceCtorEq, Lis.enc]
   refine denR_call indexCue_ok ⟨l.cues, fun c => c.num == s, 120, [.ptr [.str s]], hl.cues, by simp only [zz, reduceCtorEq, Lis.enc], isNum_says l.cues hl.cues s, _, rfl, ?_⟩
   simp only [zz, reduceCtorEq, Lis.enc]
   rw [← hup] at hK
   exact hK
 · rw [if_pos h] at hK
   have e : lookR l s = ([], cue18 l s) := by unfold lookR; rw [if_pos h]
   rw [e]
   refine ⟨_, rfl, ?_⟩
   simp only [zz, reduceCtorEq, Lis.enc, entRV]
   exact ⟨fun _ => hK, fun h' => (h (by simpa using h')).elim⟩
theorem early1_ok : Contract Tryz.prog 121 fun args K => ∃ (m : Mov) (a b : List Nat), m.Ok ∧ param15 m.pa = 0 ∧ a.length = 16 ∧ b.length = 16 ∧ (∀ w ∈ a, w < 2 ^ 64) ∧ (∀ w ∈ b, w < 2 ^ 64) ∧ args = [.agg m.enc, .ptr (encW a), .ptr (encW b)] ∧
   K [.d (.bool (!hasW a m.pa.ch.toNat && !hasW b m.pa.ch.toNat))] := by
 refine .of c121 t121_ok ?_
 rintro _ K ⟨m, a, b, hm, hp, hal, hbl, ha, hb, rfl, hK⟩ hsm
 have hpi := param15_ok' hp
 have hch : (m.pa.ch.toNat : Int) = m.pa.ch := by omega
 refine ⟨m.enc ++ [.ptr (encW a), .ptr (encW b)], rfl, by exact (Mov.has hm).append (show HasKs [.ptr chKs, .ptr chKs] [.ptr (encW a), .ptr (encW b)] from ⟨encW_ch hal ha, encW_ch hbl hb, trivial⟩), ?_⟩
 match a, hal with
 | [a0, a1, a2, a3, a4, a5, a6, a7, a8, a9, a10, a11, a12, a13, a14, a15], _ =>
 match b, hbl with
 | [b0, b1, b2, b3, b4, b5, b6, b7, b8, b9, b10, b11, b12, b13, b14, b15], _ =>
 refine denR_call mhas_ok ⟨[a0, a1, a2, a3, a4, a5, a6, a7, a8, a9, a10, a11, a12, a13, a14, a15], m.pa.ch.toNat, rfl, ha, by omega, by simp only [zz, reduceCtorEq, Mov.enc, encW, hch], _, rfl, ?_⟩
 generalize hasW [a0, a1, a2, a3, a4, a5, a6, a7, a8, a9, a10, a11, a12, a13, a14, a15] m.pa.ch.toNat = x at hK ⊢
 cases x with
 | true =>
   refine denR_gcall mhas_ok false [.bool false] (by simp only [zz, reduceCtorEq, Mov.enc]) (fun e => by cases e) (fun _ => rfl) ?_
   simp only [zz, reduceCtorEq, Mov.enc]
   exact hK
 | false =>
   refine denR_gcall mhas_ok true [.bool (hasW [b0, b1, b2, b3, b4, b5, b6, b7, b8, b9, b10, b11, b12, b13, b14, b15] m.pa.ch.toNat)] (by simp only [zz, reduceCtorEq, Mov.enc]) (fun _ => ⟨[b0, b1, b2, b3, b4, b5, b6, b7, b8, b9, b10, b11, b12, b13, b14, b15], m.pa.ch.toNat, rfl, hb, by omega, by simp only [zz, reduceCtorEq, Mov.enc, encW, hch], rfl⟩) (fun e => by cases e) ?_
   simp only [zz, reduceCtorEq, Mov.enc]
   simpa using hK
theorem early1_says {ms : List Mov} (hms : ∀ m ∈ ms, m.Ok) (hp : ∀ m ∈ ms, param15 m.pa = 0) {a b : List Nat} (hal : a.length = 16) (hbl : b.length = 16) (ha : ∀ w ∈ a, w < 2 ^ 64) (hb : ∀ w ∈ b, w < 2 ^ 64) :
   SaysOf Tryz.prog (.clo 121 [.ptr (encW a), .ptr (encW b)]) Mov.enc ms fun m => !hasW a m.pa.ch.toNat && !hasW b m.pa.ch.toNat := by
 refine ⟨fun as_ K => ∃ m : Mov, m.Ok ∧ param15 m.pa = 0 ∧ as_ = [.agg m.enc] ∧ K [.d (.bool (!hasW a m.pa.ch.toNat && !hasW b m.pa.ch.toNat))], FvC.of c121 early1_ok ?_, fun m hm => ⟨m, hms m hm, hp m hm, rfl, rfl⟩⟩
 rintro _ K ⟨m, hm, hpm, rfl, hK⟩
 refine ⟨⟨m, a, b, hm, hpm, hal, hbl, ha, hb, rfl, hK⟩, argsTyped_of [some (.agg mvKs)] (by kernel_rfl) ?_⟩
 intro i rk d h1 h2
 cases i with
 | zero => simp at h1 h2; subst h1 h2; exact Mov.has hm
 | succ i => simp at h1
theorem moves1_ok : Contract Tryz.prog 126 fun args K => ∃ (m : Mov) (p : Mov → Bool) (f : FuncId) (caps : List D), m.Ok ∧ SaysOf Tryz.prog (.clo f caps) Mov.enc [m] p ∧ args = [.agg m.enc, .ptr [.clo f caps]] ∧
   K [.d (.bool (decide (m.pa.at_ = 0) || !p m))] := by
 refine .of c126 t126_ok ?_
 rintro _ K ⟨m, p, f, caps, hm, ⟨sf, hf, hs⟩, rfl, hK⟩ hsm
 refine ⟨m.enc ++ [.ptr [.clo f caps]], rfl, by exact (Mov.has hm).append (show HasKs [.ptr [.fn]] [.ptr [.clo f caps]] from ⟨⟨trivial, trivial⟩, trivial⟩), ?_⟩
 by_cases h : m.pa.at_ = 0
 · refine denR_gfcall (s := fun _ _ => True) false [.bool false] (by simp only [zz, reduceCtorEq, Mov.enc, h]) (fun e => by cases e) (fun _ => rfl) ?_
   simp only [zz, reduceCtorEq, Mov.enc, h]
   simpa [h] using hK
 · refine denR_gfcall (s := sf.up) true [.bool (p m)] (by simp only [zz, reduceCtorEq, Mov.enc]; simp [h]) (fun _ => ⟨?_, fun rs => rs = [.d (.bool (p m))], ?_, fun rs hr => ⟨[.bool (p m)], by rw [hr]; rfl, by simp [RK.all, RK.kinds, HasKs, HasK], rfl⟩⟩) (fun e => by cases e) ?_
   · exact FvC.up' (s := sf) (fv := .clo f caps) hf
   · simp only [zz, reduceCtorEq, Mov.enc]
     exact hs m (by simp)
   · simp only [zz, reduceCtorEq, Mov.enc]
     simpa [h] using hK
theorem moves1_says {ms : List Mov} (hms : ∀ m ∈ ms, m.Ok) {p : Mov → Bool} {f : FuncId} {caps : List D} (h : SaysOf Tryz.prog (.clo f caps) Mov.enc ms p) : SaysOf Tryz.prog (.clo 126 [.ptr [.clo f caps]]) Mov.enc ms fun m => decide (m.pa.at_ = 0) || !p m := by
 obtain ⟨sf, hf, hs⟩ := h
 refine ⟨fun as_ K => ∃ m : Mov, m ∈ ms ∧ as_ = [.agg m.enc] ∧ K [.d (.bool (decide (m.pa.at_ = 0) || !p m))], FvC.of c126 moves1_ok ?_, fun m hm => ⟨m, hm, rfl, rfl⟩⟩
 rintro _ K ⟨m, hm, rfl, hK⟩
 refine ⟨⟨m, p, f, caps, hms m hm, ⟨sf, hf, fun x hx => by simp at hx; subst hx; exact hs _ hm⟩, rfl, hK⟩, argsTyped_of [some (.agg mvKs)] (by kernel_rfl) ?_⟩
 intro i rk d h1 h2
 cases i with
 | zero => simp at h1 h2; subst h1 h2; exact Mov.has (hms m hm)
 | succ i => simp at h1
def keepM (cs : List Cue) (i : Int) (p : Mov → Bool) : List Mov := if i < 0 then [] else match cs[i.toNat]? with
 | some c => if c.mark then c.moves.filter fun m => !(decide (m.pa.at_ = 0) || !p m) else []
 | none => []
theorem mmoves_ok : Contract Tryz.prog 76 fun args K => ∃ (l : Lis) (i : Int) (p : Mov → Bool) (f : FuncId) (caps : List D), RightT l ∧ I64 i ∧ (∀ c ∈ l.cues, l.cues[i.toNat]? = some c → SaysOf Tryz.prog (.clo f caps) Mov.enc c.moves p) ∧ args = [.agg (sheE l), .int .i64 i, .clo f caps] ∧
   ∀ rvs, (rvs = [.d (.slice ((keepM l.cues i p).map Mov.enc))] ∨ rvs = [.own 5 ((keepM l.cues i p).map Mov.enc)]) → K rvs := by
 refine .of c76 t76_ok ?_
 rintro _ K ⟨l, i, p, f, caps, hR, hi, hs, rfl, hK⟩ hsm
 refine ⟨sheE l ++ [.int .i64 i, .clo f caps], rfl, by exact she_has hR (show HasKs [.int .i64, .fn] [.int .i64 i, .clo f caps] from ⟨i64_has hi, trivial, trivial⟩), ?_⟩
 simp only [zz, reduceCtorEq, t76, sheE, List.length_map]
 intro hcap
 refine ⟨?_, ?_, ?_⟩
 · split <;> simp_all
 · split <;> simp_all
 by_cases h : i < 0 ∨ (l.cues.length : Int) ≤ i
 · have e : keepM l.cues i p = [] := by
     unfold keepM
     split
     · rfl
     · rename_i h0
       rw [List.getElem?_eq_none (by omega)]
   rw [e] at hK
   exact ⟨fun _ => hK _ (.inl rfl), fun hh => by exfalso; grind⟩
 · obtain ⟨n, rfl⟩ : ∃ n : Nat, i = n := ⟨i.toNat, by omega⟩
   have hn : n < l.cues.length := by omega
   have hc0 : l.cues[(n : Int).toNat]? = some l.cues[n] := by simp [hn]
   have e : keepM l.cues n p = if l.cues[n].mark then l.cues[n].moves.filter fun m => !(decide (m.pa.at_ = 0) || !p m) else [] := by
     unfold keepM
     rw [if_neg (by omega), hc0]
   rw [e] at hK
   have hok := hR.ok.cues _ (List.getElem_mem hn)
   have hM := hR.moves _ (List.getElem_mem hn)
   simp only [zz, reduceCtorEq, getD_map hn, Cue.enc, hn]
   refine ⟨fun hh => ?_, fun hh => ?_⟩
   · have hm : l.cues[n].mark = false := by grind
     rw [hm] at hK
     exact hK _ (.inl rfl)
   · have hm : l.cues[n].mark = true := by grind
     rw [hm] at hK
     simp only [if_true] at hK
     refine ⟨by omega, ?_⟩
     have hlen := hM.len
     refine denR_call cloneM_ok ⟨l.cues[n].moves, hok.moves, by omega, by simp only [zz, reduceCtorEq, getD_map hn, Cue.enc], _, rfl, ?_⟩
     refine denR_callX delMov_ok ⟨[.slice (l.cues[n].moves.map Mov.enc), .clo 126 [.ptr [.clo f caps]]], rfl, ⟨slice_has fun m hm => Mov.has (hok.moves m hm), trivial, trivial⟩⟩ (fun e => by cases e)
       ⟨l.cues[n].moves, fun m => decide (m.pa.at_ = 0) || !p m, 126, [.ptr [.clo f caps]], hok.moves, by omega, by simp only [zz, reduceCtorEq], moves1_says hok.moves (hs _ (List.getElem_mem hn) hc0), ⟨_, rfl, ?_⟩⟩
     simp only [zz, reduceCtorEq]
     exact hK _ (.inr rfl)
theorem keepM_early {l : Lis} (hl : l.Ok) (h : checkL order05 l = 0) {n : Nat} (h0 : 0 < n) (b : List Nat) (hb : b = litW (lookL l.cues (n - 1)) ∨ (n = 1 ∧ b = List.replicate 16 0)) :
   keepM l.cues n (fun m => !hasW (litW (lookL l.cues n)) m.pa.ch.toNat && !hasW b m.pa.ch.toNat) = earlyM l.cues n := by
 unfold keepM earlyM
 rw [if_neg (by omega), if_neg (by omega)]
 simp only [Int.toNat_natCast]
 cases hc : l.cues[n]? with
 | none => rfl
 | some c =>
   simp only
   split
   · refine List.filter_congr fun m hm => ?_
     have hM := (rightT_of hl h).moves c (List.mem_of_getElem? hc)
     have hp := param15_ok' (hM.par m hm)
     have hch : (m.pa.ch.toNat : Int) = m.pa.ch := by omega
     have e1 := isDark_lit (look_right hl h n) m.pa.ch.toNat
     have e2 : isDark (lookL l.cues (n - 1)) m.pa.ch = !hasW b m.pa.ch.toNat := by
       rcases hb with rfl | ⟨rfl, rfl⟩
       · have := isDark_lit (look_right hl h (n - 1)) m.pa.ch.toNat
         rw [hch] at this; exact this
       · rw [hasW_none]
         have hz := isDark_any (c := m.pa.ch) (look_right hl h 0).val (look_right hl h 0).rising
         rw [hz]
         have : ((lookL l.cues 0).any fun e => decide (e.pa.ch = m.pa.ch ∧ e.pa.at_ = 0) && litV e.va) = false := by
           rw [List.any_eq_false]
           intro e he
           rw [look_zero] at he
           obtain ⟨q, _, rfl⟩ := List.mem_map.1 he
           simp [litV, hval]
         rw [this]
     rw [hch] at e1
     unfold earlyB
     rw [e1, e2]
     cases decide (m.pa.at_ = 0) <;> simp
   · rfl
theorem look_par {l : Lis} (hl : l.Ok) (h : checkL order05 l = 0) (n : Nat) : ∀ e ∈ lookL l.cues n, param15 e.pa = 0 := (look_right hl h n).par
theorem mearly_ok : Contract Tryz.prog 73 fun args K => ∃ (l : Lis) (n : Nat), l.Ok ∧ checkL order05 l = 0 ∧ n ≤ l.cues.length ∧ args = [.agg (sheE l), .int .i64 ((n : Int) - 1)] ∧ K [.d (.slice ((earlyM l.cues n).map Mov.enc))] := by
 refine .of c73 t73_ok ?_
 rintro _ K ⟨l, n, hl, h, hn, rfl, hK⟩ hsm
 have hR := rightT_of hl h
 have hlen := hR.len
 have h64 : I64 ((n : Int) - 1) := ⟨by omega, by omega⟩
 refine ⟨sheE l ++ [.int .i64 ((n : Int) - 1)], rfl, by exact she_has hR (i64_one h64), ?_⟩
 simp only [zz, reduceCtorEq, t73, sheE]
 refine ⟨fun hh => ?_, fun hh => ?_⟩
 · have : n = 0 := by omega
   subst this
   exact hK
 have h0 : 0 < n := by omega
 obtain ⟨k, rfl⟩ : ∃ k, n = k + 1 := ⟨n - 1, by omega⟩
 have e1 : (((k + 1 : Nat) : Int) - 1) = (k : Int) := by omega
 have hk : k < l.cues.length := by omega
 have hw1 : wr64 ((k : Int) + 1) = ((k + 1 : Nat) : Int) := by rw [wr64_eq] <;> omega
 have hsl := she_len l
 rw [e1]
 simp only [zz, reduceCtorEq, hsl, she_get hk, enS]
 refine ⟨by omega, by omega, ?_⟩
 have hsays : ∀ (b : List Nat), b.length = 16 → (∀ w ∈ b, w < 2 ^ 64) → ∀ c ∈ l.cues, l.cues[((k + 1 : Nat) : Int).toNat]? = some c → SaysOf Tryz.prog (.clo 121 [.ptr (encW (litW (lookL l.cues (k + 1)))), .ptr (encW b)]) Mov.enc c.moves fun m => !hasW (litW (lookL l.cues (k + 1))) m.pa.ch.toNat && !hasW b m.pa.ch.toNat :=
   fun b hb1 hb2 c hc _ => early1_says (hl.cues c hc).moves (hR.moves c hc).par (litW_ok _).1 hb1 (litW_ok _).2 hb2
 refine denR_call lit_ok ⟨lookL l.cues (k + 1), lookL_ok hR _, look_par hl h _, by simp only [zz, reduceCtorEq, she_get hk, enS], ?_⟩
 obtain ⟨w1, w2⟩ := litW_ok (lookL l.cues (k + 1))
 have hke := fun b hb => keepM_early hl h (n := k + 1) (by omega) b hb
 generalize litW (lookL l.cues (k + 1)) = zs at w1 w2 hsays hke ⊢
 match zs, w1 with
 | [a0, a1, a2, a3, a4, a5, a6, a7, a8, a9, a10, a11, a12, a13, a14, a15], _ =>
 refine ⟨_, rfl, ?_⟩
 simp only [zz, reduceCtorEq, encW, hsl]
 refine ⟨fun hk0 => ?_, fun hk0 => ?_⟩
 · have e2 : wr64 ((k : Int) - 1) = ((k - 1 : Nat) : Int) := by rw [wr64_eq] <;> omega
   have hk1 : k - 1 < l.cues.length := by omega
   have e3 : k - 1 + 1 = k := by omega
   simp only [zz, reduceCtorEq, e2, she_get hk1, enS]
   refine ⟨by omega, by omega, ?_⟩
   refine denR_call lit_ok ⟨lookL l.cues k, lookL_ok hR _, look_par hl h _, by simp only [zz, reduceCtorEq, e2, she_get hk1, enS, e3], ?_⟩
   obtain ⟨v1, v2⟩ := litW_ok (lookL l.cues k)
   have hs2 := hsays (litW (lookL l.cues k)) v1 v2
   have hk2 := hke (litW (lookL l.cues k)) (.inl rfl)
   generalize litW (lookL l.cues k) = ys at v1 v2 hs2 hk2 ⊢
   match ys, v1 with
   | [b0, b1, b2, b3, b4, b5, b6, b7, b8, b9, b10, b11, b12, b13, b14, b15], _ =>
   refine ⟨_, rfl, ?_⟩
   refine denR_call mmoves_ok ⟨l, ((k + 1 : Nat) : Int), _, 121, _, hR, ⟨by omega, by omega⟩, hs2, by simp only [zz, reduceCtorEq, encW, sheE, hw1], fun rvs hr => ⟨[.slice ((earlyM l.cues (k + 1)).map Mov.enc)], ?_, ?_⟩⟩
   · rw [hk2] at hr; rcases hr with rfl | rfl <;> rfl
   · simp only [zz, reduceCtorEq]
     exact hK
 · have hk0 : k = 0 := by omega
   subst hk0
   have hs2 := hsays (List.replicate 16 0) (by simp) (by simp)
   have hk2 := hke (List.replicate 16 0) (.inr ⟨rfl, rfl⟩)
   refine denR_call mmoves_ok ⟨l, ((0 + 1 : Nat) : Int), _, 121, _, hR, ⟨by omega, by omega⟩, hs2, by simp only [zz, reduceCtorEq, encW, sheE, hw1]; rfl, fun rvs hr => ⟨[.slice ((earlyM l.cues (0 + 1)).map Mov.enc)], ?_, ?_⟩⟩
   · rw [hk2] at hr; rcases hr with rfl | rfl <;> rfl
   · simp only [zz, reduceCtorEq]
     exact hK
noncomputable def t20 : R := let x0 : T := .lcons (.var 1) (.lcons (.var 2) .lnil); .call none (.fn 74) [.lcons (.var 0) x0, .var 3] [.cell (.int .i64)] (.ite (.o2 .ne (.var 4) (.int .i64 0)) (.ret [.d .nils, .d (.var 4)]) (.call none (.fn 50) [.lcons (.var 0) x0, .var 3] [.cell (.int .i64)] (.call none (.fn 75) [.lcons (.var 0) x0, .var 5] [.cell (.slice [.int .i64, .int .i64, .int .i64, .int .i64])] (.ret [.d (.var 6), .d (.int .i64 0)]))))
noncomputable def t75 : R := let x1 : T := .o2 (.add .i64) (.var 3) (.int .i64 1); let x5 : List K := [.int .i64, .int .i64, .int .i64, .int .i64]; let x6 : T := .o1 .len (.var 2); let x7 : T := .o2 .lt (.var 3) (.int .i64 0); let x8 : T := .lcons (.var 1) (.lcons (.var 2) .lnil); let x0 : T := .idx (.var 2) x1 2 (.slice [.int .i64, .int .i64, .int .i64, .int .i64, .int .i64]); let x4 : T := .o1 .not (.ite x7 (.bool true) (.o2 .ge x1 x6)); let x9 : T := .idx x0 (.var 5) 1 (.int .i64); let x2 : T := .o2 .ne x9 (.int .i64 0); let x3 : T := .o2 .app (.var 4) (.push .nils (.lcons (.idx x0 (.var 5) 0 (.int .i64)) (.lcons x9 (.lcons (.idx x0 (.var 5) 2 (.int .i64)) (.lcons (.idx x0 (.var 5) 3 (.int .i64)) .lnil))))); .fact (.ite (.o1 .not x7) (.o2 .le x6 (.int .i64 140737488355328)) (.bool true)) (.need (.ite x4 (.o2 .le (.int .i64 0) x1) (.bool true)) (.need (.ite x4 (.o2 .lt x1 x6) (.bool true)) (.ite (.ite (.ite x7 (.bool true) (.o2 .ge x1 x6)) (.bool true) (.o1 .not (.idx (.var 2) x1 5 .bool))) (.ret [.d .nils]) (.need (.o2 .le (.int .i64 0) x1) (.need (.o2 .lt x1 x6) (.loop 0 [.nils, .int .i64 0] [.slice x5, .int .i64] (.fact (.o2 .le (.o1 .len x0) (.int .i64 140737488355328)) (.ite (.o2 .lt (.var 5) (.o1 .len x0)) (.need (.o2 .le (.int .i64 0) (.var 5)) (.call (some x2) (.fn 123) [.lcons (.var 0) x8, .var 3] [.cell (.slice x5)] (.call (some x2) (.fn 103) [.var 6, .idx x0 (.var 5) 0 (.int .i64)] [.cell .bool] (.call (some (.ite x2 (.var 7) (.bool false))) (.fn 123) [.lcons (.var 0) x8, .o2 (.sub .i64) (.var 3) (.int .i64 1)] [.cell (.slice x5)] (.call (some (.ite x2 (.var 7) (.bool false))) (.fn 103) [.var 8, .idx x0 (.var 5) 0 (.int .i64)] [.cell .bool] (.need (.ite (.ite (.ite x2 (.var 7) (.bool false)) (.var 9) (.bool false)) (.o2 .le (.o1 .len x3) (.int .i64 4398046511104)) (.bool true)) (.lets [.ite (.ite (.ite x2 (.var 7) (.bool false)) (.var 9) (.bool false)) x3 (.var 4)] (.again 0 [.var 10, .o2 (.add .i64) (.var 5) (.int .i64 1)])))))))) (.ret [.own 4 (.var 4)])))))))))
noncomputable def t22 : R := let x3 : T := .lcons (.var 1) (.lcons (.var 2) .lnil); let x5 : List K := [.int .i64, .int .i64, .int .i64, .int .i64, .int .i64]; let x6 : T := .o2 .lt (.var 10) (.int .i64 0); let x0 : T := .idx (.var 2) (.var 5) 2 (.slice x5); let x1 : T := .idx x0 (.var 8) 1 (.int .i64); let x4 : T := .o2 .ne x1 (.int .i64 0); let x7 : T := .idx x0 (.var 8) 0 (.int .i64); let x2 : T := .o2 .app (.var 7) (.push .nils (.lcons x7 (.lcons x1 .lnil))); .call none (.fn 74) [.lcons (.var 0) x3, .var 3] [.cell (.int .i64)] (.ite (.o2 .ne (.var 4) (.int .i64 0)) (.ret [.d .nils, .d (.var 4)]) (.call none (.fn 50) [.lcons (.var 0) x3, .var 3] [.cell (.int .i64)] (.need (.o2 .le (.int .i64 0) (.var 5)) (.need (.o2 .lt (.var 5) (.o1 .len (.var 2))) (.ite (.o1 .not (.idx (.var 2) (.var 5) 5 .bool)) (.ret [.d .nils, .d (.int .i64 0)]) (.call none (.fn 75) [.lcons (.var 0) x3, .o2 (.sub .i64) (.var 5) (.int .i64 1)] [.cell (.slice [.int .i64, .int .i64, .int .i64, .int .i64])] (.loop 0 [.nils, .int .i64 0] [.slice [.int .i64, .int .i64], .int .i64] (.fact (.o2 .le (.o1 .len x0) (.int .i64 140737488355328)) (.ite (.o2 .lt (.var 8) (.o1 .len x0)) (.need (.o2 .le (.int .i64 0) (.var 8)) (.call (some x4) (.fn 80) [.var 6, .int .i64 1] [.cell (.slice x5)] (.call (some x4) (.fn 79) [.var 9, .lcons x7 (.lcons x1 .lnil)] [.cell (.int .i64)] (.need (.ite (.ite x4 x6 (.bool false)) (.o2 .le (.o1 .len x2) (.int .i64 8796093022208)) (.bool true)) (.lets [.ite (.ite x4 x6 (.bool false)) x2 (.var 7)] (.again 0 [.var 11, .o2 (.add .i64) (.var 8) (.int .i64 1)])))))) (.ret [.own 2 (.var 7), .d (.int .i64 0)]))))))))))
theorem mark1_ok : Contract Tryz.prog 129 fun args K => ∃ (x : Ent) (m : Mov), x.Ok ∧ m.Ok ∧ args = [.agg x.enc, .ptr m.enc] ∧ K [.d (.bool (decide (x.pa = m.pa)))] := by
 refine .of c129 t129_ok ?_
 rintro _ K ⟨x, m, hx, hm, rfl, hK⟩ hsm
 refine ⟨x.enc ++ [.ptr m.enc], rfl, by exact (Ent.has hx).append (show HasKs [.ptr mvKs] [.ptr m.enc] from ⟨Mov.has hm, trivial⟩), ?_⟩
 have e : decide (x.pa = m.pa) = (decide (x.pa.ch = m.pa.ch) && decide (x.pa.at_ = m.pa.at_)) := by
   rw [Bool.eq_iff_iff]
   simp only [Bool.and_eq_true, decide_eq_true_eq]
   exact ⟨fun h => by rw [h]; exact ⟨rfl, rfl⟩, fun h => Par.ext' h.1 h.2⟩
 rw [e] at hK
 simp only [zz, reduceCtorEq, t129, Ent.enc, Mov.enc]
 simpa using hK
theorem mark1_says {es : List Ent} (hes : ∀ e ∈ es, e.Ok) {m : Mov} (hm : m.Ok) : SaysOf Tryz.prog (.clo 129 [.ptr m.enc]) Ent.enc es fun x => decide (x.pa = m.pa) := by
 refine ⟨fun as_ K => ∃ x : Ent, x.Ok ∧ as_ = [.agg x.enc] ∧ K [.d (.bool (decide (x.pa = m.pa)))], FvC.of c129 mark1_ok ?_, fun x hx => ⟨x, hes x hx, rfl, rfl⟩⟩
 rintro _ K ⟨x, hx, rfl, hK⟩
 refine ⟨⟨x, m, hx, hm, rfl, hK⟩, argsTyped_of [some (.agg enKs)] (by kernel_rfl) ?_⟩
 intro i rk d h1 h2
 cases i with
 | zero => simp at h1 h2; subst h1 h2; exact Ent.has hx
 | succ i => simp at h1
theorem put1_at {a : List Ent} {x : Ent} (hnd : (a.map (·.pa)).Nodup) {k : Nat} (hk : k < a.length) (h : a[k].pa = x.pa) : put1 a x = a.set k x := by
 apply List.ext_getElem?
 intro i
 simp only [put1, List.getElem?_map, List.getElem?_set]
 by_cases hi : k = i
 · subst hi; simp [hk, h]
 · rw [if_neg hi]
   cases hc : a[i]? with
   | none => rfl
   | some y =>
     obtain ⟨hlt, rfl⟩ := List.getElem?_eq_some_iff.1 hc
     have : a[i].pa ≠ x.pa := fun e => hi (by
       have h2 : (a.map (·.pa))[k]'(by simpa using hk) = (a.map (·.pa))[i]'(by simpa using hlt) := by simp [e, h]
       exact (List.getElem_inj hnd).1 h2)
     simp [this]
theorem put1_none {a : List Ent} {x : Ent} (h : ∀ y ∈ a, y.pa ≠ x.pa) : put1 a x = a := by
 unfold put1
 rw [List.map_congr_left (g := id) (fun y hy => by rw [if_neg (h y hy)]; rfl)]
 simp
theorem put1_pas (a : List Ent) (x : Ent) : (put1 a x).map (·.pa) = a.map (·.pa) := by
 unfold put1
 rw [List.map_map]
 refine List.map_congr_left fun y _ => ?_
 simp only [Function.comp]
 split
 · rename_i h; exact h.symm
 · rfl
theorem setV {l : List Ent} {k : Nat} (hk : k < l.length) (v : Val) : ((l.map Ent.enc).modify k fun x => setCells x 2 [.int .i64 v.pal, .int .i64 v.lev]) = (l.set k ⟨l[k].pa, v⟩).map Ent.enc := by
 apply List.ext_getElem?
 intro i
 rw [List.getElem?_modify, List.getElem?_map, List.getElem?_map, List.getElem?_set]
 by_cases h : k = i
 · subst h
   simp [hk, setCells, Ent.enc]
 · simp [h]
theorem lookL_nodup (cs : List Cue) (n : Nat) : ((lookL cs n).map (·.pa)).Nodup := by
 have : (lookL cs n).map (·.pa) = movedL cs := by simp [lookL, Function.comp_def]
 rw [this]; exact nodup_rising (rising_movedL cs)
theorem early_len {l : Lis} (hR : RightT l) (n : Nat) : (earlyM l.cues n).length ≤ 128 := by
 by_cases h : earlyM l.cues n = []
 · rw [h]; simp
 · obtain ⟨_, hn, _, he⟩ := earlyM_sub h
   rw [he]; exact Nat.le_trans (List.length_filter_le _ _) (hR.moves _ (List.getElem_mem hn)).len
theorem marked_ok : Contract Tryz.prog 81 fun args K => ∃ (l : Lis) (n : Nat), l.Ok ∧ checkL order05 l = 0 ∧ 0 < n ∧ n ≤ l.cues.length ∧ args = [.agg (sheE l), .int .i64 ((n : Int) - 1)] ∧ K [.own 4 ((markedL l.cues n).map Ent.enc)] := by
 refine .of c81 t81_ok ?_
 rintro _ K ⟨l, n, hl, h, h0, hn, rfl, hK⟩ hsm
 have hR := rightT_of hl h
 have hlen := hR.len
 have h64 : I64 ((n : Int) - 1) := ⟨by omega, by omega⟩
 refine ⟨sheE l ++ [.int .i64 ((n : Int) - 1)], rfl, by exact she_has hR (i64_one h64), ?_⟩
 obtain ⟨k, rfl⟩ : ∃ k, n = k + 1 := ⟨n - 1, by omega⟩
 have e1 : (((k + 1 : Nat) : Int) - 1) = (k : Int) := by omega
 have hk : k < l.cues.length := by omega
 have hsl := she_len l
 simp only [zz, reduceCtorEq, t81, sheE, hsl, e1]
 refine ⟨by omega, by omega, ?_⟩
 have hml : (lookL l.cues (k + 1)).length ≤ 10000 := lookL_len hR _
 refine denR_call cloneE_ok ⟨lookL l.cues (k + 1), lookL_ok hR _, hml, by simp only [zz, reduceCtorEq, she_get hk, enS], _, rfl, ?_⟩
 refine denR_call mearly_ok ⟨l, k + 1, hl, h, hn, by simp only [zz, reduceCtorEq, sheE, e1], _, rfl, ?_⟩
 have hee := early_Ok hl (k + 1)
 have hK' : K [.own 4 ((overL (lookL l.cues (k + 1)) (entsOf (earlyM l.cues (k + 1)))).map Ent.enc)] := hK
 have hlk := lookL_ok hR (k + 1)
 have hnd := lookL_nodup l.cues (k + 1)
 generalize earlyM l.cues (k + 1) = es at hee hK'
 generalize lookL l.cues (k + 1) = lk at hml hK' hlk hnd
 simp only [zz, reduceCtorEq, List.length_map]
 intro hcap
 refine loop_goI es (fun _ es (acc : List Ent) => overL acc (entsOf es)) (fun i acc => [.int .i64 i, .slice (acc.map Ent.enc)]) (fun i acc => acc.length = lk.length ∧ (∀ e ∈ acc, e.Ok) ∧ (acc.map (·.pa)).Nodup) lk (overL lk (entsOf es)) rfl ⟨rfl, hlk, hnd⟩ 0 (fun _ _ => rfl) rfl ?_ ?_
 · rintro i hi acc ⟨hal, hao, han⟩ hgo
   have hm := hee es[i] (List.getElem_mem hi)
   simp only [zz, reduceCtorEq, List.length_map, hi]
   refine ⟨by omega, ?_⟩
   refine denR_call indexEnt_ok ⟨acc, fun x => decide (x.pa = es[i].pa), 129, [.ptr es[i].enc], hao, by simp only [zz, reduceCtorEq, getD_map hi, Mov.enc], mark1_says hao hm, _, rfl, ?_⟩
   have hgo' : overL (put1 acc ⟨es[i].pa, es[i].va⟩) (entsOf (es.drop (i + 1))) = overL lk (entsOf es) := hgo
   rcases idxGo_spec (fun x : Ent => decide (x.pa = es[i].pa)) acc 0 with ⟨h1, h2⟩ | ⟨j, hj, h1, h2, h3⟩
   · rw [h1]
     have hp : put1 acc ⟨es[i].pa, es[i].va⟩ = acc := put1_none fun y hy => by have := h2 y hy; simpa using this
     rw [hp] at hgo'
     simp only [zz, reduceCtorEq]
     exact ⟨by simp, by simp, acc, ⟨by rw [wr64_eq] <;> omega, rfl⟩, ⟨hal, hao, han⟩, hgo'⟩
   · rw [h1]
     have hpe : acc[j].pa = es[i].pa := by simpa using h2
     have hp := put1_at (x := ⟨es[i].pa, es[i].va⟩) han hj hpe
     have hset := setV hj es[i].va
     rw [hpe] at hset
     simp only [Nat.zero_add]
     simp only [zz, reduceCtorEq, List.length_map, hj, getD_map hi, Mov.enc, D.upd, hset]
     refine ⟨by simp, by simp, acc.set j ⟨es[i].pa, es[i].va⟩, ⟨by rw [wr64_eq] <;> omega, by simp⟩, ⟨by simp [hal], ?_, ?_⟩, by rw [← hp]; exact hgo'⟩
     · rw [← hp]; exact put1_Ok hao ⟨hm.1, hm.2.1⟩
     · rw [← hp, put1_pas]; exact han
 · rintro acc ⟨hal, hao, han⟩ hgo
   simp only [zz, reduceCtorEq, List.length_map, Nat.lt_irrefl]
   have hgo : acc = overL lk (entsOf es) := hgo
   rw [hgo]; exact hK'
def EntR (r : List Ent × Int) (rvs : List RV) : Prop := rvs = entRV r ∨ rvs = [.own 4 (r.1.map Ent.enc), .d (.int .i64 r.2)]
def ParR (r : List Par × Int) (rvs : List RV) : Prop := rvs = parRV r ∨ rvs = [.own 2 (r.1.map Par.enc), .d (.int .i64 r.2)]
theorem earlyC_ok : Contract Tryz.prog 19 fun args K => ∃ (l : Lis) (s : List UInt8), l.Ok ∧ args = [.agg l.enc, .str s] ∧ ∀ rvs, EntR (earlyR l s) rvs → K rvs := by
 refine .of c19 t19_ok ?_
 rintro _ K ⟨l, s, hl, rfl, hK⟩ hsm
 refine ⟨l.enc ++ [.str s], rfl, by exact has_s hl, ?_⟩
 refine denR_call mopen_ok ⟨l, s, hl, by simp only [zz, reduceCtorEq, Lis.enc], ?_⟩
 unfold earlyR at hK
 by_cases h : cue18 l s = 0
 · obtain ⟨hR, h05, hpl, hup, hu0, hul⟩ := cue18_right hl h
   have hch := cue18_check h
   rw [if_neg (by simp [h])] at hK ⊢
   refine ⟨_, rfl, ?_⟩
   simp only [zz, reduceCtorEq, sheE, Lis.enc]
   refine denR_call mearly_ok ⟨l, upto l s, hl, hch, hul, by simp only [zz, reduceCtorEq, sheE, Lis.enc], _, rfl, ?_⟩
   have hel := early_len hR (upto l s)
   have hK' : ∀ rvs, EntR (entsOf (earlyM l.cues (upto l s)), 0) rvs → K rvs := hK
   generalize earlyM l.cues (upto l s) = es at hel hK'
   simp only [zz, reduceCtorEq, Lis.enc, List.length_map]
   intro hcap
   refine loop_goI es (fun _ es (acc : List Ent) => acc ++ entsOf es) (fun i acc => [.slice (acc.map Ent.enc), .int .i64 i]) (fun i acc => acc.length = i) [] (entsOf es) rfl rfl 1 (fun _ _ => rfl) rfl ?_ ?_
   · intro i hi acc hI hgo
     simp only [zz, reduceCtorEq, Lis.enc, List.length_map, hi, getD_map hi, Mov.enc, List.length_append]
     refine ⟨by omega, by simp; omega, acc ++ [⟨es[i].pa, es[i].va⟩], ⟨by simp [Ent.enc], by rw [wr64_eq] <;> omega⟩, by simp [hI], by simp only [entsOf, List.append_assoc, List.singleton_append, List.map_cons, List.map_drop] at hgo ⊢; exact hgo⟩
   · intro acc hI hgo
     simp only [zz, reduceCtorEq, Lis.enc, List.length_map, Nat.lt_irrefl]
     simp only [entsOf, List.map_nil, List.append_nil] at hgo
     rw [hgo]; exact hK' _ (.inr rfl)
 · rw [if_pos h] at hK ⊢
   refine ⟨_, rfl, ?_⟩
   simp only [zz, reduceCtorEq, Lis.enc]
   exact ⟨fun _ => hK _ (.inl rfl), fun h' => (h (by simpa using h')).elim⟩
theorem markedC_ok : Contract Tryz.prog 25 fun args K => ∃ (l : Lis) (s : List UInt8), l.Ok ∧ args = [.agg l.enc, .str s] ∧ K (entRV (markedR l s)) := by
 refine .of c25 t25_ok ?_
 rintro _ K ⟨l, s, hl, rfl, hK⟩ hsm
 refine ⟨l.enc ++ [.str s], rfl, by exact has_s hl, ?_⟩
 refine denR_call mopen_ok ⟨l, s, hl, by simp only [zz, reduceCtorEq, Lis.enc], ?_⟩
 unfold markedR at hK
 by_cases h : cue18 l s = 0
 · obtain ⟨hR, h05, hpl, hup, hu0, hul⟩ := cue18_right hl h
   have hch := cue18_check h
   rw [if_neg (by simp [h])] at hK ⊢
   refine ⟨_, rfl, ?_⟩
   simp only [zz, reduceCtorEq, sheE, Lis.enc]
   refine denR_call marked_ok ⟨l, upto l s, hl, hch, hu0, hul, by simp only [zz, reduceCtorEq, sheE, Lis.enc], _, rfl, ?_⟩
   simp only [zz, reduceCtorEq, Lis.enc]
   exact hK
 · rw [if_pos h] at hK ⊢
   refine ⟨_, rfl, ?_⟩
   simp only [zz, reduceCtorEq, Lis.enc]
   exact ⟨fun _ => hK, fun h' => (h (by simpa using h')).elim⟩
theorem mov_eq (a b : Mov) : a = b ↔ a.pa.ch = b.pa.ch ∧ a.pa.at_ = b.pa.at_ ∧ a.va.pal = b.va.pal ∧ a.va.lev = b.va.lev ∧ a.part = b.part := by
 constructor
 · rintro rfl; exact ⟨rfl, rfl, rfl, rfl, rfl⟩
 · obtain ⟨⟨a1, a2⟩, ⟨a3, a4⟩, a5⟩ := a
   obtain ⟨⟨b1, b2⟩, ⟨b3, b4⟩, b5⟩ := b
   rintro ⟨h1, h2, h3, h4, h5⟩
   simp_all
theorem indexM_ok : Contract Tryz.prog 127 fun args K => ∃ (a : List Mov) (e : Mov), (∀ x ∈ a, x.Ok) ∧ e.Ok ∧ args = [.slice (a.map Mov.enc), .agg e.enc] ∧ K [.d (.int .i64 (idxGo (fun x => decide (x = e)) 0 a))] := by
 refine .of c127 t127_ok ?_
 rintro _ K ⟨a, e, ha, he, rfl, hK⟩ hsm
 refine ⟨[.slice (a.map Mov.enc)] ++ e.enc, rfl, by exact HasKs.append (show HasKs [.slice mvKs] _ from ⟨slice_has fun m hm => Mov.has (ha m hm), trivial⟩) (Mov.has he), ?_⟩
 simp only [zz, reduceCtorEq, t127, List.length_map, Mov.enc]
 intro hcap
 refine loop_go a (fun i l' (_ : Unit) => idxGo (fun x => decide (x = e)) i l') (fun i _ => [.int .i64 i]) () _ rfl 0 (fun _ _ => rfl) rfl ?_ ?_
 · intro i hi _ hgo
   simp only [idxGo] at hgo
   have hme := mov_eq a[i] e
   simp only [zz, reduceCtorEq, hi, List.length_map, getD_map hi, Mov.enc]
   refine ⟨by omega, fun h => ?_, fun h => ?_⟩
   · have h' : a[i] = e := hme.2 (by grind)
     rw [if_pos (by simpa using h')] at hgo; rw [← hgo] at hK; exact hK
   · have h' : ¬ a[i] = e := fun he' => by
       have := hme.1 he'
       grind
     rw [if_neg (by simpa using h')] at hgo
     exact ⟨(), by rw [wr64_eq] <;> omega, hgo⟩
 · intro _ hgo
   simp only [idxGo] at hgo
   simp only [zz, reduceCtorEq, List.length_map, Nat.lt_irrefl]
   rw [← hgo] at hK; exact hK
theorem containsM_ok : Contract Tryz.prog 78 fun args K => ∃ (a : List Mov) (e : Mov), (∀ x ∈ a, x.Ok) ∧ e.Ok ∧ args = [.slice (a.map Mov.enc), .agg e.enc] ∧ K [.d (.bool (a.any fun x => decide (x = e)))] := by
 refine .of c78 t78_ok ?_
 rintro _ K ⟨a, e, ha, he, rfl, hK⟩ hsm
 refine ⟨[.slice (a.map Mov.enc)] ++ e.enc, rfl, by exact HasKs.append (show HasKs [.slice mvKs] _ from ⟨slice_has fun m hm => Mov.has (ha m hm), trivial⟩) (Mov.has he), ?_⟩
 refine denR_call indexM_ok ⟨a, e, ha, he, by simp only [zz, reduceCtorEq, Mov.enc], _, rfl, ?_⟩
 have := idxGo_any (fun x : Mov => decide (x = e)) a 0
 simp only [zz, reduceCtorEq, Mov.enc]
 rw [← this] at hK
 simpa using hK
theorem late1_ok : Contract Tryz.prog 77 fun args K => ∃ (m : Mov) (es : List Mov), m.Ok ∧ (∀ x ∈ es, x.Ok) ∧ args = [.agg m.enc, .ptr [.slice (es.map Mov.enc)]] ∧ K [.d (.bool (!es.any fun x => decide (x = m)))] := by
 refine .of c77 t77_ok ?_
 rintro _ K ⟨m, es, hm, hes, rfl, hK⟩ hsm
 refine ⟨m.enc ++ [.ptr [.slice (es.map Mov.enc)]], rfl, by exact (Mov.has hm).append (show HasKs [.ptr [.slice mvKs]] [.ptr [.slice (es.map Mov.enc)]] from ⟨⟨slice_has fun x hx => Mov.has (hes x hx), trivial⟩, trivial⟩), ?_⟩
 refine denR_call containsM_ok ⟨es, m, hes, hm, by simp only [zz, reduceCtorEq, Mov.enc], _, rfl, ?_⟩
 simp only [zz, reduceCtorEq, Mov.enc]
 exact hK
theorem late1_says {ms es : List Mov} (hms : ∀ m ∈ ms, m.Ok) (hes : ∀ x ∈ es, x.Ok) : SaysOf Tryz.prog (.clo 77 [.ptr [.slice (es.map Mov.enc)]]) Mov.enc ms fun m => !es.any fun x => decide (x = m) := by
 refine ⟨fun as_ K => ∃ m : Mov, m.Ok ∧ as_ = [.agg m.enc] ∧ K [.d (.bool (!es.any fun x => decide (x = m)))], FvC.of c77 late1_ok ?_, fun m hm => ⟨m, hms m hm, rfl, rfl⟩⟩
 rintro _ K ⟨m, hm, rfl, hK⟩
 refine ⟨⟨m, es, hm, hes, rfl, hK⟩, argsTyped_of [some (.agg mvKs)] (by kernel_rfl) ?_⟩
 intro i rk d h1 h2
 cases i with
 | zero => simp at h1 h2; subst h1 h2; exact Mov.has hm
 | succ i => simp at h1
theorem early_same {l : Lis} (hR : RightT l) {n : Nat} (hn : n < l.cues.length) {m : Mov} (hm : m ∈ l.cues[n].moves) : ((earlyM l.cues n).any fun x => decide (x = m)) = (earlyM l.cues n).any fun x => decide (x.pa = m.pa) := by
 rw [Bool.eq_iff_iff]
 simp only [List.any_eq_true, decide_eq_true_eq]
 constructor
 · rintro ⟨x, hx, rfl⟩; exact ⟨x, hx, rfl⟩
 · rintro ⟨x, hx, he⟩
   obtain ⟨_, hn', _, hxm, _⟩ := earlyM_mem hx
   have hrs := (hR.moves _ (List.getElem_mem hn)).rising
   refine ⟨x, hx, ?_⟩
   obtain ⟨i, hi, rfl⟩ := List.getElem_of_mem hxm
   obtain ⟨j, hj, rfl⟩ := List.getElem_of_mem hm
   rcases Nat.lt_trichotomy i j with h | h | h
   · have := List.pairwise_iff_getElem.1 hrs i j hi hj h
     rw [he, before_irr] at this; cases this
   · subst h; rfl
   · have := List.pairwise_iff_getElem.1 hrs j i hj hi h
     rw [he, before_irr] at this; cases this
theorem keepM_late {l : Lis} (hR : RightT l) {n : Nat} (hn : n < l.cues.length) : keepM l.cues n (fun m => !(earlyM l.cues n).any fun x => decide (x = m)) = lateM l.cues (n + 1) := by
 unfold keepM lateM
 rw [if_neg (by omega)]
 simp only [Int.toNat_natCast, Nat.add_sub_cancel, List.getElem?_eq_getElem hn]
 split
 · refine List.filter_congr fun m hm => ?_
   rw [early_same hR hn hm]
   cases decide (m.pa.at_ = 0) <;> simp
 · rfl
theorem late_len {l : Lis} (hR : RightT l) (n : Nat) : (lateM l.cues n).length ≤ 128 := by
 unfold lateM
 split
 · rename_i c hc
   split
   · exact Nat.le_trans (List.length_filter_le _ _) (hR.moves c (List.mem_of_getElem? hc)).len
   · simp
 · simp
theorem lateC_ok : Contract Tryz.prog 21 fun args K => ∃ (l : Lis) (s : List UInt8), l.Ok ∧ args = [.agg l.enc, .str s] ∧ ∀ rvs, ParR (lateR l s) rvs → K rvs := by
 refine .of c21 t21_ok ?_
 rintro _ K ⟨l, s, hl, rfl, hK⟩ hsm
 refine ⟨l.enc ++ [.str s], rfl, by exact has_s hl, ?_⟩
 refine denR_call mopen_ok ⟨l, s, hl, by simp only [zz, reduceCtorEq, Lis.enc], ?_⟩
 unfold lateR at hK
 by_cases h : cue18 l s = 0
 · obtain ⟨hR, h05, hpl, hup, hu0, hul⟩ := cue18_right hl h
   have hch := cue18_check h
   have hlen := hR.len
   rw [if_neg (by simp [h])] at hK ⊢
   refine ⟨_, rfl, ?_⟩
   obtain ⟨n, hn⟩ : ∃ n, upto l s = n + 1 := ⟨upto l s - 1, by omega⟩
   rw [hn] at hK
   have e1 : ((upto l s : Int) - 1) = (n : Int) := by omega
   have hw1 : wr64 ((n : Int) - 1) = (n : Int) - 1 := by rw [wr64_eq] ; omega
   rw [e1]
   simp only [zz, reduceCtorEq, sheE, Lis.enc]
   refine denR_call mearly_ok ⟨l, n, hl, hch, by omega, by simp only [zz, reduceCtorEq, sheE, hw1, Lis.enc], _, rfl, ?_⟩
   have hnl : n < l.cues.length := by omega
   have hee := early_Ok hl n
   refine denR_call mmoves_ok ⟨l, (n : Int), fun m => !(earlyM l.cues n).any fun x => decide (x = m), 77, [.ptr [.slice ((earlyM l.cues n).map Mov.enc)]], hR, ⟨by omega, by omega⟩, fun c hc _ => late1_says (hl.cues c hc).moves hee, by simp only [zz, reduceCtorEq, sheE, Lis.enc], fun rvs hr => ⟨[.slice ((lateM l.cues (n + 1)).map Mov.enc)], ?_, ?_⟩⟩
   · rw [keepM_late hR hnl] at hr; rcases hr with rfl | rfl <;> rfl
   have hel := late_len hR (n + 1)
   generalize lateM l.cues (n + 1) = es at hel hK
   simp only [zz, reduceCtorEq, Lis.enc, List.length_map]
   intro hcap
   refine loop_goI es (fun _ es (acc : List Par) => acc ++ es.map (·.pa)) (fun i acc => [.slice (acc.map Par.enc), .int .i64 i]) (fun i acc => acc.length = i) [] (es.map (·.pa)) rfl rfl 1 (fun _ _ => rfl) rfl ?_ ?_
   · intro i hi acc hI hgo
     simp only [zz, reduceCtorEq, Lis.enc, List.length_map, hi, getD_map hi, Mov.enc, List.length_append]
     refine ⟨by omega, by simp; omega, acc ++ [es[i].pa], ⟨by simp [Par.enc], by rw [wr64_eq] <;> omega⟩, by simp [hI], by simp only [List.append_assoc, List.singleton_append, List.map_cons, List.map_drop] at hgo ⊢; exact hgo⟩
   · intro acc hI hgo
     simp only [zz, reduceCtorEq, Lis.enc, List.length_map, Nat.lt_irrefl]
     simp only [List.map_nil, List.append_nil] at hgo
     rw [hgo]; exact hK _ (.inr rfl)
 · rw [if_pos h] at hK ⊢
   refine ⟨_, rfl, ?_⟩
   simp only [zz, reduceCtorEq, Lis.enc]
   exact ⟨fun _ => hK _ (.inl rfl), fun h' => (h (by simpa using h')).elim⟩
theorem mstepsC_ok : Contract Tryz.prog 27 fun args K => ∃ (l : Lis) (s : List UInt8), l.Ok ∧ args = [.agg l.enc, .str s] ∧ ∀ rvs, EntR (mstepsR l s) rvs → K rvs := by
 refine .of c27 t27_ok ?_
 rintro _ K ⟨l, s, hl, rfl, hK⟩ hsm
 refine ⟨l.enc ++ [.str s], rfl, by exact has_s hl, ?_⟩
 refine denR_call mopen_ok ⟨l, s, hl, by simp only [zz, reduceCtorEq, Lis.enc], ?_⟩
 unfold mstepsR at hK
 by_cases h : cue18 l s = 0
 · obtain ⟨hR, h05, hpl, hup, hu0, hul⟩ := cue18_right hl h
   have hch := cue18_check h
   have hlen := hR.len
   rw [if_neg (by simp [h])] at hK ⊢
   refine ⟨_, rfl, ?_⟩
   obtain ⟨n, hn⟩ : ∃ n, upto l s = n + 1 := ⟨upto l s - 1, by omega⟩
   rw [hn] at hK
   have e1 : ((upto l s : Int) - 1) = (n : Int) := by omega
   have e2 : (((n + 1 : Nat) : Int) - 1) = (n : Int) := by omega
   have hw1 : wr64 ((n : Int) - 1) = (n : Int) - 1 := by rw [wr64_eq] ; omega
   rw [e1]
   simp only [Nat.add_sub_cancel] at hK
   have hab := marked_same hR n (n + 1)
   have hbl : (markedL l.cues (n + 1)).length ≤ 10000 := (marked_right hl hch _).len
   simp only [zz, reduceCtorEq, sheE, Lis.enc]
   refine ⟨fun hn0 => ?_, fun hn0 => ?_⟩
   · refine denR_call marked_ok ⟨l, n, hl, hch, by omega, by omega, by simp only [zz, reduceCtorEq, sheE, hw1, Lis.enc], _, rfl, ?_⟩
     refine denR_call marked_ok ⟨l, n + 1, hl, hch, by omega, by omega, by simp only [zz, reduceCtorEq, sheE, e2, Lis.enc], _, rfl, ?_⟩
     generalize markedL l.cues n = a at hab hK
     generalize markedL l.cues (n + 1) = b at hab hbl hK
     have hll := hab.len
     simp only [zz, reduceCtorEq, Lis.enc, List.length_map]
     intro hcap
     refine loop_goI b (fun i _ (acc : List Ent) => acc ++ diffE (a.drop i) (b.drop i)) (fun i acc => [.slice (acc.map Ent.enc), .int .i64 i]) (fun i acc => acc.length ≤ i) [] (diffE a b) (by simp) (by simp) 1 (fun _ _ => rfl) rfl ?_ ?_
     · intro i hi acc hI hgo
       have hia : i < a.length := by omega
       rw [diffE_drop hia hi] at hgo
       have hv := val_eq a[i].va b[i].va
       simp only [zz, reduceCtorEq, Lis.enc, List.length_map, hi, hia, getD_map hi, getD_map hia, Ent.enc, List.length_append]
       by_cases h : a[i].va = b[i].va
       · rw [if_pos h] at hgo
         have h' := hv.1 h
         simp only [zz, reduceCtorEq, h'.1.symm, h'.2.symm]
         refine ⟨by omega, by simp, acc, ⟨by simp, by rw [wr64_eq] <;> omega⟩, by omega, hgo⟩
       · rw [if_neg h] at hgo
         have hc : (¬b[i].va.pal = a[i].va.pal ∨ ¬b[i].va.lev = a[i].va.lev ∨ False) = True := by
           rw [eq_iff_iff]
           refine ⟨fun _ => trivial, fun _ => ?_⟩
           by_cases e : b[i].va.pal = a[i].va.pal
           · exact .inr (.inl fun e2 => h (hv.2 ⟨e.symm, e2.symm⟩))
           · exact .inl e
         simp only [hc, if_true]
         refine ⟨by omega, by simp; omega, acc ++ [b[i]], ⟨by simp [Ent.enc], by rw [wr64_eq] <;> omega⟩, by simp; omega, by simpa using hgo⟩
     · intro acc hI hgo
       simp only [List.drop_length] at hgo
       have e : diffE (a.drop b.length) [] = [] := by cases a.drop b.length <;> rfl
       rw [e, List.append_nil] at hgo
       simp only [zz, reduceCtorEq, Lis.enc, List.length_map, Nat.lt_irrefl]
       rw [← hgo] at hK
       exact hK _ (.inr rfl)
   · have hn0 : n = 0 := by omega
     subst hn0
     refine denR_call marked_ok ⟨l, 0 + 1, hl, hch, by omega, by omega, by simp only [zz, reduceCtorEq, sheE, e2, Lis.enc], _, rfl, ?_⟩
     have hhome : ∀ e ∈ markedL l.cues 0, e.va = hval := by
       intro e he
       rw [marked_zero, look_zero] at he
       obtain ⟨q, _, rfl⟩ := List.mem_map.1 he
       rfl
     generalize markedL l.cues 0 = a at hab hK hhome
     generalize markedL l.cues (0 + 1) = b at hab hbl hK
     have hll := hab.len
     simp only [zz, reduceCtorEq, Lis.enc, List.length_map]
     intro hcap
     refine loop_goI b (fun i _ (acc : List Ent) => acc ++ diffE (a.drop i) (b.drop i)) (fun i acc => [.slice (acc.map Ent.enc), .int .i64 i]) (fun i acc => acc.length ≤ i) [] (diffE a b) (by simp) (by simp) 1 (fun _ _ => rfl) rfl ?_ ?_
     · intro i hi acc hI hgo
       have hia : i < a.length := by omega
       rw [diffE_drop hia hi, hhome _ (List.getElem_mem hia)] at hgo
       have hv : hval = b[i].va ↔ (-1 = b[i].va.pal ∧ 0 = b[i].va.lev) := val_eq hval b[i].va
       simp only [zz, reduceCtorEq, Lis.enc, List.length_map, hi, getD_map hi, Ent.enc, List.length_append]
       by_cases h : hval = b[i].va
       · rw [if_pos h] at hgo
         have h' := hv.1 h
         simp only [zz, reduceCtorEq, h'.1.symm, h'.2.symm]
         refine ⟨by omega, by simp, acc, ⟨by simp, by rw [wr64_eq] <;> omega⟩, by omega, hgo⟩
       · rw [if_neg h] at hgo
         have hc : (¬b[i].va.pal = -1 ∨ ¬b[i].va.lev = 0 ∨ False) = True := by
           rw [eq_iff_iff]
           refine ⟨fun _ => trivial, fun _ => ?_⟩
           by_cases e : b[i].va.pal = -1
           · exact .inr (.inl fun e2 => h (hv.2 ⟨e.symm, e2.symm⟩))
           · exact .inl e
         simp only [hc, if_true]
         refine ⟨by omega, by simp; omega, acc ++ [b[i]], ⟨by simp [Ent.enc], by rw [wr64_eq] <;> omega⟩, by simp; omega, by simpa using hgo⟩
     · intro acc hI hgo
       simp only [List.drop_length] at hgo
       have e : diffE (a.drop b.length) [] = [] := by cases a.drop b.length <;> rfl
       rw [e, List.append_nil] at hgo
       simp only [zz, reduceCtorEq, Lis.enc, List.length_map, Nat.lt_irrefl]
       rw [← hgo] at hK
       exact hK _ (.inr rfl)
 · rw [if_pos h] at hK ⊢
   refine ⟨_, rfl, ?_⟩
   simp only [zz, reduceCtorEq, Lis.enc]
   exact ⟨fun _ => hK _ (.inl rfl), fun h' => (h (by simpa using h')).elim⟩
end Go.Sx.La
