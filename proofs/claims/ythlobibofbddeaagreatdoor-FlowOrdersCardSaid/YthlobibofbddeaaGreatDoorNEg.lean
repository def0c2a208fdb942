/-
 Part 7 of the proof: the executor over the kit's code with its soundness, or contracts of functions.
-/
import Derived.Test.YthlobibofbddeaaGreatDoorNEf
import Derived.Test.YthlobibofbddeaaGreatDoorProg
import Derived.WalkKit
import Derived.WalkSpells
import Derived.WalkLawsBesides
import Derived.Lib.Walk
import Derived.Shelf.RegionOpenPlain
import Derived.Lib.SliceRun
import Derived.Lib.AppendZeros
import Derived.Lib.AppendZerosOnto
import Derived.Lib.Overlaps
import Derived.Laws.CopyRow
import Derived.Laws.IdiomCopy
import Derived.Shelf.SlSortCmp.WholeK
set_option linter.unusedSimpArgs false
set_option linter.unusedVariables false
set_option linter.unusedSectionVars false
set_option linter.defProp false
set_option maxRecDepth 100000
namespace Go.Sx.La
open Go Go.Sx Go.RowKit Go.Proofs
structure Cnt where
 cue : List UInt8
 n : Int
instance : Inhabited Cnt := ⟨⟨[], 0⟩⟩
def Cnt.enc (c : Cnt) : List D := [.str c.cue, .int .i64 c.n]
abbrev cnKs : List K := [.str, .int .i64]
def Cnt.Ok (c : Cnt) : Prop := I64 c.n
theorem Cnt.has {c : Cnt} (h : c.Ok) : HasKs cnKs c.enc := ⟨trivial, i64_has h, trivial⟩
def cntsGo (ord : List UInt8 → List UInt8 → Int) (xs : List Cnt) : Nat → List Cnt → Int
 | _, [] => 0
 | i, c :: cs => if check05 c.cue ≠ 0 then check05 c.cue else if c.n < 1 ∨ 100 < c.n then 2 else if 0 < i ∧ 0 ≤ ord (xs[i - 1]!).cue c.cue then 9 else cntsGo ord xs (i + 1) cs
def checkN (ord : List UInt8 → List UInt8 → Int) (l : List Cnt) : Int := if 64 < l.length then 5 else cntsGo ord l 0 l
def cnt (k : List Cnt) (s : List UInt8) : Int := match k with
 | [] => 0
 | c :: k => if c.cue == s then c.n else cnt k s
def putC (x : Cnt) : List Cnt → List Cnt
 | [] => [x]
 | y :: ys => if value05 y.cue < value05 x.cue then y :: putC x ys else if value05 y.cue = value05 x.cue then x :: ys else x :: y :: ys
def insC (s : List UInt8) (k : List Cnt) : List Cnt := putC ⟨s, cnt k s + 1⟩ k
def moreGo (x : Cnt) : List Cnt → List Cnt × Bool → List Cnt × Bool
 | [], a => a
 | c :: cs, a =>
   let k := order05 c.cue x.cue
   let b := if (!a.2 && decide (0 ≤ k)) = true then (a.1 ++ [x], true) else a
   moreGo x cs (if k ≠ 0 then (b.1 ++ [c], b.2) else b)
def moreL (k : List Cnt) (s : List UInt8) : List Cnt := let r := moreGo ⟨s, cnt k s + 1⟩ k ([], false); if r.2 then r.1 else r.1 ++ [⟨s, cnt k s + 1⟩]
def RisingC (k : List Cnt) : Prop := k.Pairwise fun a b => value05 a.cue < value05 b.cue
structure RightC (k : List Cnt) : Prop where
 num : ∀ c ∈ k, check05 c.cue = 0
 n : ∀ c ∈ k, 1 ≤ c.n ∧ c.n ≤ 100
 rising : RisingC k
 len : k.length ≤ 64
theorem cntsGo_zero {xs : List Cnt} : ∀ (cs : List Cnt) (i : Nat), cs = xs.drop i → cntsGo order05 xs i cs = 0 → (∀ c ∈ cs, check05 c.cue = 0 ∧ 1 ≤ c.n ∧ c.n ≤ 100) ∧ (∀ j, i ≤ j → 0 < j → (hj : j < xs.length) → value05 (xs[j - 1]'(by omega)).cue < value05 (xs[j]).cue)
 | [], i, he, _ => ⟨by simp, fun j h1 h2 h3 => by
     have := congrArg List.length he
     simp at this
     omega⟩
 | c :: cs, i, he, h => by
   have hlt : i < xs.length := by
     rcases Nat.lt_or_ge i xs.length with h | h
     · exact h
     · rw [List.drop_eq_nil_of_le h] at he; cases he
   rw [List.drop_eq_getElem_cons hlt] at he
   obtain ⟨rfl, rfl⟩ := List.cons.inj he
   simp only [cntsGo] at h
   split at h
   · rename_i hc; exact absurd h hc
   rename_i hc
   have hc : check05 xs[i].cue = 0 := by simpa using hc
   split at h
   · cases h
   rename_i hn
   split at h
   · cases h
   rename_i ho
   obtain ⟨g1, g2⟩ := cntsGo_zero (xs.drop (i + 1)) (i + 1) rfl h
   refine ⟨fun d hd => ?_, fun j h1 h2 h3 => ?_⟩
   · rcases List.mem_cons.1 hd with rfl | hd
     · exact ⟨hc, by omega, by omega⟩
     · exact g1 d hd
   · rcases Nat.eq_or_lt_of_le h1 with rfl | h1
     · rw [getElem!_pos xs (i - 1) (by omega)] at ho
       exact (order_neg _ _).1 (by
         rcases Int.lt_or_le (order05 (xs[i - 1]'(by omega)).cue (xs[i]).cue) 0 with h | h
         · exact h
         · exact absurd ⟨h2, h⟩ ho)
     · exact g2 j h1 h2 h3
theorem rightC_of {k : List Cnt} (h : checkN order05 k = 0) : RightC k := by
 unfold checkN at h
 split at h
 · cases h
 · rename_i hl
   obtain ⟨g1, g2⟩ := cntsGo_zero k 0 rfl h
   refine ⟨fun c hc => (g1 c hc).1, fun c hc => (g1 c hc).2, ?_, by omega⟩
   rw [RisingC, List.pairwise_iff_getElem]
   have step : ∀ (n i : Nat) (hi : i + n + 1 < k.length), value05 (k[i]'(by omega)).cue < value05 (k[i + n + 1]).cue := by
     intro n
     induction n with
     | zero => intro i hi; exact g2 (i + 1) (Nat.zero_le _) (by omega) hi
     | succ n ih => intro i hi; exact Int.lt_trans (ih i (by omega)) (g2 (i + (n + 1) + 1) (Nat.zero_le _) (by omega) hi)
   intro i j hi hj hij
   obtain ⟨n, rfl⟩ : ∃ n, j = i + n + 1 := ⟨j - i - 1, by omega⟩
   exact step n i hj
theorem cntsGo_of {ord : List UInt8 → List UInt8 → Int} {xs : List Cnt} (h1 : ∀ c ∈ xs, check05 c.cue = 0 ∧ 1 ≤ c.n ∧ c.n ≤ 100) (h2 : ∀ i (hi : i < xs.length), 0 < i → ord (xs[i - 1]'(by omega)).cue (xs[i]).cue < 0) : ∀ (cs : List Cnt) (i : Nat), cs = xs.drop i → cntsGo ord xs i cs = 0
 | [], _, _ => rfl
 | c :: cs, i, he => by
   have hlt : i < xs.length := by
     rcases Nat.lt_or_ge i xs.length with h | h
     · exact h
     · rw [List.drop_eq_nil_of_le h] at he; cases he
   rw [List.drop_eq_getElem_cons hlt] at he
   obtain ⟨rfl, rfl⟩ := List.cons.inj he
   obtain ⟨a1, a2, a3⟩ := h1 xs[i] (List.getElem_mem hlt)
   simp only [cntsGo]
   rw [if_neg (by simp [a1]), if_neg (by omega), if_neg, cntsGo_of h1 h2 (xs.drop (i + 1)) (i + 1) rfl]
   rintro ⟨b1, b2⟩
   rw [getElem!_pos xs (i - 1) (by omega)] at b2
   have := h2 i hlt b1
   omega
theorem checkN_of {k : List Cnt} (h : RightC k) : checkN order05 k = 0 := by
 unfold checkN
 rw [if_neg (by have := h.len; omega)]
 exact cntsGo_of (fun c hc => ⟨h.num c hc, h.n c hc⟩) (fun i hi h0 => (order_neg _ _).2 (List.pairwise_iff_getElem.1 h.rising (i - 1) i (by omega) hi (by omega))) k 0 rfl
theorem cnt_none {k : List Cnt} {s : List UInt8} (h : ∀ c ∈ k, c.cue ≠ s) : cnt k s = 0 := by
 induction k with
 | nil => rfl
 | cons c k ih =>
   have := h c List.mem_cons_self
   simp only [cnt, beq_iff_eq, this, if_false]
   exact ih fun d hd => h d (List.mem_cons_of_mem _ hd)
theorem cnt_some {k : List Cnt} {s : List UInt8} (h : cnt k s ≠ 0) : ∃ c ∈ k, c.cue = s ∧ cnt k s = c.n := by
 induction k with
 | nil => exact absurd rfl h
 | cons c k ih =>
   by_cases hc : c.cue = s
   · exact ⟨c, List.mem_cons_self, hc, by simp [cnt, hc]⟩
   · have e : cnt (c :: k) s = cnt k s := by simp [cnt, hc]
     rw [e] at h ⊢
     obtain ⟨d, h1, h2⟩ := ih h
     exact ⟨d, List.mem_cons_of_mem _ h1, h2⟩
theorem cnt_put {x : Cnt} (hx : check05 x.cue = 0) (t : List UInt8) : ∀ {k : List Cnt}, (∀ c ∈ k, check05 c.cue = 0) → cnt (putC x k) t = if t = x.cue then x.n else cnt k t
 | [], _ => by
   by_cases h : x.cue = t
   · simp [putC, cnt, h]
   · simp [putC, cnt, h, Ne.symm h]
 | y :: ys, h => by
   have hy := h y List.mem_cons_self
   have ih := cnt_put hx t (k := ys) fun c hc => h c (List.mem_cons_of_mem _ hc)
   simp only [putC]
   split
   · rename_i hlt
     have hne : y.cue ≠ x.cue := fun e => by rw [e] at hlt; omega
     simp only [cnt, beq_iff_eq]
     by_cases hyt : y.cue = t
     · have : ¬ t = x.cue := fun e => hne (hyt.trans e)
       simp [hyt, this]
     · simp [hyt, ih]
   · split
     · rename_i he
       have e := value05_inj hy hx he
       by_cases ht : x.cue = t
       · simp [cnt, ht, e]
       · simp [cnt, ht, e, Ne.symm ht]
     · by_cases ht : x.cue = t
       · simp [cnt, ht]
       · simp [cnt, ht, Ne.symm ht]
theorem mem_putC {x c : Cnt} : ∀ {k : List Cnt}, c ∈ putC x k → c = x ∨ c ∈ k
 | [], h => by simp [putC] at h; exact .inl h
 | y :: ys, h => by
   simp only [putC] at h
   split at h
   · rcases List.mem_cons.1 h with rfl | h
     · exact .inr List.mem_cons_self
     · rcases mem_putC h with h | h
       · exact .inl h
       · exact .inr (List.mem_cons_of_mem _ h)
   · split at h
     · rcases List.mem_cons.1 h with h | h
       · exact .inl h
       · exact .inr (List.mem_cons_of_mem _ h)
     · rcases List.mem_cons.1 h with h | h
       · exact .inl h
       · exact .inr h
theorem rising_putC {x : Cnt} : ∀ {k : List Cnt}, RisingC k → RisingC (putC x k)
 | [], _ => by simp [putC, RisingC]
 | y :: ys, h => by
   rw [RisingC, List.pairwise_cons] at h
   simp only [putC]
   split
   · rename_i hlt
     rw [RisingC, List.pairwise_cons]
     refine ⟨fun c hc => ?_, rising_putC h.2⟩
     rcases mem_putC hc with rfl | hc
     · exact hlt
     · exact h.1 c hc
   · split
     · rename_i he
       rw [RisingC, List.pairwise_cons]
       exact ⟨fun c hc => by have := h.1 c hc; omega, h.2⟩
     · rw [RisingC, List.pairwise_cons]
       refine ⟨fun c hc => ?_, List.pairwise_cons.2 h⟩
       rcases List.mem_cons.1 hc with rfl | hc
       · omega
       · have := h.1 c hc; omega
def lowC (k : List Cnt) (s : List UInt8) : Nat := (k.takeWhile fun c => decide (value05 c.cue < value05 s)).length
theorem lowC_of {k : List Cnt} {s : List UInt8} : ∀ {i : Nat}, i ≤ k.length → (∀ j (hj : j < k.length), j < i → value05 (k[j]).cue < value05 s) → (∀ j (hj : j < k.length), i ≤ j → ¬ value05 (k[j]).cue < value05 s) → lowC k s = i := by
 induction k with
 | nil => intro i h _ _; simp at h; simp [lowC, h]
 | cons m ms ih =>
   intro i hi h1 h2
   cases i with
   | zero => have := h2 0 (by simp) (by simp); simp at this; simp [lowC, this]
   | succ i =>
     have h0 := h1 0 (by simp) (by omega)
     simp at h0
     have := ih (i := i) (by simpa using hi) (fun j hj hji => by have := h1 (j + 1) (by simpa using hj) (by omega); simpa using this) (fun j hj hji => by have := h2 (j + 1) (by simpa using hj) (by omega); simpa using this)
     simp only [lowC] at this
     simp [lowC, h0, this]
theorem lowC_le (k : List Cnt) (s : List UInt8) : lowC k s ≤ k.length := (List.takeWhile_sublist _).length_le
theorem low_has {s : List UInt8} (hs : check05 s = 0) : ∀ {k : List Cnt}, RisingC k → (∀ c ∈ k, check05 c.cue = 0) →
   (k.any fun c => c.cue == s) = (match k[lowC k s]? with | some c => c.cue == s | none => false)
 | [], _, _ => rfl
 | c :: k, hr, hn => by
   rw [RisingC, List.pairwise_cons] at hr
   have ih := low_has hs hr.2 fun d hd => hn d (List.mem_cons_of_mem _ hd)
   by_cases hlt : value05 c.cue < value05 s
   · have hne : (c.cue == s) = false := by
       rw [beq_eq_false_iff_ne]; intro e; rw [e] at hlt; omega
     simp only [List.any_cons, hne, Bool.false_or, ih, lowC, List.takeWhile_cons, hlt, decide_true, if_true, List.length_cons, List.getElem?_cons_succ]
   · have hno : (k.any fun c => c.cue == s) = false := by
       rw [List.any_eq_false]
       intro d hd
       have := hr.1 d hd
       simp only [beq_iff_eq]
       intro e; rw [e] at this; omega
     simp only [List.any_cons, hno, Bool.or_false, lowC, List.takeWhile_cons, hlt, decide_false, Bool.false_eq_true, if_false, List.length_nil, List.getElem?_cons_zero]
theorem cnt_low {s : List UInt8} (hs : check05 s = 0) : ∀ {k : List Cnt}, RisingC k → (∀ c ∈ k, check05 c.cue = 0) →
   cnt k s = (if (k.any fun c => c.cue == s) = true then (match k[lowC k s]? with | some c => c.n | none => 0) else 0)
 | [], _, _ => rfl
 | c :: k, hr, hn => by
   rw [RisingC, List.pairwise_cons] at hr
   have ih := cnt_low hs hr.2 fun d hd => hn d (List.mem_cons_of_mem _ hd)
   by_cases hlt : value05 c.cue < value05 s
   · have hne : (c.cue == s) = false := by
       rw [beq_eq_false_iff_ne]; intro e; rw [e] at hlt; omega
     simp only [cnt, List.any_cons, hne, Bool.false_or, Bool.false_eq_true, if_false, ih, lowC, List.takeWhile_cons, hlt, decide_true, if_true, List.length_cons, List.getElem?_cons_succ]
   · have hno : (k.any fun c => c.cue == s) = false := by
       rw [List.any_eq_false]
       intro d hd
       have := hr.1 d hd
       simp only [beq_iff_eq]
       intro e; rw [e] at this; omega
     have h0 : cnt k s = 0 := cnt_none fun d hd e => by
       have := List.any_eq_false.1 hno d hd
       exact this (by simpa using e)
     simp only [cnt, List.any_cons, hno, Bool.or_false, h0, lowC, List.takeWhile_cons, hlt, decide_false, Bool.false_eq_true, if_false, List.length_nil, List.getElem?_cons_zero]
theorem insC_low {s : List UInt8} (hs : check05 s = 0) : ∀ {k : List Cnt} (x : Cnt), x.cue = s → RisingC k → (∀ c ∈ k, check05 c.cue = 0) →
   putC x k = k.take (lowC k s) ++ x :: k.drop (lowC k s + if (k.any fun c => c.cue == s) = true then 1 else 0)
 | [], x, _, _, _ => by simp [putC, lowC]
 | c :: k, x, hx, hr, hn => by
   rw [RisingC, List.pairwise_cons] at hr
   have ih := insC_low hs (k := k) x hx hr.2 fun d hd => hn d (List.mem_cons_of_mem _ hd)
   have hc := hn c List.mem_cons_self
   by_cases hlt : value05 c.cue < value05 s
   · have hne : (c.cue == s) = false := by
       rw [beq_eq_false_iff_ne]; intro e; rw [e] at hlt; omega
     have e : lowC (c :: k) s = lowC k s + 1 := by simp [lowC, hlt]
     rw [e]
     simp only [putC, hx, hlt, if_true, List.any_cons, hne, Bool.false_or, List.take_succ_cons, List.cons_append, ih]
     rw [Nat.add_right_comm, List.drop_succ_cons]
   · have hno : (k.any fun c => c.cue == s) = false := by
       rw [List.any_eq_false]
       intro d hd
       have := hr.1 d hd
       simp only [beq_iff_eq]
       intro e; rw [e] at this; omega
     have e : lowC (c :: k) s = 0 := by simp [lowC, hlt]
     rw [e]
     simp only [putC, hx, hlt, if_false, List.any_cons, hno, Bool.or_false, List.take_zero, List.nil_append, Nat.zero_add]
     by_cases he : value05 c.cue = value05 s
     · have e2 := value05_inj hc hs he
       simp [e2]
     · have e2 : (c.cue == s) = false := by rw [beq_eq_false_iff_ne]; intro e; rw [e] at he; exact he rfl
       simp [he, e2]
def names (l : Lis) : List (List UInt8) := l.cues.map (·.num)
def pick : Option (List UInt8) → List UInt8 × Bool
 | some s => (s, true)
 | none => ([], false)
def SaysTxt (P : Program) (fv : D) (ss : List (List UInt8)) (p : List UInt8 → Bool) : Prop := ∃ sf, FvC P fv sf ∧ ∀ s ∈ ss, sf [.str s] fun rs => rs = [.d (.bool (p s))]
noncomputable def t43 : R := let x0 : T := .o1 .len (.var 0); let x1 : T := .o1 .len (.var 1); .fact (.o2 .le x0 (.int .i64 140737488355328)) (.fact (.o2 .le x1 (.int .i64 140737488355328)) (.ite (.o2 .ne x0 x1) (.ret [.d (.bool false)]) (.loop 0 [.int .i64 0] [.int .i64] (.ite (.o2 .lt (.var 2) x0) (.need (.o2 .le (.int .i64 0) (.var 2)) (.need (.o2 .lt (.var 2) x1) (.ite (.o2 .ne (.idx (.var 0) (.var 2) 0 .str) (.idx (.var 1) (.var 2) 0 .str)) (.ret [.d (.bool false)]) (.again 0 [.o2 (.add .i64) (.var 2) (.int .i64 1)])))) (.ret [.d (.bool true)])))))
theorem t43_ok : fnO Tryz.prog mdA 43 [.cell (.slice [.str]), .cell (.slice [.str])] = t43 := by kernel_rfl
theorem c43 : callable Tryz.prog 43 = true := by kernel_rfl
def lastGo (p : List UInt8 → Bool) (ss : List (List UInt8)) (a : List UInt8 × Bool) : List UInt8 × Bool := match ss.reverse.find? p with
 | some x => (x, true)
 | none => a
def firstOf (cs : List Cue) : List UInt8 × Bool := pick (cs.map (·.num)).head?
def lastOf (cs : List Cue) : List UInt8 × Bool := pick (cs.map (·.num)).getLast?
def eqGo : List (List UInt8) → List (List UInt8) → Bool
 | [], _ => true
 | a :: as_, b :: bs => if a = b then eqGo as_ bs else false
 | _, _ => false
theorem eqTxt_ok : Contract Tryz.prog 43 fun args K => ∃ (a b : List (List UInt8)), args = [.slice (txts a), .slice (txts b)] ∧ K [.d (.bool (decide (a = b)))] := by
 refine .of c43 t43_ok ?_
 rintro _ K ⟨a, b, rfl, hK⟩ hsm
 refine ⟨[.slice (txts a), .slice (txts b)], rfl, ⟨txts_has a, txts_has b, trivial⟩, ?_⟩
 simp only [zz, reduceCtorEq, t43, txts_len]
 refine fun h1 h2 => ⟨fun h => ?_, fun h => ?_⟩
 · have : a ≠ b := by rintro rfl; simp at h
   simpa [this] using hK
 · have hl : a.length = b.length := by
     have h' : (a.length : Int) = b.length := by simpa using h
     omega
   refine loop_go a (fun i l' (_ : Unit) => decide (l' = b.drop i)) (fun i _ => [.int .i64 i]) () (decide (a = b)) (by simp) 0 (fun _ _ => rfl) rfl ?_ ?_
   · intro i hi _ hgo
     have hib : i < b.length := by omega
     rw [List.drop_eq_getElem_cons hib] at hgo
     simp only [List.cons.injEq] at hgo
     simp only [zz, reduceCtorEq, txts_len, hi, hib, txts, List.length_map, getD_map hi, getD_map hib]
     refine ⟨by omega, fun h => ?_, fun h => ⟨(), by rw [wr64_eq] <;> omega, ?_⟩⟩
     · have h' : ¬ a[i] = b[i] := by simpa using h
       have : decide (a = b) = false := by rw [← hgo]; simp [h']
       rw [this] at hK; exact hK
     · have h' : a[i] = b[i] := by simpa using h
       simpa [h'] using hgo
   · intro _ hgo
     simp only [zz, reduceCtorEq, txts_len]
     have : decide (a = b) = true := by rw [← hgo, hl, List.drop_length]; simp
     rw [this] at hK
     exact hK
noncomputable def t35 : R := .guess (.o2 .eq (.o1 .len (.var 0)) (.int .i64 0)) (.ite (.var 1) (.ret [.own 9 .nils]) (.need (.o2 .le (.o1 .len (.o2 .app .nils (.var 0))) (.int .i64 1172812402961)) (.ret [.own 9 (.o2 .app .nils (.var 0))])))
theorem t35_ok : fnO Tryz.prog mdA 35 [.cell (.slice [.str, .str, .slice [.int .i64, .int .i64, .int .i64, .int .i64, .int .i64], .slice [.int .i64, .int .i64, .int .i64, .int .i64, .int .i64, .int .i64], .bool, .bool, .int .i64, .str, .int .i64])] = t35 := by kernel_rfl
theorem c35 : callable Tryz.prog 35 = true := by kernel_rfl
def relink (f t : List UInt8) (c : Cue) : Cue := { c with link := if c.link = f then t else c.link }
def renum (t : List UInt8) (c : Cue) : Cue := { c with num := t }
def renumbered (cs : List Cue) (f t : List UInt8) : List Cue := placed (without (cs.map (relink f t)) f) (renum t ((cs.map (relink f t))[(place cs f).toNat]!))
def zeroL : Lis := ⟨0, 0, []⟩
def renumRef (l : Lis) (f t : List UInt8) : Lis × Int :=
 if given17 l f ≠ 0 then (zeroL, given17 l f) else if check05 t ≠ 0 then (zeroL, check05 t) else if place l.cues f < 0 then (zeroL, 6) else if f ≠ t ∧ 0 ≤ place l.cues t then (zeroL, 7) else ({ l with cues := renumbered l.cues f t }, 0)
theorem modify_at {X : Type} : ∀ {cs : List X} {j : Nat} (hj : j < cs.length) (g : X → X), cs.modify j g = cs.take j ++ g cs[j] :: cs.drop (j + 1)
 | [], _, h, _ => by simp at h
 | c :: cs, 0, _, g => by simp
 | c :: cs, j + 1, h, g => by
   have := modify_at (cs := cs) (j := j) (by simpa using h) g
   simp [this]
def setLink (t : List UInt8) (c : Cue) : Cue := { c with link := t }
def ReI (out : List Cue) (f t : List UInt8) (i : Nat) (a : List Cue) : Prop := a = (out.take i).map (relink f t) ++ out.drop i
theorem denR_callX {P : Program} {F : Option Nat → List RV → Prop} {upd : Bool} {f : FuncId} {args : List RT} {res : List RK} {r : R} {ags : Ags} {ρ : List D} {pk : List PK} {s : SpecX} (hc : ContractX P f pk upd s) (h1 : ∃ τ, pkRhoX pk (args.map (RT.den ρ)) = some τ ∧ HasKs (pkKinds pk) τ) (h2 : upd = true → res.drop (fnTypes P f).length = ownKs pk)
   (h : s (args.map (RT.den ρ)) fun rvs => ∃ rs, RV.all res rvs = some rs ∧ denR P F noK r ags (ρ ++ rs)) : denR P F noK (.callX upd f args res r) ags ρ := ⟨pk, s, hc, h1, h2, h⟩
theorem denR_iteT {P : Program} {F : Option Nat → List RV → Prop} {t : T} {a b : R} {ags : Ags} {ρ : List D} (h : den ρ t = .bool true) (ha : denR P F noK a ags ρ) : denR P F noK (.ite t a b) ags ρ := ⟨fun _ => ha, fun h' => by rw [h] at h'; cases h'⟩
theorem denR_iteF {P : Program} {F : Option Nat → List RV → Prop} {t : T} {a b : R} {ags : Ags} {ρ : List D} (h : den ρ t = .bool false) (hb : denR P F noK b ags ρ) : denR P F noK (.ite t a b) ags ρ := ⟨fun h' => absurd (h.symm.trans h') (by simp), fun _ => hb⟩
def tc (n l : List UInt8) : Cue := ⟨n, [], [], [⟨0, 0, 0, 0, 0, 0⟩], false, false, -1, l, 0⟩
def three : Lis := ⟨1, 0, [tc [49] [], tc [50, 46, 53] [49], tc [51] [52]]⟩
noncomputable def t114 : R := let x0 : T := .o2 .le (.o1 .len (.var 0)) (.int .i64 40); let x1 : T := .o2 .le (.o1 .len (.var 1)) (.int .i64 100); let x2 : T := .o2 .le (.o1 .len (.var 7)) (.int .i64 40); let x3 : T := .o2 .le (.o1 .len (.var 3)) (.int .i64 10); .fact (.o2 .le (.o1 .len (.var 0)) (.int .i64 140737488355328)) (.fact (.ite x0 (.o2 .le (.o1 .len (.var 1)) (.int .i64 140737488355328)) (.bool true)) (.fact (.ite (.ite x0 x1 (.bool false)) (.o2 .le (.o1 .len (.var 7)) (.int .i64 140737488355328)) (.bool true)) (.fact (.ite (.ite (.ite x0 x1 (.bool false)) x2 (.bool false)) (.o2 .le (.o1 .len (.var 3)) (.int .i64 140737488355328)) (.bool true)) (.call (some (.ite (.ite (.ite x0 x1 (.bool false)) x2 (.bool false)) x3 (.bool false))) (.fn 173) [.var 2] [.cell .bool] (.ret [.d (.ite (.ite (.ite (.ite x0 x1 (.bool false)) x2 (.bool false)) x3 (.bool false)) (.var 9) (.bool false))])))))
theorem t114_ok : fnO Tryz.prog mdA 114 [.agg [.str, .str, .slice [.int .i64, .int .i64, .int .i64, .int .i64, .int .i64], .slice [.int .i64, .int .i64, .int .i64, .int .i64, .int .i64, .int .i64], .bool, .bool, .int .i64, .str, .int .i64]] = t114 := by kernel_rfl
theorem c114 : callable Tryz.prog 114 = true := by kernel_rfl
noncomputable def t66 : R := let x0 : T := .o1 .len (.var 2); .fact (.o2 .le x0 (.int .i64 140737488355328)) (.ite (.o2 .gt x0 (.int .i64 128)) (.ret [.d (.bool false)]) (.loop 0 [.int .i64 0] [.int .i64] (.ite (.o2 .lt (.var 3) x0) (.need (.o2 .le (.int .i64 0) (.var 3)) (.call none (.fn 114) [.lcons (.idx (.var 2) (.var 3) 0 .str) (.lcons (.idx (.var 2) (.var 3) 1 .str) (.lcons (.idx (.var 2) (.var 3) 2 (.slice [.int .i64, .int .i64, .int .i64, .int .i64, .int .i64])) (.lcons (.idx (.var 2) (.var 3) 3 (.slice [.int .i64, .int .i64, .int .i64, .int .i64, .int .i64, .int .i64])) (.lcons (.idx (.var 2) (.var 3) 4 .bool) (.lcons (.idx (.var 2) (.var 3) 5 .bool) (.lcons (.idx (.var 2) (.var 3) 6 (.int .i64)) (.lcons (.idx (.var 2) (.var 3) 7 .str) (.lcons (.idx (.var 2) (.var 3) 8 (.int .i64)) .lnil))))))))] [.cell .bool] (.ite (.o1 .not (.var 4)) (.ret [.d (.bool false)]) (.again 0 [.o2 (.add .i64) (.var 3) (.int .i64 1)])))) (.ret [.d (.bool true)]))))
theorem t66_ok : fnO Tryz.prog mdA 66 [.agg [.int .i64, .int .i64, .slice [.str, .str, .slice [.int .i64, .int .i64, .int .i64, .int .i64, .int .i64], .slice [.int .i64, .int .i64, .int .i64, .int .i64, .int .i64, .int .i64], .bool, .bool, .int .i64, .str, .int .i64]]] = t66 := by kernel_rfl
theorem c66 : callable Tryz.prog 66 = true := by kernel_rfl
noncomputable def t130 : R := let x0 : T := .lcons (.var 1) (.lcons (.var 2) .lnil); .call none (.fn 182) [.lcons (.var 0) x0, .push .nils (.lcons (.var 3) .lnil)] [.cell (.int .i64)] (.ite (.o2 .ne (.var 4) (.int .i64 0)) (.ret [.d (.int .i64 0), .d (.bool false), .d (.var 4)]) (.call none (.fn 183) [.lcons (.var 0) x0, .var 3] [.cell (.int .i64)] (.ret [.d (.ite (.o2 .gt (.int .i64 0) (.var 5)) (.int .i64 0) (.var 5)), .d (.o2 .ge (.var 5) (.int .i64 0)), .d (.int .i64 0)])))
theorem t130_ok : fnO Tryz.prog mdA 130 [.agg [.int .i64, .int .i64, .slice [.str, .str, .slice [.int .i64, .int .i64, .int .i64, .int .i64, .int .i64], .slice [.int .i64, .int .i64, .int .i64, .int .i64, .int .i64, .int .i64], .bool, .bool, .int .i64, .str, .int .i64]], .cell .str] = t130 := by kernel_rfl
theorem c130 : callable Tryz.prog 130 = true := by kernel_rfl
def few16 (c : Cue) : Bool := decide (c.num.length ≤ 40) && decide (c.label.length ≤ 100) && decide (c.link.length ≤ 40) && decide (c.parts.length ≤ 10) && fewMoves c.moves
theorem few16_ok : Contract Tryz.prog 114 fun args K => ∃ c : Cue, c.Ok ∧ args = [.agg c.enc] ∧ K [.d (.bool (few16 c))] := by
 refine .of c114 t114_ok ?_
 rintro _ K ⟨c, hc, rfl, hK⟩ hsm
 refine ⟨c.enc, rfl, Cue.has hc, ?_⟩
 simp only [few16] at hK
 simp only [zz, reduceCtorEq, t114, Cue.enc, List.length_map]
 intro _ _ _ _
 refine denR_gcall fewMoves_ok (decide (c.num.length ≤ 40) && decide (c.label.length ≤ 100) && decide (c.link.length ≤ 40) && decide (c.parts.length ≤ 10)) [.bool (decide (c.num.length ≤ 40) && decide (c.label.length ≤ 100) && decide (c.link.length ≤ 40) && decide (c.parts.length ≤ 10) && fewMoves c.moves)] ?_ (fun h => ⟨c.moves, hc.moves, rfl, ?_⟩) (fun h => ?_) ?_
 · simp only [zz, reduceCtorEq, List.length_map]
   by_cases h1 : c.num.length ≤ 40 <;> by_cases h2 : c.label.length ≤ 100 <;> by_cases h3 : c.link.length ≤ 40 <;> by_cases h4 : c.parts.length ≤ 10 <;> simp [h1, h2, h3, h4] <;> omega
 · rw [h]; rfl
 · rw [h]; rfl
 · simp only [zz, reduceCtorEq, List.length_map]
   revert hK
   by_cases h1 : c.num.length ≤ 40 <;> by_cases h2 : c.label.length ≤ 100 <;> by_cases h3 : c.link.length ≤ 40 <;> by_cases h4 : c.parts.length ≤ 10 <;> simp [h1, h2, h3, h4] <;> grind
def fewGo : List Cue → Bool
 | [] => true
 | c :: cs => if few16 c then fewGo cs else false
def few17 (l : Lis) : Bool := if 128 < l.cues.length then false else fewGo l.cues
theorem few17_ok : Contract Tryz.prog 66 fun args K => ∃ l : Lis, l.Ok ∧ args = [.agg l.enc] ∧ K [.d (.bool (few17 l))] := by
 refine .of c66 t66_ok ?_
 rintro _ K ⟨l, hl, rfl, hK⟩ hsm
 refine ⟨l.enc, rfl, Lis.has hl, ?_⟩
 simp only [few17] at hK
 simp only [zz, reduceCtorEq, t66, Lis.enc, List.length_map]
 refine fun hcap => ⟨fun h => by rw [if_pos (by omega)] at hK; exact hK, fun h => ?_⟩
 rw [if_neg (by omega)] at hK
 refine loop_go l.cues (fun i l' (_ : Unit) => fewGo l') (fun i _ => [.int .i64 i]) () _ rfl 0 (fun _ _ => rfl) rfl ?_ ?_
 · intro i hi _ hgo
   simp only [fewGo] at hgo
   simp only [zz, reduceCtorEq, hi, List.length_map]
   refine ⟨by omega, denR_call few16_ok ⟨l.cues[i], hl.cues _ (List.getElem_mem hi), by simp only [zz, reduceCtorEq, getD_map hi, Cue.enc], _, rfl, ?_⟩⟩
   simp only [zz, reduceCtorEq]
   cases hf : few16 l.cues[i]
   · rw [hf] at hgo; rw [← hgo] at hK
     exact ⟨fun _ => hK, fun h => by simp at h⟩
   · rw [hf] at hgo
     exact ⟨fun h => by simp at h, fun _ => ⟨(), by rw [wr64_eq] <;> omega, hgo⟩⟩
 · intro _ hgo
   simp only [fewGo] at hgo
   simp only [zz, reduceCtorEq, List.length_map]
   rw [← hgo] at hK
   exact hK
theorem checkedL_one (l : Lis) (s : List UInt8) : checkedL l [s] = given17 l s := by
 simp only [checkedL, given17, checkedGo]
 split
 · rfl
 · split
   · rfl
   · rename_i h; exact (by simpa using h : check05 s = 0).symm
def findR (l : Lis) (s : List UInt8) : Int × Bool × Int := if given17 l s ≠ 0 then (0, false, given17 l s) else (if place l.cues s < 0 then 0 else place l.cues s, decide (0 ≤ place l.cues s), 0)
theorem findR_ok : Contract Tryz.prog 130 fun args K => ∃ (l : Lis) (s : List UInt8), l.Ok ∧ args = [.agg l.enc, .str s] ∧ K [.d (.int .i64 (findR l s).1), .d (.bool (findR l s).2.1), .d (.int .i64 (findR l s).2.2)] := by
 refine .of c130 t130_ok ?_
 rintro _ K ⟨l, s, hl, rfl, hK⟩ hsm
 refine ⟨l.enc ++ [.str s], rfl, by exact has_s hl, ?_⟩
 refine denR_call checked_ok ⟨l, [s], hl, rfl, _, rfl, ?_⟩
 simp only [findR] at hK
 simp only [zz, reduceCtorEq, Lis.enc, checkedL_one]
 refine ⟨fun h => ?_, fun h => ?_⟩
 · rw [if_pos (by simpa using h)] at hK; exact hK
 · rw [if_neg (by simpa using h)] at hK
   refine denR_call place_ok ⟨l, s, hl, rfl, _, rfl, ?_⟩
   simp only [zz, reduceCtorEq]
   exact hK
def afterR (l : Lis) (s : List UInt8) : List UInt8 × Bool × Int := if given17 l s ≠ 0 then ([], false, given17 l s) else ((pick ((names l).find? fun x => decide (0 < order05 x s))).1, (pick ((names l).find? fun x => decide (0 < order05 x s))).2, 0)
def beforeR (l : Lis) (s : List UInt8) : List UInt8 × Bool × Int := if given17 l s ≠ 0 then ([], false, given17 l s) else ((pick ((names l).reverse.find? fun x => decide (order05 x s < 0))).1, (pick ((names l).reverse.find? fun x => decide (order05 x s < 0))).2, 0)
def uses (c : Cue) (p : Int) : Bool := c.moves.any fun m => decide (0 < m.va.pal) && decide (m.va.pal = p)
def refersL (cs : List Cue) (p : Int) : List (List UInt8) := (cs.filter fun c => uses c p).map (·.num)
def refersR (l : Lis) (p : Int) : List (List UInt8) × Int := if checkL order05 l ≠ 0 then ([], checkL order05 l) else (refersL l.cues p, 0)
def usesGo (p : Int) : List Mov → Bool
 | [] => false
 | m :: ms => if 0 < m.va.pal ∧ m.va.pal = p then true else usesGo p ms
theorem str_of {d : D} (h : HasK .str d) : ∃ s, d = .str s := by cases d <;> simp [HasK] at h; exact ⟨_, rfl⟩
theorem bool_of {d : D} (h : HasK .bool d) : ∃ s, d = .bool s := by cases d <;> simp [HasK] at h; exact ⟨_, rfl⟩
theorem slice_of {X : Type} {enc : X → List D} {ks : List K} {Ok : X → Prop} (h : ∀ ds, HasKs ks ds → ∃ x, Ok x ∧ ds = enc x) {d : D} (hd : HasK (.slice ks) d) : ∃ l : List X, (∀ x ∈ l, Ok x) ∧ d = .slice (l.map enc) := by
 cases d <;> simp only [HasK] at hd
 rename_i xs
 induction xs with
 | nil => exact ⟨[], by simp, rfl⟩
 | cons x xs ih =>
   obtain ⟨y, hy, rfl⟩ := h x (hd x (by simp))
   obtain ⟨l, h1, h2⟩ := ih fun z hz => hd z (by simp [hz])
   refine ⟨y :: l, ?_, ?_⟩
   · intro z hz
     rcases List.mem_cons.1 hz with rfl | hz
     · exact hy
     · exact h1 z hz
   · have : xs = l.map enc := by simpa using h2
     rw [List.map_cons, this]
theorem Mov.of {ds : List D} (h : HasKs mvKs ds) : ∃ m : Mov, m.Ok ∧ ds = m.enc := by
 match ds, h with
 | [a, b, c, d, e], ⟨h1, h2, h3, h4, h5, _⟩ =>
   obtain ⟨a, rfl, ha⟩ := i64_of h1
   obtain ⟨b, rfl, hb⟩ := i64_of h2
   obtain ⟨c, rfl, hc⟩ := i64_of h3
   obtain ⟨d, rfl, hd⟩ := i64_of h4
   obtain ⟨e, rfl, he⟩ := i64_of h5
   exact ⟨⟨⟨a, b⟩, ⟨c, d⟩, e⟩, ⟨⟨ha, hb⟩, ⟨hc, hd⟩, he⟩, rfl⟩
theorem Tim.of {ds : List D} (h : HasKs tmKs ds) : ∃ m : Tim, m.Ok ∧ ds = m.enc := by
 match ds, h with
 | [a, b, c, d, e, f], ⟨h1, h2, h3, h4, h5, h6, _⟩ =>
   obtain ⟨a, rfl, ha⟩ := i64_of h1
   obtain ⟨b, rfl, hb⟩ := i64_of h2
   obtain ⟨c, rfl, hc⟩ := i64_of h3
   obtain ⟨d, rfl, hd⟩ := i64_of h4
   obtain ⟨e, rfl, he⟩ := i64_of h5
   obtain ⟨f, rfl, hf⟩ := i64_of h6
   exact ⟨⟨a, b, c, d, e, f⟩, ⟨ha, hb, hc, hd, he, hf⟩, rfl⟩
theorem Cue.of {ds : List D} (h : HasKs cueKs ds) : ∃ m : Cue, m.Ok ∧ ds = m.enc := by
 match ds, h with
 | [a, b, c, d, e, f, g, i, j], ⟨h1, h2, h3, h4, h5, h6, h7, h8, h9, _⟩ =>
   obtain ⟨a, rfl⟩ := str_of h1
   obtain ⟨b, rfl⟩ := str_of h2
   obtain ⟨c, hc, rfl⟩ := slice_of (fun _ => Mov.of) h3
   obtain ⟨d, hd, rfl⟩ := slice_of (fun _ => Tim.of) h4
   obtain ⟨e, rfl⟩ := bool_of h5
   obtain ⟨f, rfl⟩ := bool_of h6
   obtain ⟨g, rfl, hg⟩ := i64_of h7
   obtain ⟨i, rfl⟩ := str_of h8
   obtain ⟨j, rfl, hj⟩ := i64_of h9
   exact ⟨⟨a, b, c, d, e, f, g, i, j⟩, ⟨hc, hd, hg, hj⟩, rfl⟩
theorem Lis.of {ds : List D} (h : HasKs liKs ds) : ∃ m : Lis, m.Ok ∧ ds = m.enc := by
 match ds, h with
 | [a, b, c], ⟨h1, h2, h3, _⟩ =>
   obtain ⟨a, rfl, ha⟩ := i64_of h1
   obtain ⟨b, rfl, hb⟩ := i64_of h2
   obtain ⟨c, hc, rfl⟩ := slice_of (fun _ => Cue.of) h3
   exact ⟨⟨a, b, c⟩, ⟨ha, hb, hc⟩, rfl⟩
theorem Lis.ofAgg {d : D} (h : HasK (.agg liKs) d) : ∃ l : Lis, l.Ok ∧ d = .agg l.enc := by
 cases d <;> simp only [HasK] at h
 obtain ⟨l, h1, rfl⟩ := Lis.of h
 exact ⟨l, h1, rfl⟩
noncomputable def t213 : R := .call none (.fn 185) [.lcons (.var 0) (.lcons (.var 1) .lnil), .lcons (.var 5) (.lcons (.var 6) .lnil)] [.cell (.int .i64)] (.ret [.d (.var 7)])
theorem before_trans {p q r : Par} (h1 : before15 p q = true) (h2 : before15 q r = true) : before15 p r = true := by
 simp only [before15, Bool.or_eq_true, Bool.and_eq_true, decide_eq_true_eq] at *
 omega
def RisingM (ms : List Mov) : Prop := ms.Pairwise fun a b => before15 a.pa b.pa = true
theorem movesGo_zero {xs : List Mov} : ∀ (cs : List Mov) (i : Nat), cs = xs.drop i → movesGo xs i cs = 0 → (∀ c ∈ cs, param15 c.pa = 0) ∧ (∀ j, i ≤ j → 0 < j → (hj : j < xs.length) → before15 (xs[j - 1]'(by omega)).pa (xs[j]).pa = true)
 | [], i, he, _ => ⟨by simp, fun j h1 h2 h3 => by
     have := congrArg List.length he
     simp at this
     omega⟩
 | c :: cs, i, he, h => by
   have hlt : i < xs.length := by
     rcases Nat.lt_or_ge i xs.length with h | h
     · exact h
     · rw [List.drop_eq_nil_of_le h] at he; cases he
   rw [List.drop_eq_getElem_cons hlt] at he
   obtain ⟨rfl, rfl⟩ := List.cons.inj he
   simp only [movesGo] at h
   split at h
   · rename_i hc; exact absurd h hc
   rename_i hc
   have hc : param15 xs[i].pa = 0 := by simpa using hc
   split at h
   · rename_i hc; exact absurd h hc
   split at h
   · cases h
   split at h
   · cases h
   rename_i ho
   obtain ⟨g1, g2⟩ := movesGo_zero (xs.drop (i + 1)) (i + 1) rfl h
   refine ⟨fun d hd => ?_, fun j h1 h2 h3 => ?_⟩
   · rcases List.mem_cons.1 hd with rfl | hd
     · exact hc
     · exact g1 d hd
   · rcases Nat.eq_or_lt_of_le h1 with rfl | h1
     · rw [getElem!_pos xs (i - 1) (by omega)] at ho
       rcases Bool.eq_false_or_eq_true (before15 (xs[i - 1]'(by omega)).pa (xs[i]).pa) with hb | hb
       · exact hb
       · exact absurd ⟨h2, hb⟩ ho
     · exact g2 j h1 h2 h3
structure RightM (ms : List Mov) : Prop where
 par : ∀ m ∈ ms, param15 m.pa = 0
 rising : RisingM ms
 len : ms.length ≤ 128
theorem rightM_of {ms : List Mov} (h : moves16 ms = 0) : RightM ms := by
 unfold moves16 at h
 split at h
 · cases h
 · rename_i hl
   obtain ⟨g1, g2⟩ := movesGo_zero ms 0 rfl h
   refine ⟨g1, ?_, by omega⟩
   rw [RisingM, List.pairwise_iff_getElem]
   have step : ∀ (n i : Nat) (hi : i + n + 1 < ms.length), before15 (ms[i]'(by omega)).pa (ms[i + n + 1]).pa = true := by
     intro n
     induction n with
     | zero => intro i hi; exact g2 (i + 1) (Nat.zero_le _) (by omega) hi
     | succ n ih => intro i hi; exact before_trans (ih i (by omega)) (g2 (i + (n + 1) + 1) (Nat.zero_le _) (by omega) hi)
   intro i j hi hj hij
   obtain ⟨n, rfl⟩ : ∃ n, j = i + n + 1 := ⟨j - i - 1, by omega⟩
   exact step n i hj
theorem check16_moves {c : Cue} (h : check16 c = 0) : moves16 c.moves = 0 := by
 simp only [check16] at h
 split at h
 · rename_i h1; exact absurd h h1
 split at h
 · rename_i h1; exact absurd h h1
 split at h
 · rename_i h1; exact absurd h h1
 · rename_i h1; simpa using h1
def low (ms : List Mov) (p : Par) : Nat := (ms.takeWhile fun m => before15 m.pa p).length
theorem u64_id {n : Int} (h : 0 ≤ n ∧ n ≤ 9223372036854775807) : IntKind.u64.wrap n = n :=
 wrap_id .u64 n (by simp [IntKind.min, IntKind.signed]; omega) (by simp [IntKind.max, IntKind.signed, IntKind.bits]; omega)
theorem mid_eq {lo hi : Nat} (h : lo + hi ≤ 281474976710656) : wr64 (IntKind.u64.wrap ((IntKind.u64.wrap (wr64 ((lo : Int) + hi))).fdiv (2 ^ min (Int.toNat 1) IntKind.u64.bits))) = ((lo + hi) / 2 : Nat) := by
 have e : (2 : Int) ^ min (Int.toNat 1) IntKind.u64.bits = 2 := by
   simp [IntKind.bits]
 rw [e, wr64_eq (n := (lo : Int) + hi) (by omega), u64_id (n := (lo : Int) + hi) (by omega)]
 have e2 : ((lo : Int) + hi).fdiv 2 = ((lo + hi) / 2 : Nat) := by
   rw [Int.fdiv_eq_ediv_of_nonneg _ (by omega)]; omega
 rw [e2, u64_id (by omega), wr64_eq (by omega)]
theorem denR_gfcall {P : Program} {F : Option Nat → List RV → Prop} {t : T} {s : Spec} {args : List T} {res : List RK} {r : R} {ags : Ags} {ρ : List D} {c : T} (b : Bool) (v : List D) (hb : den ρ c = .bool b)
   (h1 : b = true → FvC P (den ρ t) s ∧ s (args.map (den ρ)) fun rvs => ∃ rs, RV.all res rvs = some rs ∧ HasKs (RK.all res) rs ∧ rs = v) (h2 : b = false → Go.Sx.K.zeros (RK.all res) = v)
   (h3 : denR P F noK r ags (ρ ++ v)) : denR P F noK (.call (some c) (.val t) args res r) ags ρ :=
 ⟨fun rs => rs = v, fun h => ⟨s, h1 (by rw [hb] at h; exact D.bool.inj h)⟩, fun h => h2 (by rw [hb] at h; exact D.bool.inj h), fun rs _ h => by rw [h]; exact h3⟩
def mfind (ms : List Mov) (p : Par) : Option Mov := ms.find? fun m => decide (m.pa = p)
def hval : Val := ⟨-1, 0⟩
abbrev wkKs : List K := [.slice cueKs, .slice cnKs, .int .i64, .int .i64]
def mdF : Go.Sx.Mode := { mdA with own := [204, 205] ++ mdA.own, x := [(205, [.own cnKs, .cell (.int .i64), .own cnKs], false), (112, [.box wkKs], true), (136, [.own [.int .i64]], true)] ++ mdA.x }
noncomputable def t107 : R := .call none (.fn 157) [.var 0, .var 1] [.cell (.int .i64), .cell (.int .i64)] (.ret [.d (.var 2)])
theorem t107_ok : fnO Tryz.prog mdA 107 [.cell .str, .cell .str] = t107 := by kernel_rfl
theorem c107 : callable Tryz.prog 107 = true := by kernel_rfl
noncomputable def t60 : R := let x0 : T := .o2 .gt (.var 1) (.int .i64 0); let x1 : T := .o2 (.sub .i64) (.var 1) (.int .i64 1); let x2 : T := .o1 .len (.var 0); let x3 : T := .idx (.var 0) (.var 1) 1 (.int .i64); .fact (.o2 .le x2 (.int .i64 140737488355328)) (.ite (.o2 .gt x2 (.int .i64 64)) (.ret [.d (.int .i64 5)]) (.loop 0 [.int .i64 0] [.int .i64] (.ite (.o2 .lt (.var 1) x2) (.need (.o2 .le (.int .i64 0) (.var 1)) (.call none (.fn 104) [.idx (.var 0) (.var 1) 0 .str] [.cell (.int .i64)] (.ite (.o2 .ne (.var 2) (.int .i64 0)) (.ret [.d (.var 2)]) (.ite (.ite (.o2 .lt x3 (.int .i64 1)) (.bool true) (.o2 .gt x3 (.int .i64 100))) (.ret [.d (.int .i64 2)]) (.need (.ite x0 (.o2 .le (.int .i64 0) x1) (.bool true)) (.need (.ite x0 (.o2 .lt x1 x2) (.bool true)) (.call (some x0) (.fn 107) [.idx (.var 0) x1 0 .str, .idx (.var 0) (.var 1) 0 .str] [.cell (.int .i64)] (.ite (.ite x0 (.o2 .ge (.var 3) (.int .i64 0)) (.bool false)) (.ret [.d (.int .i64 9)]) (.again 0 [.o2 (.add .i64) (.var 1) (.int .i64 1)]))))))))) (.ret [.d (.int .i64 0)]))))
theorem t60_ok : fnO Tryz.prog mdA 60 [.cell (.slice [.str, .int .i64])] = t60 := by kernel_rfl
theorem c60 : callable Tryz.prog 60 = true := by kernel_rfl
noncomputable def t59 : R := .call none (.fn 61) [.var 0] [.cell (.int .i64)] (.ite (.o2 .ne (.var 2) (.int .i64 0)) (.ret [.d (.int .i64 0), .d (.var 2)]) (.call none (.fn 96) [.var 1] [.cell (.int .i64)] (.ite (.o2 .ne (.var 3) (.int .i64 0)) (.ret [.d (.int .i64 0), .d (.var 3)]) (.call none (.fn 106) [.var 0, .var 1] [.cell (.int .i64)] (.ret [.d (.var 4), .d (.int .i64 0)])))))
noncomputable def t171 : R := let x0 : T := .o2 .app (.var 3) (.push .nils (.lcons (.var 1) (.lcons (.o2 (.add .i64) (.var 2) (.int .i64 1)) .lnil))); let x1 : T := .o2 .app (.var 7) (.push .nils (.lcons (.idx (.var 0) (.var 5) 0 .str) (.lcons (.idx (.var 0) (.var 5) 1 (.int .i64)) .lnil))); let x2 : T := .o1 .not (.var 4); let x3 : T := .o2 .ge (.var 6) (.int .i64 0); let x4 : T := .o2 .le (.o1 .len x0) (.int .i64 5864062014805); let x5 : T := .o2 .ne (.var 6) (.int .i64 0); .call none (.fn 106) [.var 0, .var 1] [.cell (.int .i64)] (.loop 0 [.nils, .bool false, .int .i64 0] [.slice [.str, .int .i64], .bool, .int .i64] (.fact (.o2 .le (.o1 .len (.var 0)) (.int .i64 140737488355328)) (.ite (.o2 .lt (.var 5) (.o1 .len (.var 0))) (.need (.o2 .le (.int .i64 0) (.var 5)) (.call none (.fn 108) [.idx (.var 0) (.var 5) 0 .str, .var 1] [.cell (.int .i64)] (.need (.ite (.ite x2 x3 (.bool false)) x4 (.bool true)) (.lets [.ite (.ite x2 x3 (.bool false)) x0 (.var 3), .ite (.ite x2 x3 (.bool false)) (.bool true) (.var 4)] (.need (.ite x5 (.o2 .le (.o1 .len x1) (.int .i64 5864062014805)) (.bool true)) (.lets [.ite x5 x1 (.var 7)] (.again 0 [.var 9, .var 8, .o2 (.add .i64) (.var 5) (.int .i64 1)]))))))) (.need (.ite x2 x4 (.bool true)) (.lets [.ite x2 x0 (.var 3)] (.ret [.own 2 (.var 6)]))))))
noncomputable def t199 : R := .call none (.fn 107) [.var 0, .var 2] [.cell (.int .i64)] (.ret [.d (.var 3)])
theorem t199_ok : fnO Tryz.prog mdA 199 [.agg [.str, .int .i64], .cell .str] = t199 := by kernel_rfl
theorem c199 : callable Tryz.prog 199 = true := by kernel_rfl
noncomputable def t198 : R := let x0 : T := .o1 (.conv .i64) (.o2 (.shr .u64) (.o1 (.conv .u64) (.o2 (.add .i64) (.var 3) (.var 4))) (.int .u64 1)); let x2 : T := .o1 .len (.var 0); let x3 : T := .o2 .lt (.var 5) (.int .i64 0); let x1 : T := .o2 .lt (.var 3) x2; .fact (.o2 .le x2 (.int .i64 140737488355328)) (.loop 0 [.int .i64 0, .o1 .len (.var 0)] [.int .i64, .int .i64] (.ite (.o2 .lt (.var 3) (.var 4)) (.need (.o2 .ge (.int .u64 1) (.int .u64 0)) (.need (.o2 .le (.int .i64 0) x0) (.need (.o2 .lt x0 x2) (.call none (.val (.var 2)) [.lcons (.idx (.var 0) x0 0 .str) (.lcons (.idx (.var 0) x0 1 (.int .i64)) .lnil), .var 1] [.cell (.int .i64)] (.lets [.ite x3 (.o2 (.add .i64) x0 (.int .i64 1)) (.var 3), .ite x3 (.var 4) x0] (.again 0 [.var 6, .var 7])))))) (.need (.ite x1 (.o2 .le (.int .i64 0) (.var 3)) (.bool true)) (.call (some x1) (.val (.var 2)) [.lcons (.idx (.var 0) (.var 3) 0 .str) (.lcons (.idx (.var 0) (.var 3) 1 (.int .i64)) .lnil), .var 1] [.cell (.int .i64)] (.ret [.d (.var 3), .d (.ite x1 (.o2 .eq (.var 5) (.int .i64 0)) (.bool false))])))))
theorem t198_ok : fnO Tryz.prog mdF 198 [.cell (.slice [.str, .int .i64]), .cell .str, .cell .fn] = t198 := by kernel_rfl
theorem c198 : callable Tryz.prog 198 = true := by kernel_rfl
noncomputable def t156 : R := .call none (.fn 198) [.var 0, .var 1, .fn 199] [.cell (.int .i64), .cell .bool] (.ret [.d (.var 2), .d (.var 3)])
theorem t156_ok : fnO Tryz.prog mdF 156 [.cell (.slice [.str, .int .i64]), .cell .str] = t156 := by kernel_rfl
theorem c156 : callable Tryz.prog 156 = true := by kernel_rfl
noncomputable def t105 : R := .call none (.fn 156) [.var 0, .var 1] [.cell (.int .i64), .cell .bool] (.ite (.var 3) (.need (.o2 .le (.int .i64 0) (.var 2)) (.need (.o2 .lt (.var 2) (.o1 .len (.var 0))) (.ret [.d (.idx (.var 0) (.var 2) 1 (.int .i64))]))) (.ret [.d (.int .i64 0)]))
theorem t105_ok : fnO Tryz.prog mdF 105 [.cell (.slice [.str, .int .i64]), .cell .str] = t105 := by kernel_rfl
theorem c105 : callable Tryz.prog 105 = true := by kernel_rfl
theorem cnts_has {k : List Cnt} (h : ∀ c ∈ k, c.Ok) : HasK (.slice cnKs) (.slice (k.map Cnt.enc)) := slice_has fun c hc => Cnt.has (h c hc)
theorem fcompare_ok : Contract Tryz.prog 107 fun args K => ∃ a b, args = [.str a, .str b] ∧ K [.d (.int .i64 (comp a b))] := by
 refine .of c107 t107_ok ?_
 rintro _ K ⟨a, b, rfl, hK⟩ hsm
 refine ⟨[.str a, .str b], rfl, ⟨trivial, trivial, trivial⟩, ?_⟩
 exact denR_call comp_ok ⟨a, b, rfl, _, rfl, hK⟩
theorem nchk_ok : Contract Tryz.prog 60 fun args K => ∃ k : List Cnt, (∀ c ∈ k, c.Ok) ∧ args = [.slice (k.map Cnt.enc)] ∧ K [.d (.int .i64 (checkN comp k))] := by
 refine .of c60 t60_ok ?_
 rintro _ K ⟨k, hk, rfl, hK⟩ hsm
 refine ⟨[.slice (k.map Cnt.enc)], rfl, ⟨cnts_has hk, trivial⟩, ?_⟩
 simp only [checkN] at hK
 simp only [zz, reduceCtorEq, t60, List.length_map]
 refine fun hcap => ⟨fun h => by rw [if_pos (by omega)] at hK; exact hK, fun h => ?_⟩
 rw [if_neg (by omega)] at hK
 refine loop_go k (fun i l' (_ : Unit) => cntsGo comp k i l') (fun i _ => [.int .i64 i]) () _ rfl 0 (fun _ _ => rfl) rfl ?_ ?_
 · intro i hi _ hgo
   simp only [cntsGo] at hgo
   have hw : 0 < i → wr64 (↑i - 1) = ((i - 1 : Nat) : Int) := fun h => by rw [wr64_eq] <;> omega
   simp only [zz, reduceCtorEq, hi, List.length_map]
   refine ⟨by omega, denR_call nCheck_ok ⟨k[i].cue, by simp only [zz, reduceCtorEq, getD_map hi, Cnt.enc], _, rfl, ?_⟩⟩
   simp only [zz, reduceCtorEq, List.length_map]
   by_cases h1 : check05 k[i].cue = 0
   · simp only [h1, ne_eq, not_true_eq_false, if_false] at hgo ⊢
     refine ⟨fun h => by simp at h, fun _ => ?_⟩
     simp only [zz, reduceCtorEq, getD_map hi, Cnt.enc]
     refine ⟨fun h => ?_, fun h => ?_⟩
     · rw [if_pos (by omega)] at hgo; rw [← hgo] at hK; exact hK
     rw [if_neg (by omega)] at hgo
     refine ⟨?_, ?_, ?_⟩
     · split
       · rename_i h0; rw [hw h0]; simp
       · rfl
     · split
       · rename_i h0; rw [hw h0]; simp; omega
       · rfl
     · have hp : ∀ h : 0 < i, k[i - 1]! = k[i - 1]'(by omega) := fun h => getElem!_pos k (i - 1) (by omega)
       refine denR_gcall fcompare_ok (decide (0 < i)) [.int .i64 (if 0 < i then comp (k[i - 1]!).cue (k[i]).cue else 0)] ?_ (fun h => ⟨(k[i - 1]!).cue, (k[i]).cue, ?_, ?_⟩) (fun h => ?_) ?_
       · simp only [zz, reduceCtorEq]
       · have h : 0 < i := by simpa using h
         rw [hp h]
         simp only [zz, reduceCtorEq, hw h, getD_map hi, getD_map (show i - 1 < k.length by omega), Cnt.enc]
       · have h : 0 < i := by simpa using h
         rw [if_pos h]; rfl
       · have h : ¬ 0 < i := by simpa using h
         rw [if_neg h]; rfl
       · simp only [zz, reduceCtorEq]
         grind [wr64_eq]
   · simp only [h1, ne_eq, not_false_eq_true, if_true] at hgo ⊢
     rw [← hgo] at hK
     exact ⟨fun _ => hK, fun h => by simp [h1] at h⟩
 · intro _ hgo
   simp only [cntsGo] at hgo
   simp only [zz, reduceCtorEq, List.length_map]
   rw [← hgo] at hK; exact hK
theorem checkN_eq (l : List Cnt) : checkN comp l = checkN order05 l := by
 have key : ∀ (cs : List Cnt) (i : Nat) (xs : List Cnt), (∀ j, j < i → check05 (xs[j]!).cue = 0) → cs = xs.drop i → cntsGo comp xs i cs = cntsGo order05 xs i cs := by
   intro cs
   induction cs with
   | nil => intro i xs _ _; rfl
   | cons c cs ih =>
     intro i xs hx he
     have hlt : i < xs.length := by
       rcases Nat.lt_or_ge i xs.length with h | h
       · exact h
       · rw [List.drop_eq_nil_of_le h] at he; cases he
     rw [List.drop_eq_getElem_cons hlt] at he
     obtain ⟨rfl, rfl⟩ := List.cons.inj he
     simp only [cntsGo]
     by_cases h : check05 xs[i].cue = 0
     · have hnext := ih (i + 1) xs (fun j hj => by
         rcases Nat.lt_succ_iff_lt_or_eq.1 hj with hj | rfl
         · exact hx j hj
         · rw [getElem!_pos xs j hlt]; exact h) rfl
       have hc : 0 < i → comp (xs[i - 1]!).cue (xs[i]).cue = order05 (xs[i - 1]!).cue (xs[i]).cue := fun h0 => comp_order (hx (i - 1) (by omega)) h
       by_cases h0 : 0 < i
       · rw [hc h0, hnext]
       · simp only [h0, false_and, if_false, hnext]
     · rw [if_pos (by simpa using h), if_pos (by simpa using h)]
 simp only [checkN, key l 0 l (by simp) rfl]
theorem nchkC_ok : Contract Tryz.prog 60 fun args K => ∃ k : List Cnt, (∀ c ∈ k, c.Ok) ∧ args = [.slice (k.map Cnt.enc)] ∧ K [.d (.int .i64 (checkN order05 k))] :=
 nchk_ok.weaken fun args K _ ⟨k, h1, h2, h3⟩ => ⟨k, h1, h2, by rw [checkN_eq]; exact h3⟩
def ofR (k : List Cnt) (s : List UInt8) : Int × Int := if checkN order05 k ≠ 0 then (0, checkN order05 k) else if check05 s ≠ 0 then (0, check05 s) else (cnt k s, 0)
theorem fsearch1_ok : Contract Tryz.prog 199 fun args K => ∃ (c : Cnt) (s : List UInt8), c.Ok ∧ args = [.agg c.enc, .str s] ∧ K [.d (.int .i64 (comp c.cue s))] := by
 refine .of c199 t199_ok ?_
 rintro _ K ⟨c, s, hc, rfl, hK⟩ hsm
 refine ⟨c.enc ++ [.str s], rfl, by exact (Cnt.has hc).append (show HasKs [.str] [.str s] from ⟨trivial, trivial⟩), ?_⟩
 refine denR_call fcompare_ok ⟨c.cue, s, rfl, _, rfl, ?_⟩
 exact hK
theorem order_small (a b : List UInt8) : I64 (order05 a b) := by unfold order05; split <;> (try split) <;> exact ⟨by omega, by omega⟩
theorem bsearchC_ok : Contract Tryz.prog 198 fun args K => ∃ (k : List Cnt) (s : List UInt8), (∀ c ∈ k, c.Ok) ∧ (∀ c ∈ k, check05 c.cue = 0) ∧ RisingC k ∧ check05 s = 0 ∧
   args = [.slice (k.map Cnt.enc), .str s, .clo 199 []] ∧ K [.d (.int .i64 (lowC k s)), .d (.bool (k.any fun c => c.cue == s))] := by
 refine .of c198 t198_ok ?_
 rintro _ K ⟨k, s, hk, hn, hr, hs, rfl, hK⟩ hsm
 refine ⟨[.slice (k.map Cnt.enc), .str s, .clo 199 []], rfl, ⟨cnts_has hk, trivial, trivial, trivial⟩, ?_⟩
 have hi64 : ∀ c ∈ k, HasKs (RK.all [.cell (.int .i64)]) [.int .i64 (order05 c.cue s)] := fun c _ => ⟨i64_has (order_small _ _), trivial⟩
 have hfv : ∀ c ∈ k, FvC Tryz.prog (.clo 199 []) fun as_ K => as_ = [.agg c.enc, .str s] ∧ K [.d (.int .i64 (order05 c.cue s))] := by
   intro c hc
   refine FvC.of c199 fsearch1_ok ?_
   rintro _ K ⟨rfl, hK⟩
   refine ⟨⟨c, s, hk c hc, rfl, by rw [comp_order (hn c hc) hs]; exact hK⟩, argsTyped_of [some (.agg cnKs), some (.cell .str)] (by kernel_rfl) ?_⟩
   intro i rk d h1 h2
   match i, h1, h2 with
   | 0, h1, h2 => simp at h1 h2; subst h1 h2; exact Cnt.has (hk c hc)
   | 1, h1, h2 => simp at h1 h2; subst h1 h2; trivial
 simp only [zz, reduceCtorEq, t198, List.length_map]
 intro hcap
 rw [denR_loop]
 refine ⟨fun c ys => c = none ∧ ∃ lo hi : Nat, lo ≤ hi ∧ hi ≤ k.length ∧ (∀ q (hq : q < k.length), q < lo → value05 (k[q]).cue < value05 s) ∧ (∀ q (hq : q < k.length), hi ≤ q → ¬ value05 (k[q]).cue < value05 s) ∧ ys = [.int .i64 lo, .int .i64 hi],
   fun _ ys => match ys with | [.int _ lo, .int _ hi] => (hi - lo).toNat | _ => 0, ⟨rfl, 0, k.length, Nat.zero_le _, Nat.le_refl _, fun q hq h => by omega, fun q hq h => by omega, ?_⟩, ?_⟩
 · simp only [zz, reduceCtorEq, List.length_map]
   rfl
 rintro _ _ _ ⟨rfl, lo, hi, hlh, hhi, hlo, hhi2, rfl⟩
 have fcall : ∀ (q : Nat) (hq : q < k.length), FvC Tryz.prog (.clo 199 []) fun as_ K => as_ = [.agg [.str k[q].cue, .int .i64 k[q].n], .str s] ∧ K [.d (.int .i64 (order05 k[q].cue s))] :=
   fun q hq => hfv k[q] (List.getElem_mem hq)
 rcases Nat.lt_or_ge lo hi with hlt | hge
 · obtain ⟨q, hq1, hq2, hmid⟩ : ∃ q : Nat, lo ≤ q ∧ q < hi ∧ wr64 (IntKind.u64.wrap ((IntKind.u64.wrap (wr64 ((lo : Int) + hi))).fdiv (2 ^ min (Int.toNat 1) IntKind.u64.bits))) = (q : Int) :=
     ⟨(lo + hi) / 2, by omega, by omega, mid_eq (by omega)⟩
   have hm : q < k.length := by omega
   simp only [zz, reduceCtorEq, List.length_map, hlt, hmid]
   refine ⟨by omega, by omega, hm, denR_fcall (fcall q hm) ⟨?_, [.int .i64 (order05 k[q].cue s)], rfl, hi64 k[q] (List.getElem_mem hm), ?_⟩⟩
   · simp only [zz, reduceCtorEq, hmid, getD_map hm, Cnt.enc]
   · simp only [zz, reduceCtorEq, hmid]
     have hc := order_neg k[q].cue s
     by_cases hneg : order05 k[q].cue s < 0
     · simp only [zz, reduceCtorEq, hneg, wr64_eq (n := (q : Int) + 1) (by omega)]
       refine ⟨⟨rfl, q + 1, hi, by omega, hhi, fun p hp hpk => ?_, hhi2, by simp⟩, by omega⟩
       rcases Nat.lt_or_ge p q with h | h
       · exact Int.lt_trans (List.pairwise_iff_getElem.1 hr p q hp hm h) (hc.1 hneg)
       · have : p = q := by omega
         subst this; exact hc.1 hneg
     · simp only [zz, reduceCtorEq, hneg]
       refine ⟨⟨rfl, lo, q, by omega, by omega, hlo, fun p hp hpk => ?_, ⟨rfl, rfl⟩⟩, by omega⟩
       intro hb
       rcases Nat.lt_or_ge q p with h | h
       · exact hneg (hc.2 (Int.lt_trans (List.pairwise_iff_getElem.1 hr q p hm hp h) hb))
       · have : p = q := by omega
         subst this; exact hneg (hc.2 hb)
 · have : lo = hi := by omega
   subst this
   have hlow := lowC_of (k := k) (s := s) hhi hlo hhi2
   have hh := low_has hs hr hn
   rw [hlow] at hh
   simp only [zz, reduceCtorEq, List.length_map, Nat.lt_irrefl]
   refine ⟨by split <;> simp, ?_⟩
   rcases Nat.lt_or_ge lo k.length with h | h
   · refine denR_gfcall (s := _) true [.int .i64 (order05 k[lo].cue s)] (by simp only [zz, reduceCtorEq, List.length_map, h]) (fun _ => ⟨fcall lo h, ?_, [.int .i64 (order05 k[lo].cue s)], rfl, hi64 k[lo] (List.getElem_mem h), rfl⟩) (fun e => by cases e) ?_
     · simp only [zz, reduceCtorEq, getD_map h, Cnt.enc]
     · rw [List.getElem?_eq_getElem h] at hh
       have e : (k[lo].cue == s) = decide (order05 k[lo].cue s = 0) := by
         rw [Bool.eq_iff_iff]
         simp only [beq_iff_eq, decide_eq_true_eq, order_zero]
         exact ⟨fun e => by rw [e], fun e => value05_inj (hn k[lo] (List.getElem_mem h)) hs e⟩
       rw [hh, hlow] at hK
       simp only [e] at hK
       simp only [zz, reduceCtorEq, List.length_map, h]
       simpa using hK
   · have hn' : ¬ lo < k.length := by omega
     refine denR_gfcall (s := fun _ _ => True) false [.int .i64 0] (by simp only [zz, reduceCtorEq, List.length_map, hn']) (fun e => by cases e) (fun _ => rfl) ?_
     rw [List.getElem?_eq_none h] at hh
     rw [hh, hlow] at hK
     simp only [zz, reduceCtorEq, List.length_map, hn']
     exact hK
theorem fsearch_ok : Contract Tryz.prog 156 fun args K => ∃ (k : List Cnt) (s : List UInt8), (∀ c ∈ k, c.Ok) ∧ (∀ c ∈ k, check05 c.cue = 0) ∧ RisingC k ∧ check05 s = 0 ∧
   args = [.slice (k.map Cnt.enc), .str s] ∧ K [.d (.int .i64 (lowC k s)), .d (.bool (k.any fun c => c.cue == s))] := by
 refine .of c156 t156_ok ?_
 rintro _ K ⟨k, s, hk, hn, hr, hs, rfl, hK⟩ hsm
 refine ⟨[.slice (k.map Cnt.enc), .str s], rfl, ⟨cnts_has hk, trivial, trivial⟩, ?_⟩
 exact denR_call bsearchC_ok ⟨k, s, hk, hn, hr, hs, rfl, _, rfl, hK⟩
theorem fcount_ok : Contract Tryz.prog 105 fun args K => ∃ (k : List Cnt) (s : List UInt8), (∀ c ∈ k, c.Ok) ∧ (∀ c ∈ k, check05 c.cue = 0) ∧ RisingC k ∧ check05 s = 0 ∧
   args = [.slice (k.map Cnt.enc), .str s] ∧ K [.d (.int .i64 (cnt k s))] := by
 refine .of c105 t105_ok ?_
 rintro _ K ⟨k, s, hk, hn, hr, hs, rfl, hK⟩ hsm
 refine ⟨[.slice (k.map Cnt.enc), .str s], rfl, ⟨cnts_has hk, trivial, trivial⟩, ?_⟩
 refine denR_call fsearch_ok ⟨k, s, hk, hn, hr, hs, rfl, _, rfl, ?_⟩
 have hc := cnt_low hs hr hn
 have hh := low_has hs hr hn
 rw [hc] at hK
 generalize (k.any fun c => c.cue == s) = b at hK hh
 cases b with
 | false => simp only [zz, reduceCtorEq]; exact hK
 | true =>
   have hlt : lowC k s < k.length := by
     rcases Nat.lt_or_ge (lowC k s) k.length with h | h
     · exact h
     · rw [List.getElem?_eq_none h] at hh; cases hh
   rw [List.getElem?_eq_getElem hlt] at hK
   simp only [zz, reduceCtorEq, List.length_map, hlt, getD_map hlt, Cnt.enc]
   exact ⟨by omega, hK⟩
end Go.Sx.La
open Go Go.Proofs Go.RowKit
namespace Go.Sx
theorem run_copy_put {P : Program} (w : World) (dT sT ty elem : TypeId) (i : TypeInfo) (hu : P.underlying dT = some (.slice elem)) (hi : P.info? elem = some i)
   (g o dLen dCap : Nat) (x : Value) (n : Nat) (cs : List Value) (cur : Array Value) (t : TypeId) (hg : w.heap[g]? = some (.cells cur t (0, 0)))
   (hl : (Builtin.lenOf x).run P w = .ok n w) (hf : (Builtin.firstCells i.size (Nat.min n dLen) x).run P w = .ok cs.toArray w) (hfit : o + cs.length ≤ cur.size) (h1 : ∀ v ∈ cs, v.oneCell' = true) :
   (Builtin.copy_ #[dT, sT] ty #[.slice (some ⟨g, o, none⟩) dLen dCap, x]).run P w = .ok (goInt (Nat.min n dLen)) (w.setRow g (putCells cur o cs)) := by
 have hst := run_storeCells_at P g o t cs 0 cur w hg (by simpa using hfit) h1
 have hs := splice_eq cur o cs (by simpa using hfit)
 simp only [Nat.add_zero] at hst
 rw [hs] at hst
 simp [Builtin.copy_, run_underlying hu, sizeOf, typeInfo, hi, hl, hf, hst]
theorem first_row {P : Program} {w : World} {g : Nat} {cur : Array Value} {t : TypeId} {fz : Nat × Nat} (hg : w.heap[g]? = some (.cells cur t fz)) (e n o len c : Nat) (hfit : o + n * e ≤ cur.size) :
   (Builtin.firstCells e n (.slice (some ⟨g, o, none⟩) len c)).run P w = .ok (stretch cur o (n * e)).toArray w := by
 refine run_firstCells_some w e n ⟨g, o, none⟩ len c (stretch cur o (n * e)) (stretch_length hfit) fun j v hj => ?_
 have hjl : j < n * e := by
   have := (List.getElem?_eq_some_iff.1 hj).1
   rw [stretch_length hfit] at this; exact this
 rw [stretch_get hjl] at hj
 rw [Addr.add_lit]
 simp [World.cell?, hg, hj]
theorem wp_run1 {P : Program} (w : World) {o : Oper} {a : Act} {K : Act → World → Prop} {Q : Exit → Act → World → Prop} (d s : Operand) (t t' : TypeId)
   (ho : o.op = .call { callee := .builtin .copy, args := #[d, s], argTypes := #[t, t'] }) (v u : Value) (hd : a.eval d = v) (hs : a.eval s = u) {v' : Value} {w' : World}
   (hr : (Builtin.copy_ #[t, t'] o.type #[v, u]).run P w = .ok v' w') (h : K (a.put o.dst v') w') : o.wp P a w K Q := by
 unfold Oper.wp execOp
 simp only [ho, resolve, invoke, builtin, Sem.run_bind, Sem.run_pure, Result.andThen_ok, List.map_toArray, List.map_cons, List.map_nil, hd, hs, hr]
 exact h
theorem wpList_run1 {P : Program} (w : World) {ops : Array Oper} {rest : List Oper} {o : Oper} {a : Act} {Q : Exit → Act → World → Prop} (hgd : o.guard = none) (d s : Operand) (t t' : TypeId)
   (ho : o.op = .call { callee := .builtin .copy, args := #[d, s], argTypes := #[t, t'] }) (v u : Value) (hd : a.eval d = v) (hs : a.eval s = u) {v' : Value} {w' : World}
   (hr : (Builtin.copy_ #[t, t'] o.type #[v, u]).run P w = .ok v' w') (h : wpList P ops Q rest (a.put o.dst v') w') : wpList P ops Q (o :: rest) a w :=
 wpList_plain hgd fun _ hK => wp_run1 w d s t t' ho v u hd hs hr (hK _ _ h)
theorem step_run1 {P : Program} {ops : Array Oper} {o : Oper} {a : Act} {w : World} {K : Act → World → Prop} {Q : Exit → Act → World → Prop} {E : Prop}
   (hg : o.guard = none) (d x : Operand) (dT sT : TypeId) (hop : o.op = Op.call { callee := Callee.builtin Builtin.copy, args := #[d, x], argTypes := #[dT, sT] })
   (v u : Value) (hd : a.eval d = v) (hx : a.eval x = u) {v' : Value} {w' : World} (hr : (Builtin.copy_ #[dT, sT] o.type #[v, u]).run P w = .ok v' w') (hK : K (a.put o.dst v') w') :
   if Region.wanted o (yielded ops a.tmps) = true then Oper.wp P o a w K Q else E := by
 have hw : Region.wanted o (yielded ops a.tmps) = true := by simp [Region.wanted, hg]
 rw [if_pos hw]
 exact wp_run1 w d x dT sT hop v u hd hx hr hK
theorem u82 : Tryz.prog.underlying 82 = some (.slice 144) := by kernel_rfl
theorem u3 : Tryz.prog.underlying 3 = some (.int .i64) := by kernel_rfl
theorem i144 : ∃ i z, Tryz.prog.info? 144 = some i ∧ i.size = 2 ∧ i.zero = some z ∧ i.bytes = 24 ∧ z.cells.size = 2 := by
 have h : (Tryz.prog.info? 144).map (fun i => (i.size, i.bytes, i.zero.map fun z => z.cells.size)) = some (2, 24, some 2) := by kernel_rfl
 obtain ⟨i, hi, h⟩ := Option.map_eq_some_iff.1 h
 simp only [Prod.mk.injEq, Option.map_eq_some_iff] at h
 obtain ⟨h1, h2, z, h3, h4⟩ := h
 exact ⟨i, z, hi, h1, h3, h2, h4⟩
set_option maxHeartbeats 4000000 in
theorem ins_shift (b n c i vb vc : Nat) (cur vcur : Array Value) (t tv : TypeId) (w : World) (hb : w.heap[b]? = some (.cells cur t (0, 0))) (hv : w.heap[vb]? = some (.cells vcur tv (0, 0))) (hvb : vb ≠ b)
   (hi : i < n) (hroom : n + 1 ≤ c) (hc63 : c ≤ 9223372036854775807) (hsz : cur.size = c * 2) (hvsz : 2 ≤ vcur.size)
   (h1c : ∀ u ∈ stretch cur 0 (n * 2), u.oneCell' = true) (h1v : ∀ u ∈ stretch vcur 0 2, u.oneCell' = true) :
   Calls Tryz.prog 205 #[.slice (some ⟨b, 0, none⟩) n c, .int .i64 i, .slice (some ⟨vb, 0, none⟩) 1 vc] w fun e w' =>
     e = .returned (.slice (some ⟨b, 0, none⟩) (n + 1) c) ∧ w' = (w.drew.setRow b (putCells cur ((i + 1) * 2) (stretch cur (i * 2) ((n - i) * 2)))).setRow b (putCells (putCells cur ((i + 1) * 2) (stretch cur (i * 2) ((n - i) * 2))) (i * 2) (stretch vcur 0 2)) := by
 obtain ⟨inf, z, hinf, hsz2, hz, hbytes, hzc⟩ := i144
 have t82 := u82
 have t3 := u3
 have mixed : Tryz.prog.follows Departure.mixedOrders = true := by kernel_rfl
 have hz2 : ¬ ((i : Int) = (n : Int)) := by omega
 have hsh : ∀ g (arr : Array Value) ty, w.heap[g]? = some (.cells arr ty (0, 0)) → w.shape? g = some (ty, arr.size) := fun g arr ty h => by simp [World.shape?, h]
 have hov : ∀ lb cb, (callFunc 228 #[.slice (some ⟨vb, 0, none⟩) 1 vc, .slice (some ⟨b, (i + 1) * 2, none⟩) lb cb]).run Tryz.prog w = .ok (.value (.bool false)) w := fun lb cb => by
   rw [run_callFunc_extern Tryz.func228 (by kernel_rfl) (by kernel_rfl) (by kernel_rfl) (e := Extern.SlicesOverlaps.overlaps #[82, 82] #[4]) (by kernel_rfl),
     Lib.run_overlaps_apart w 82 4 144 u82 2 (fun w => by simp [sizeOf, typeInfo, hinf, hsz2]) ⟨vb, 0, none⟩ ⟨b, (i + 1) * 2, none⟩ 1 vc lb cb hvb tv t vcur.size cur.size (hsh _ _ _ hv) (hsh _ _ _ hb) (by omega) (by simp [World.frozen?, hv]) (by simp [World.frozen?, hv])]
   rfl
 obtain ⟨A1, hA1⟩ : ∃ A1, A1 = putCells cur ((i + 1) * 2) (stretch cur (i * 2) ((n - i) * 2)) := ⟨_, rfl⟩
 have hl1 : (stretch cur (i * 2) ((n - i) * 2)).length = (n - i) * 2 := stretch_length (by omega)
 have hl2 : (stretch vcur 0 2).length = 2 := stretch_length (by omega)
 have hA1s : A1.size = cur.size := by rw [hA1, putCells_size]
 have hcp1 : ∀ ty dc sc, (Builtin.copy_ #[82, 82] ty #[.slice (some ⟨b, (i + 1) * 2, none⟩) (n - i) dc, .slice (some ⟨b, i * 2, none⟩) (n + 1 - i) sc]).run Tryz.prog w.drew = .ok (goInt ((n - i : Nat) : Int)) (w.drew.setRow b A1) := fun ty dc sc => by
   have h := run_copy_put w.drew 82 82 ty 144 inf u82 hinf b ((i + 1) * 2) (n - i) dc (.slice (some ⟨b, i * 2, none⟩) (n + 1 - i) sc) (n + 1 - i) (stretch cur (i * 2) ((n - i) * 2)) cur t hb (by simp [Builtin.lenOf])
     (by rw [hsz2, show Nat.min (n + 1 - i) (n - i) = n - i by simp only [Nat.min_def]; split <;> omega]; exact first_row (w := w.drew) hb 2 (n - i) (i * 2) _ _ (by omega)) (by rw [hl1]; omega)
     (fun u hu => by
       obtain ⟨q, hq, rfl⟩ := List.mem_iff_getElem.1 hu
       refine h1c _ (List.mem_of_getElem? (i := i * 2 + q) ?_)
       have hq2 : q < (n - i) * 2 := by simpa [hl1] using hq
       have h1 := stretch_get (arr := cur) (off := i * 2) hq2
       rw [stretch_get (by omega), Nat.zero_add, ← h1, List.getElem?_eq_getElem])
   rw [show Nat.min (n + 1 - i) (n - i) = n - i by simp only [Nat.min_def]; split <;> omega] at h
   rw [hA1]; exact h
 have hcp2 : ∀ (W : World), W.heap = (w.drew.setRow b A1).heap → ∀ ty dc, (Builtin.copy_ #[82, 82] ty #[.slice (some ⟨b, i * 2, none⟩) (n + 1 - i) dc, .slice (some ⟨vb, 0, none⟩) 1 vc]).run Tryz.prog W = .ok (goInt 1) (W.setRow b (putCells A1 (i * 2) (stretch vcur 0 2))) := fun W hW ty dc => by
   have hbW : W.heap[b]? = some (.cells A1 t (0, 0)) := by rw [hW]; exact setRow_heap w.drew b cur A1 t (0, 0) hb
   have hvW : W.heap[vb]? = some (.cells vcur tv (0, 0)) := by rw [hW, setRow_other w.drew b vb A1 (by omega)]; exact hv
   have h := run_copy_put W 82 82 ty 144 inf u82 hinf b (i * 2) (n + 1 - i) dc (.slice (some ⟨vb, 0, none⟩) 1 vc) 1 (stretch vcur 0 2) A1 t hbW (by simp [Builtin.lenOf])
     (by rw [hsz2, show Nat.min 1 (n + 1 - i) = 1 by simp only [Nat.min_def]; split <;> omega]; exact first_row hvW 2 1 0 _ _ (by omega)) (by rw [hl2]; omega) h1v
   rw [show Nat.min 1 (n + 1 - i) = 1 by simp only [Nat.min_def]; split <;> omega] at h
   exact h
 rw [← hA1]
 clear hA1 hA1s hl1 hl2 h1c h1v
 have hn1 : n + 1 - (i + 1) = n - i := by omega
 have hw1 : IntKind.i64.wrap ((i : Int) + 1) = (i : Int) + 1 := by rw [IntKind.wrap_i64]; omega
 have hb1 : (0 : Int) ≤ (i : Int) + 1 := by omega
 have hin : i ≤ n := by omega
 have htn : ((i : Int) + 1).toNat = i + 1 := by omega
 have hb2 : ¬ (c = i + 1) := by omega
 have hb3 : (i : Int) ≤ (n : Int) + 1 := by omega
 have hb4 : ¬ (c = i) := by omega
 go_enter Tryz.func205, Tryz.ntmps205
 go_wp2_with (simp only [hov])
 go_region_law_o (refine step_run1 rfl _ _ 82 82 rfl _ _ (by simp [Act.eval, Act.put]) (by simp [Act.eval, Act.put]) (hcp1 _ _ _) ?_)
 go_wp2_with (at_builtin; refine wpList_run1 _ rfl _ _ 82 82 rfl _ _ rfl rfl (hcp2 _ rfl _ _) ?_)
 go_ret
 exact ⟨rfl, rfl⟩
set_option maxHeartbeats 4000000 in
theorem ins_end_room (b n c vb vc : Nat) (cur vcur : Array Value) (t tv : TypeId) (w : World) (hb : w.heap[b]? = some (.cells cur t (0, 0))) (hv : w.heap[vb]? = some (.cells vcur tv (0, 0)))
   (hroom : n + 1 ≤ c) (hc63 : c ≤ 9223372036854775807) (hsz : cur.size = c * 2) (hvsz : 2 ≤ vcur.size) (h1v : ∀ u ∈ stretch vcur 0 2, u.oneCell' = true) :
   Calls Tryz.prog 205 #[.slice (some ⟨b, 0, none⟩) n c, .int .i64 n, .slice (some ⟨vb, 0, none⟩) 1 vc] w fun e w' =>
     e = .returned (.slice (some ⟨b, 0, none⟩) (n + 1) c) ∧ w' = w.setRow b (putCells cur (n * 2) (stretch vcur 0 2)) := by
 obtain ⟨inf, z, hinf, hsz2, hz, hbytes, hzc⟩ := i144
 have t82 := u82
 have t3 := u3
 have mixed : Tryz.prog.follows Departure.mixedOrders = true := by kernel_rfl
 have hl2 : (stretch vcur 0 2).length = 2 := stretch_length (by omega)
 have hrun : ∀ ty, (Builtin.append_ #[82, 82] ty #[.slice (some ⟨b, 0, none⟩) n c, .slice (some ⟨vb, 0, none⟩) 1 vc]).run Tryz.prog w = .ok (.slice (some ⟨b, 0, none⟩) (n + 1) c) (w.setRow b (putCells cur (n * 2) (stretch vcur 0 2))) := fun ty => by
   have h := run_append_room' (P := Tryz.prog) (w := w) 82 ty 144 t inf u82 hinf b n c cur hb (.slice (some ⟨vb, 0, none⟩) 1 vc) 1 (stretch vcur 0 2) (by simp [Builtin.lenOf]) (by rw [hsz2]; exact first_row hv 2 1 0 _ _ (by omega)) h1v hroom (by rw [hsz2, hl2]; omega)
   rw [hsz2, splice_eq _ _ _ (by rw [hl2]; omega)] at h
   exact h
 clear hl2 h1v
 go_enter Tryz.func205, Tryz.ntmps205
 go_wp2_with (at_builtin; refine Lib.wpList_append_run _ rfl _ _ _ _ rfl _ _ rfl rfl _ _ (hrun _) ?_)
 go_ret
 exact ⟨rfl, rfl⟩
set_option maxHeartbeats 4000000 in
theorem ins_end_grow (base : Option Addr) (n c vb vc : Nat) (olds vcur : Array Value) (tv : TypeId) (w : World) (hold : (Builtin.firstCells 2 n (.slice base n c)).run Tryz.prog w.drew = .ok olds w.drew) (hnil : base = none → n = 0) (hv : w.heap[vb]? = some (.cells vcur tv (0, 0)))
   (hnc : n ≤ c) (hroom : c < n + 1) (hn : n ≤ 1000000) (hvsz : 2 ≤ vcur.size) :
   Calls Tryz.prog 205 #[.slice base n c, .int .i64 n, .slice (some ⟨vb, 0, none⟩) 1 vc] w fun e w' =>
     ∃ z : Value, z.cells.size = 2 ∧ e = .returned (.slice (some ⟨w.heap.size, 0, none⟩) (n + 1) (grownCap w (n + 1) c 144)) ∧
     w' = w.drew.alloc (.cells (olds ++ (stretch vcur 0 2).toArray ++ Builtin.zeroCells z.cells (grownCap w (n + 1) c 144 - (n + 1))) 144) := by
 obtain ⟨inf, z, hinf, hsz2, hz, hbytes, hzc⟩ := i144
 have t82 := u82
 have t3 := u3
 have mixed : Tryz.prog.follows Departure.mixedOrders = true := by kernel_rfl
 obtain ⟨ROW, hROW⟩ : ∃ ROW, ROW = olds ++ (stretch vcur 0 2).toArray ++ Builtin.zeroCells z.cells (grownCap w (n + 1) c 144 - (n + 1)) := ⟨_, rfl⟩
 have hrun : ∀ ty, (Builtin.append_ #[82, 82] ty #[.slice base n c, .slice (some ⟨vb, 0, none⟩) 1 vc]).run Tryz.prog w = .ok (.slice (some ⟨w.heap.size, 0, none⟩) (n + 1) (grownCap w (n + 1) c 144)) (w.drew.alloc (.cells ROW 144)) := fun ty => by
   rw [hROW]
   exact run_append_grow' w 82 ty 144 inf z u82 hinf hz base n c olds (by rw [hsz2]; exact hold) (.slice (some ⟨vb, 0, none⟩) 1 vc) 1 (stretch vcur 0 2).toArray (by simp [Builtin.lenOf]) (by rw [hsz2]; exact first_row (w := w.drew) hv 2 1 0 _ _ (by omega)) hroom (by omega)
     (by rw [hbytes]; exact growslice_fits hroom (by omega))
 suffices hh : Calls Tryz.prog 205 #[.slice base n c, .int .i64 n, .slice (some ⟨vb, 0, none⟩) 1 vc] w (fun e w' => e = .returned (.slice (some ⟨w.heap.size, 0, none⟩) (n + 1) (grownCap w (n + 1) c 144)) ∧ w' = w.drew.alloc (.cells ROW 144)) from
   hh.mono fun e w' h => ⟨z, hzc, h.1, by rw [h.2, hROW]⟩
 clear hROW hold hz hzc hbytes
 go_enter Tryz.func205, Tryz.ntmps205
 cases base with
 | none =>
   have h0 := hnil rfl
   subst h0
   go_wp2_with (at_builtin; refine Lib.wpList_append_run _ rfl _ _ _ _ rfl _ _ rfl rfl _ _ (hrun _) ?_)
   all_goals (go_ret; exact ⟨rfl, rfl⟩)
 | some a =>
   obtain ⟨ab, ao, asp⟩ := a
   go_wp2_with (at_builtin; refine Lib.wpList_append_run _ rfl _ _ _ _ rfl _ _ rfl rfl _ _ (hrun _) ?_)
   all_goals (go_ret; exact ⟨rfl, rfl⟩)
set_option maxHeartbeats 4000000 in
theorem ins_grow (b n c i vb vc : Nat) (cur vcur : Array Value) (t tv : TypeId) (w : World) (hb : w.heap[b]? = some (.cells cur t (0, 0))) (hv : w.heap[vb]? = some (.cells vcur tv (0, 0)))
   (hi : i < n) (hnc : n ≤ c) (hroom : c < n + 1) (hn : n ≤ 1000000) (hsz : cur.size = c * 2) (hvsz : 2 ≤ vcur.size)
   (h1c : ∀ u ∈ stretch cur 0 (n * 2), u.oneCell' = true) (h1v : ∀ u ∈ stretch vcur 0 2, u.oneCell' = true) :
   Calls Tryz.prog 205 #[.slice (some ⟨b, 0, none⟩) n c, .int .i64 i, .slice (some ⟨vb, 0, none⟩) 1 vc] w fun e w' =>
     ∃ (z : Value) (ROW : Array Value), z.cells.size = 2 ∧ ROW = (stretch cur 0 (i * 2)).toArray ++ Builtin.zeroCells z.cells (n + 1 - i) ++ Builtin.zeroCells z.cells (grownCap w (n + 1) c 144 - (n + 1)) ∧
     e = .returned (.slice (some ⟨w.heap.size, 0, none⟩) (n + 1) (grownCap w (n + 1) c 144)) ∧
     w' = (((w.alloc (.cells ROW 144)).drew.setRow w.heap.size (putCells ROW (i * 2) (stretch vcur 0 2))).drew).setRow w.heap.size (putCells (putCells ROW (i * 2) (stretch vcur 0 2)) ((i + 1) * 2) (stretch cur (i * 2) ((n - i) * 2))) := by
 obtain ⟨inf, z, hinf, hsz2, hz, hbytes, hzc⟩ := i144
 have t82 := u82
 have t3 := u3
 have mixed : Tryz.prog.follows Departure.mixedOrders = true := by kernel_rfl
 have hz2 : ¬ ((i : Int) = (n : Int)) := by omega
 have hz3 : (c : Int) < (n : Int) + 1 := by omega
 have hbw : b < w.heap.size := (Array.getElem?_eq_some_iff.1 hb).1
 have hvw : vb < w.heap.size := (Array.getElem?_eq_some_iff.1 hv).1
 have hkk : (n : Int) + 1 - (i : Int) = ((n + 1 - i : Nat) : Int) := by omega
 have hik : i + (n + 1 - i) = n + 1 := by omega
 obtain ⟨G, hG⟩ : ∃ G, G = grownCap w (n + 1) c 144 := ⟨_, rfl⟩
 obtain ⟨ROW, hROW⟩ : ∃ ROW, ROW = (stretch cur 0 (i * 2)).toArray ++ Builtin.zeroCells z.cells (n + 1 - i) ++ Builtin.zeroCells z.cells (G - (n + 1)) := ⟨_, rfl⟩
 have hrz : ∀ ty, (Builtin.append_ #[82, 3] ty #[.slice (some ⟨b, 0, none⟩) i c, .int .i64 ((n : Int) + 1 - (i : Int))]).run Tryz.prog w = .ok (.slice (some ⟨w.heap.size, 0, none⟩) (n + 1) G) (w.drew.alloc (.cells ROW 144)) := fun ty => by
   have h := Lib.run_append_grow_zeros w 82 3 ty 144 inf z .i64 .i64 u82 u3 hinf hz (some ⟨b, 0, none⟩) i c (stretch cur 0 (i * 2)) (by rw [hsz2]; exact first_row (w := w.drew) hb 2 i 0 _ _ (by omega)) (n + 1 - i) (by omega) (by omega) (by omega) (by omega) (by rw [hbytes]; omega)
     (by rw [hbytes, hik]; exact growslice_fits hroom (by omega))
   rw [hik] at h
   rw [hkk, hROW, hG]
   exact h
 have hGn : n + 1 ≤ G := by rw [hG]; exact grownCap_ge w _ _ _
 have hG63 : G ≤ 9223372036854775807 := by
   have := grownCap_le_maxLen w (n + 1) c 144 (by unfold maxLen; omega)
   rw [← hG] at this
   unfold maxLen at this
   omega
 have hzs : ∀ k, (Builtin.zeroCells z.cells k).size = k * 2 := fun k => by simp [Builtin.zeroCells, hzc]
 have hRs : ROW.size = G * 2 := by
   rw [hROW]
   simp only [Array.size_append, List.size_toArray, hzs, stretch_length (arr := cur) (off := 0) (n := i * 2) (by omega)]
   omega
 have hl1 : (stretch cur (i * 2) ((n - i) * 2)).length = (n - i) * 2 := stretch_length (by omega)
 have hl2 : (stretch vcur 0 2).length = 2 := stretch_length (by omega)
 obtain ⟨R1, hR1⟩ : ∃ R1, R1 = putCells ROW (i * 2) (stretch vcur 0 2) := ⟨_, rfl⟩
 have hR1s : R1.size = G * 2 := by rw [hR1, putCells_size]; exact hRs
 have hnew : ∀ (W : World), W.heap = (w.drew.alloc (.cells ROW 144)).heap → W.heap[w.heap.size]? = some (.cells ROW 144 (0, 0)) ∧ W.heap[vb]? = some (.cells vcur tv (0, 0)) ∧ W.heap[b]? = some (.cells cur t (0, 0)) := fun W hW => by
   rw [hW]
   refine ⟨by show (w.heap.push (Obj.cells ROW 144 (0, 0)))[w.heap.size]? = _; exact Array.getElem?_push_size, ?_, ?_⟩
   · rw [← hv]; exact heap_alloc_old w.drew _ hvw
   · rw [← hb]; exact heap_alloc_old w.drew _ hbw
 have hcpA : ∀ (W : World), W.heap = (w.drew.alloc (.cells ROW 144)).heap → ∀ ty dc, (Builtin.copy_ #[82, 82] ty #[.slice (some ⟨w.heap.size, i * 2, none⟩) (n + 1 - i) dc, .slice (some ⟨vb, 0, none⟩) 1 vc]).run Tryz.prog W = .ok (goInt 1) (W.setRow w.heap.size R1) := fun W hW ty dc => by
   obtain ⟨h1, h2, _⟩ := hnew W hW
   have h := run_copy_put W 82 82 ty 144 inf u82 hinf w.heap.size (i * 2) (n + 1 - i) dc (.slice (some ⟨vb, 0, none⟩) 1 vc) 1 (stretch vcur 0 2) ROW 144 h1 (by simp [Builtin.lenOf])
     (by rw [hsz2, show Nat.min 1 (n + 1 - i) = 1 by simp only [Nat.min_def]; split <;> omega]; exact first_row h2 2 1 0 _ _ (by omega)) (by rw [hl2]; omega) h1v
   rw [show Nat.min 1 (n + 1 - i) = 1 by simp only [Nat.min_def]; split <;> omega] at h
   rw [hR1]; exact h
 have hcpB : ∀ (W : World), W.heap = ((w.drew.alloc (.cells ROW 144)).setRow w.heap.size R1).heap → ∀ ty dc sc, (Builtin.copy_ #[82, 82] ty #[.slice (some ⟨w.heap.size, (i + 1) * 2, none⟩) (n - i) dc, .slice (some ⟨b, i * 2, none⟩) (n - i) sc]).run Tryz.prog W = .ok (goInt ((n - i : Nat) : Int)) (W.setRow w.heap.size (putCells R1 ((i + 1) * 2) (stretch cur (i * 2) ((n - i) * 2)))) := fun W hW ty dc sc => by
   obtain ⟨h1, h2, h3⟩ := hnew (w.drew.alloc (.cells ROW 144)) rfl
   have k1 : W.heap[w.heap.size]? = some (.cells R1 144 (0, 0)) := by rw [hW]; exact setRow_heap _ _ ROW R1 144 (0, 0) h1
   have k2 : W.heap[b]? = some (.cells cur t (0, 0)) := by rw [hW, setRow_other _ _ b R1 (by omega)]; exact h3
   have h := run_copy_put W 82 82 ty 144 inf u82 hinf w.heap.size ((i + 1) * 2) (n - i) dc (.slice (some ⟨b, i * 2, none⟩) (n - i) sc) (n - i) (stretch cur (i * 2) ((n - i) * 2)) R1 144 k1 (by simp [Builtin.lenOf])
     (by rw [hsz2, show Nat.min (n - i) (n - i) = n - i from Nat.min_self _]; exact first_row k2 2 (n - i) (i * 2) _ _ (by omega)) (by rw [hl1]; omega)
     (fun u hu => by
       obtain ⟨q, hq, rfl⟩ := List.mem_iff_getElem.1 hu
       refine h1c _ (List.mem_of_getElem? (i := i * 2 + q) ?_)
       have hq2 : q < (n - i) * 2 := by simpa [hl1] using hq
       have h1 := stretch_get (arr := cur) (off := i * 2) hq2
       rw [stretch_get (by omega), Nat.zero_add, ← h1, List.getElem?_eq_getElem])
   rw [show Nat.min (n - i) (n - i) = n - i from Nat.min_self _] at h
   exact h
 suffices hh : Calls Tryz.prog 205 #[.slice (some ⟨b, 0, none⟩) n c, .int .i64 i, .slice (some ⟨vb, 0, none⟩) 1 vc] w (fun e w' => e = .returned (.slice (some ⟨w.heap.size, 0, none⟩) (n + 1) G) ∧
     w' = (((w.alloc (.cells ROW 144)).drew.setRow w.heap.size R1).drew).setRow w.heap.size (putCells R1 ((i + 1) * 2) (stretch cur (i * 2) ((n - i) * 2)))) from
   hh.mono fun e w' h => ⟨z, ROW, hzc, by rw [← hG]; exact hROW, by rw [← hG]; exact h.1, by rw [← hR1]; exact h.2⟩
 have hGi : ¬ (G = i) := by omega
 have hGim : ¬ (G = i + 1) := by omega
 have hci : ¬ (c = i) := by omega
 have hn1 : n + 1 - (i + 1) = n - i := by omega
 have hw1 : IntKind.i64.wrap ((i : Int) + 1) = (i : Int) + 1 := by rw [IntKind.wrap_i64]; omega
 have hb1 : (0 : Int) ≤ (i : Int) + 1 := by omega
 have hin : i ≤ n := by omega
 have htn : ((i : Int) + 1).toNat = i + 1 := by omega
 have hb3 : (i : Int) ≤ (n : Int) := by omega
 have hE1 : ((w.alloc (.cells ROW 144)).drew).heap = (w.drew.alloc (.cells ROW 144)).heap := rfl
 have hE2 : ((w.alloc (.cells ROW 144)).drew.setRow w.heap.size R1).heap = ((w.drew.alloc (.cells ROW 144)).setRow w.heap.size R1).heap := rfl
 have hF1 : (((w.alloc (.cells ROW 144)).drew.setRow w.heap.size R1).drew).heap = ((w.drew.alloc (.cells ROW 144)).setRow w.heap.size R1).heap := rfl
 clear hkk hik hG hROW hR1 hR1s hRs hl1 hl2 hnew hz hzc hzs hbytes h1c h1v
 go_enter Tryz.func205, Tryz.ntmps205
 go_wp2_with (first
   | (at_builtin; refine Lib.wpList_append_run _ rfl _ _ _ _ rfl _ _ rfl rfl _ _ (hrz _) ?_)
   | (at_builtin; refine wpList_run1 _ rfl _ _ 82 82 rfl _ _ rfl rfl (hcpA _ hE1 _ _) ?_)
   | (at_builtin; refine wpList_run1 _ rfl _ _ 82 82 rfl _ _ rfl rfl (hcpB _ hE2 _ _ _) ?_))
 trace_state
 go_region_law_o (refine step_run1 rfl _ _ 82 82 rfl (.slice (some ⟨w.heap.size, (i + 1) * 2, none⟩) (n - i) (G - (i + 1))) (.slice (some ⟨b, i * 2, none⟩) (n - i) (c - i)) (by simp [Act.eval, Act.put]) (by simp [Act.eval, Act.put]) (hcpB _ hF1 3 (G - (i + 1)) (c - i)) ?_)
 go_wp2
 go_ret
 exact ⟨rfl, rfl⟩
end Go.Sx
namespace Go.Sx.La
open Go Go.Sx Go.RowKit Go.Proofs Go.Sort Go.Shelf
structure El (m : Mem) (X : Type) (enc : X → List D) (k : Nat) (l : List X) where
 x : X
 mem : x ∈ l
 vs : List Value
 len : vs.length = k
 rep : ∀ (i : Nat) d v, (enc x)[i]? = some d → vs[i]? = some v → RepD m d v
def D.flat : D → Bool
 | .agg _ => false
 | _ => true
theorem own_inv {m : Mem} {w : World} {B : Nat → Prop} {e : Nat} {xs : List (List D)} {v : Value} (h : RepR m w B (.own e xs) v) (hne : xs ≠ []) :
   ∃ b c arr t, v = .slice (some ⟨b, 0, none⟩) xs.length c ∧ B b ∧ m b = none ∧ w.heap[b]? = some (.cells arr t (0, 0)) ∧ 0 < c ∧ xs.length ≤ c ∧ c ≤ maxLen ∧ xs.length ≤ cap ∧ arr.size = c * e ∧ (∀ x ∈ xs, x.length = e) ∧
     ∀ (i j : Nat) x d v, xs[i]? = some x → x[j]? = some d → arr[i * e + j]? = some v → RepD m d v := by
 cases h with
 | none => exact absurd rfl hne
 | own hB hm hb h0 hc hcc hcap hsz he hv => exact ⟨_, _, _, _, rfl, hB, hm, hb, h0, hc, hcc, hcap, hsz, he, hv⟩
section
variable {α : Type} [Inhabited α]
end
end Go.Sx.La
namespace Go.Sx.La
open Go Go.Sx Go.RowKit Go.Proofs
theorem one_of {m : Mem} {d : D} {v : Value} {k : K} (hr : RepD m d v) (hk : HasK k d) (hf : k.flat = true) : v.oneCell' = true := by
 cases hr <;> first | rfl | (cases k <;> simp [HasK, K.flat] at hk hf)
theorem flat_ins {m : Mem} {e : Nat} {xs : List (List D)} {y : List D} {cur arr : Array Value} {news : List Value} {i : Nat} (h : Flat m e xs cur) (hy : y.length = e) (hny : ∀ (j : Nat) d v, y[j]? = some d → news[j]? = some v → RepD m d v)
   (hi : i ≤ xs.length) (hfit : (xs.length + 1) * e ≤ arr.size) (h1 : ∀ q, q < i * e → arr[q]? = cur[q]?) (h2 : ∀ j, j < e → arr[i * e + j]? = news[j]?) (h3 : ∀ q, i * e ≤ q → q < xs.length * e → arr[q + e]? = cur[q]?) :
   Flat m e (xs.take i ++ y :: xs.drop i) arr := by
 have htl : (xs.take i).length = i := by simp; omega
 have hmul : ∀ a b : Nat, a ≤ b → a * e ≤ b * e := fun a b h => Nat.mul_le_mul_right _ h
 have hsucc : ∀ a : Nat, (a + 1) * e = a * e + e := fun a => by rw [Nat.add_mul, Nat.one_mul]
 refine ⟨?_, ?_, ?_⟩
 · have : (xs.take i ++ y :: xs.drop i).length = xs.length + 1 := by simp; omega
   rw [this]; exact hfit
 · intro x hx
   rcases List.mem_append.1 hx with hx | hx
   · exact h.he x (List.mem_of_mem_take hx)
   · rcases List.mem_cons.1 hx with rfl | hx
     · exact hy
     · exact h.he x (List.mem_of_mem_drop hx)
 · intro p j x d v hp hj hv
   rw [List.getElem?_append, htl] at hp
   split at hp
   · rename_i hlt
     have hx : xs[p]? = some x := by rw [List.getElem?_take, if_pos hlt] at hp; exact hp
     have hje : j < e := by rw [← h.he x (List.mem_of_getElem? hx)]; exact (List.getElem?_eq_some_iff.1 hj).1
     have := hmul (p + 1) i (by omega)
     have := hsucc p
     rw [h1 _ (by omega)] at hv
     exact h.hv p j x d v hx hj hv
   · rename_i hge
     cases hpi : p - i with
     | zero =>
       rw [hpi] at hp
       have hpe : p = i := by omega
       subst hpe
       obtain rfl : y = x := by simpa using hp
       have hje : j < e := by rw [← hy]; exact (List.getElem?_eq_some_iff.1 hj).1
       rw [h2 j hje] at hv
       exact hny j d v hj hv
     | succ q =>
       rw [hpi, List.getElem?_cons_succ, List.getElem?_drop] at hp
       have hlt := (List.getElem?_eq_some_iff.1 hp).1
       have hje : j < e := by rw [← h.he x (List.mem_of_getElem? hp)]; exact (List.getElem?_eq_some_iff.1 hj).1
       have e1 : p * e + j = ((i + q) * e + j) + e := by
         have : p = i + q + 1 := by omega
         rw [this, hsucc]; omega
       have := hmul i (i + q) (by omega)
       have := hmul (i + q + 1) xs.length (by omega)
       have := hsucc (i + q)
       rw [e1, h3 _ (by omega) (by omega)] at hv
       exact h.hv (i + q) j x d v hp hj hv
def InsPost (K : List RV → Prop) (xs : List (List D)) (y : List D) (i : Nat) (v0 : Value) (vb vc : Nat) (w : World) (m : Mem) (e : Ending) (w' : World) : Prop :=
 ∃ rs us v m', K rs ∧ ResTyped Tryz.prog 205 (if false = true then ownKs [.own cnKs, .cell (.int .i64), .own cnKs] else []) rs ∧ e = .returned v ∧ v = packV us ∧
       RepRs m' w' (fun b => w.heap.size ≤ b ∨ OwnBlk [.own 2 xs, .d (.int .i64 i), .own 2 [y]] [v0, .int .i64 i, .slice (some ⟨vb, 0, none⟩) 1 vc] b) rs (us ++ if false = true then ownVals [.own 2 xs, .d (.int .i64 i), .own 2 [y]] [v0, .int .i64 i, .slice (some ⟨vb, 0, none⟩) 1 vc] else []) ∧
       m.le m' ∧ MemOk m' w' ∧ (∀ b, b < w.heap.size → ¬ OwnBlk [.own 2 xs, .d (.int .i64 i), .own 2 [y]] [v0, .int .i64 i, .slice (some ⟨vb, 0, none⟩) 1 vc] b → m' b = m b) ∧ Apart (OwnBlk [.own 2 xs, .d (.int .i64 i), .own 2 [y]] [v0, .int .i64 i, .slice (some ⟨vb, 0, none⟩) 1 vc]) w w'
theorem setRow_hsize (W : World) (g : Nat) (A : Array Value) : (W.setRow g A).heap.size = W.heap.size := by simp [World.setRow]
set_option maxHeartbeats 2000000 in
theorem insert_ok : ContractX Tryz.prog 205 [.own cnKs, .cell (.int .i64), .own cnKs] false fun args K => ∃ (xs : List (List D)) (i : Nat) (y : List D), i ≤ xs.length ∧ xs.length ≤ 1000000 ∧ args = [.own 2 xs, .d (.int .i64 i), .own 2 [y]] ∧ K [.own 2 (xs.take i ++ y :: xs.drop i)] := by
 have hcl : callable Tryz.prog 205 = true := by kernel_rfl
 have hres : resKinds Tryz.prog false (fnTypes Tryz.prog 205) = some [.cell (.slice cnKs)] := by kernel_rfl
 refine ⟨hcl, ?_⟩
 rintro _ K ⟨xs, i, y, hi, hlen, rfl, hK⟩ ⟨ρ, hρ, hks⟩ w m vs hm hr
 have hρ' : ρ = [.slice xs, .int .i64 i, .slice [y]] := by
   simp [pkRhoX] at hρ
   exact hρ.symm
 subst hρ'
 have hkx : HasK (.slice cnKs) (.slice xs) := hks.1
 have hky : HasKs cnKs y := by
   have := hks.2.2.1
   exact this y (by simp)
 have hyl : y.length = 2 := hky.length
 have hxl : ∀ x ∈ xs, x.length = 2 := fun x hx => (hkx x hx).length
 have hout : HasKs [.slice cnKs] [.slice (xs.take i ++ y :: xs.drop i)] := by
   refine ⟨?_, trivial⟩
   intro x hx
   rcases List.mem_append.1 hx with hx | hx
   · exact hkx x (List.mem_of_mem_take hx)
   · rcases List.mem_cons.1 hx with rfl | hx
     · exact hky
     · exact hkx x (List.mem_of_mem_drop hx)
 have hty : ResTyped Tryz.prog 205 [] [.own 2 (xs.take i ++ y :: xs.drop i)] := by
   intro rk hrk
   rw [hres] at hrk; cases hrk
   exact ⟨[.slice (xs.take i ++ y :: xs.drop i)], rfl, hout⟩
 have hol : (xs.take i ++ y :: xs.drop i).length = xs.length + 1 := by simp; omega
 have hlen3 : vs.length = 3 := hr.len
 match vs, hlen3 with
 | [v0, v1, v2], _ =>
 have r0 := hr.rep 0 _ v0 rfl rfl
 have r1 := hr.rep 1 _ v1 rfl rfl
 have r2 := hr.rep 2 _ v2 rfl rfl
 obtain rfl : v1 = .int .i64 i := by cases r1 with | d h => cases h; rfl
 obtain ⟨vb, vc, vcur, tv, hv2, _, hvm, hvb, _, hvc, _, _, hvsz, _, hvv⟩ := own_inv r2 (by simp)
 simp only [List.length_singleton] at hv2 hvc
 subst hv2
 have hvsz2 : 2 ≤ vcur.size := by omega
 have hnew : ∀ (j : Nat) d v, y[j]? = some d → (stretch vcur 0 2)[j]? = some v → RepD m d v := by
   intro j d v hj hv
   have hje : j < 2 := by rw [← hyl]; exact (List.getElem?_eq_some_iff.1 hj).1
   rw [stretch_get hje] at hv
   exact hvv 0 j y d v rfl hj (by simpa using hv)
 have hl2 : (stretch vcur 0 2).length = 2 := stretch_length (by omega)
 have h1v : ∀ u ∈ stretch vcur 0 2, u.oneCell' = true := by
   intro u hu
   obtain ⟨j, hj, rfl⟩ := List.mem_iff_getElem.1 hu
   have hj2 : j < y.length := by omega
   obtain ⟨d, hd, hkd⟩ := HasKs.get hky (i := j) (k := cnKs[j]'(by simp; omega)) (by simp)
   refine one_of (hnew j d _ hd (by rw [List.getElem?_eq_getElem])) hkd ?_
   have : j = 0 ∨ j = 1 := by omega
   rcases this with rfl | rfl <;> rfl
 have done : ∀ (e : Ending) (w' : World) (rb c : Nat) (arr : Array Value) (t : TypeId), e = .returned (.slice (some ⟨rb, 0, none⟩) (xs.length + 1) c) →
     (w.heap.size ≤ rb ∨ v0 = .slice (some ⟨rb, 0, none⟩) xs.length c ∧ 0 < c) → (∀ b, b ≠ rb → b < w.heap.size → w'.heap[b]? = w.heap[b]?) → w'.heap[rb]? = some (.cells arr t (0, 0)) → m rb = none → Flat m 2 (xs.take i ++ y :: xs.drop i) arr → arr.size = c * 2 → xs.length + 1 ≤ c → c ≤ maxLen →
     (w'.os = w.os ∧ w'.tape = w.tape ∧ w'.output = w.output ∧ w.drawn ≤ w'.drawn ∧ w.heap.size ≤ w'.heap.size) →
     InsPost K xs y i v0 vb vc w m e w' := by
   intro e w' rb c arr t he hrb hoth hnb hmb hfl hsz hc hcm ⟨o1, o2, o3, o4, o5⟩
   have hB : w.heap.size ≤ rb ∨ OwnBlk [.own 2 xs, .d (.int .i64 i), .own 2 [y]] [v0, .int .i64 i, .slice (some ⟨vb, 0, none⟩) 1 vc] rb := by
     rcases hrb with h | ⟨h, h0⟩
     · exact .inl h
     · exact .inr ⟨0, _, v0, rfl, rfl, rfl, by rw [h]; simp [blk]; omega⟩
   refine ⟨[.own 2 (xs.take i ++ y :: xs.drop i)], [.slice (some ⟨rb, 0, none⟩) (xs.length + 1) c], _, m, hK, hty, he, rfl, ⟨rfl, ?_, ?_⟩, Mem.le_refl m, ?_, fun _ _ _ => rfl, ⟨o1, o2, o3, o4, o5, ?_⟩⟩
   · intro p r u h2 h3
     cases p with
     | succ p => simp at h2
     | zero =>
       simp at h2 h3
       subst h2 h3
       have := RepR.own (m := m) (w := w') (B := fun b => w.heap.size ≤ b ∨ OwnBlk [.own 2 xs, .d (.int .i64 i), .own 2 [y]] [v0, .int .i64 i, .slice (some ⟨vb, 0, none⟩) 1 vc] b) (e := 2) (xs := xs.take i ++ y :: xs.drop i) (b := rb) (c := c) (arr := arr) (t := t) hB hmb hnb (by omega) (by omega) hcm (by rw [hol]; unfold cap; omega) hsz hfl.he hfl.hv
       rw [hol] at this
       exact this
   · intro p q r r' u u' b hpq h2 h3
     have h4 := (List.getElem?_eq_some_iff.1 h2).1
     have h5 := (List.getElem?_eq_some_iff.1 h3).1
     simp only [List.length_singleton] at h4 h5
     omega
   · intro b o ho
     have hne : b ≠ rb := by rintro rfl; rw [hmb] at ho; cases ho
     have hb := hm b o ho
     have hlt : b < w.heap.size := (Array.getElem?_eq_some_iff.1 hb).1
     rw [hoth b hne hlt]; exact hb
   · intro b hb hnb'
     refine hoth b ?_ hb
     rintro rfl
     rcases hB with h | h
     · omega
     · exact hnb' h
 have hml : maxLen ≤ 9223372036854775807 := by unfold maxLen; omega
 have hfresh : m w.heap.size = none := by
   cases h : m w.heap.size with
   | none => rfl
   | some o =>
     have := hm _ _ h
     have := (Array.getElem?_eq_some_iff.1 this).1
     omega
 have alloc_at : ∀ (W : World) (o : Obj), (W.alloc o).heap[W.heap.size]? = some o := fun W o => by
   show (W.heap.push o)[W.heap.size]? = _; exact Array.getElem?_push_size
 have grow_le : ∀ n c, n + 1 ≤ 1000001 → grownCap w (n + 1) c 144 ≤ maxLen ∧ n + 1 ≤ grownCap w (n + 1) c 144 := fun n c hn => ⟨grownCap_le_maxLen w (n + 1) c 144 (by unfold maxLen; omega), grownCap_ge w _ _ _⟩
 have endGrow : ∀ (base : Option Addr) (c : Nat) (olds : Array Value), v0 = .slice base xs.length c → i = xs.length → (base = none → xs.length = 0) → xs.length ≤ c → c < xs.length + 1 →
     (Builtin.firstCells 2 xs.length (.slice base xs.length c)).run Tryz.prog w.drew = .ok olds w.drew → olds.size = xs.length * 2 → Flat m 2 xs olds → Calls Tryz.prog 205 #[v0, .int .i64 i, .slice (some ⟨vb, 0, none⟩) 1 vc] w (InsPost K xs y i v0 vb vc w m) := fun base c olds hv0 hie hnil hnc hroom hold hos hfl => by
   have hc := ins_end_grow base xs.length c vb vc olds vcur tv w hold hnil hvb hnc hroom hlen hvsz2
   rw [← hv0, ← hie] at hc
   refine hc.mono ?_
   rintro e w' ⟨z, hz, he, rfl⟩
   rw [hie] at he ⊢
   obtain ⟨g1, g2⟩ := grow_le xs.length c (by omega)
   have hzs : ∀ k, (Builtin.zeroCells z.cells k).size = k * 2 := fun k => by simp [Builtin.zeroCells, hz]
   have hsz : (olds ++ (stretch vcur 0 2).toArray ++ Builtin.zeroCells z.cells (grownCap w (xs.length + 1) c 144 - (xs.length + 1))).size = grownCap w (xs.length + 1) c 144 * 2 := by
     simp only [Array.size_append, List.size_toArray, hos, hl2, hzs]; omega
   rw [← hie] at hsz g1 g2 he ⊢
   refine done _ _ w.heap.size _ _ 144 (by rw [he, hie]) (.inl (Nat.le_refl _)) (fun b hb hbs => heap_alloc_old w.drew _ hbs) (alloc_at w.drew _) hfresh ?_ hsz (by omega) g1 ⟨rfl, rfl, rfl, Nat.le_succ _, by show w.heap.size ≤ (w.heap.push _).size; simp⟩
   refine flat_ins hfl hyl hnew hi (by rw [hsz]; omega) (fun q hq => ?_) (fun j hj => ?_) (fun q h1 h2 => by omega)
   · rw [Array.getElem?_append_left (by simp only [Array.size_append, List.size_toArray, hos, hl2]; omega), Array.getElem?_append_left (by omega)]
   · rw [Array.getElem?_append_left (by simp only [Array.size_append, List.size_toArray, hos, hl2]; omega), Array.getElem?_append_right (by omega), hos]
     simp [hie]
 show Calls Tryz.prog 205 #[v0, .int .i64 i, .slice (some ⟨vb, 0, none⟩) 1 vc] w (InsPost K xs y i v0 vb vc w m)
 have hcase : (∃ a, v0 = .slice a 0 0 ∧ xs = []) ∨ (∃ b c cur t, v0 = .slice (some ⟨b, 0, none⟩) xs.length c ∧ m b = none ∧ w.heap[b]? = some (.cells cur t (0, 0)) ∧ 0 < c ∧ xs.length ≤ c ∧ c ≤ maxLen ∧ cur.size = c * 2 ∧
     ∀ (i j : Nat) x d v, xs[i]? = some x → x[j]? = some d → cur[i * 2 + j]? = some v → RepD m d v) := by
   cases r0 with
   | none => exact .inl ⟨_, rfl, rfl⟩
   | own hB hmb hb h0 hc hcc hcap hsz he hv => exact .inr ⟨_, _, _, _, rfl, hmb, hb, h0, hc, hcc, hsz, hv⟩
 rcases hcase with ⟨a, rfl, rfl⟩ | ⟨b, c, cur, t, rfl, hmb, hb, h0, hc, hcc, hsz, hv⟩
 · have hi0 : i = 0 := by simpa using hi
   refine endGrow a 0 #[] rfl (by simpa using hi0) (fun _ => rfl) (Nat.le_refl _) (by simp) ?_ rfl ⟨by simp, by simp, by simp⟩
   cases a with
   | none => simp [Builtin.firstCells]
   | some b => simp [Builtin.firstCells, loadCells, loadCellsFrom]
 · have hbv : vb ≠ b := by
     have := hr.sep 0 2 _ _ _ _ b (by decide) rfl rfl rfl rfl rfl rfl (by simp [blk]; omega)
     intro e; subst e
     exact this (by simp [blk]; omega)
   have hfl : Flat m 2 xs cur := ⟨by rw [hsz]; exact Nat.mul_le_mul_right _ hc, hxl, hv⟩
   have hls : ∀ off n, off + n ≤ cur.size → (stretch cur off n).length = n := fun off n h => stretch_length h
   have h1c : ∀ u ∈ stretch cur 0 (xs.length * 2), u.oneCell' = true := by
     intro u hu
     obtain ⟨q, hq, rfl⟩ := List.mem_iff_getElem.1 hu
     rw [hls 0 _ (by omega)] at hq
     have hqi : q / 2 < xs.length := by omega
     have hx := List.getElem_mem hqi
     have hk := hkx _ hx
     have hxl2 := hxl _ hx
     have hj : q % 2 < 2 := Nat.mod_lt _ (by omega)
     obtain ⟨d, hd, hkd⟩ := HasKs.get hk (i := q % 2) (k := cnKs[q % 2]'(by simp; omega)) (by simp)
     refine one_of (hv (q / 2) (q % 2) _ d _ (List.getElem?_eq_getElem hqi) hd ?_) hkd ?_
     · have e1 : q / 2 * 2 + q % 2 = q := by omega
       have := stretch_get (arr := cur) (off := 0) hq
       rw [e1]
       rw [Nat.zero_add] at this
       rw [← this, List.getElem?_eq_getElem]
     · have : q % 2 = 0 ∨ q % 2 = 1 := by omega
       rcases this with h | h <;> simp only [h] <;> rfl
   have hxs2 : xs.length * 2 ≤ c * 2 := Nat.mul_le_mul_right _ hc
   rcases Nat.lt_or_ge xs.length c with hroom | hroom
   · -- room
     rcases Nat.lt_or_ge i xs.length with hlt | hge
     · refine (ins_shift b xs.length c i vb vc cur vcur t tv w hb hvb hbv hlt hroom (by omega) hsz hvsz2 h1c h1v).mono ?_
       rintro e w' ⟨he', rfl⟩
       have hq1 := hls (i * 2) ((xs.length - i) * 2) (by omega)
       have hp1 := putCells_get cur ((i + 1) * 2) (stretch cur (i * 2) ((xs.length - i) * 2)) (by rw [hq1]; omega)
       have hs1 := putCells_size cur ((i + 1) * 2) (stretch cur (i * 2) ((xs.length - i) * 2))
       have k1 := setRow_heap w.drew b cur (putCells cur ((i + 1) * 2) (stretch cur (i * 2) ((xs.length - i) * 2))) t (0, 0) hb
       generalize hA : putCells cur ((i + 1) * 2) (stretch cur (i * 2) ((xs.length - i) * 2)) = A at hp1 hs1 k1
       have hp2 := putCells_get A (i * 2) (stretch vcur 0 2) (by rw [hl2]; omega)
       have hs2 := putCells_size A (i * 2) (stretch vcur 0 2)
       have k2 := setRow_heap _ b A (putCells A (i * 2) (stretch vcur 0 2)) t (0, 0) k1
       refine done _ _ b c _ t he' (.inr ⟨rfl, h0⟩) (fun g hg hgs => ?_) k2 hmb ?_ (by rw [hs2, hs1, hsz]) hroom hcc ⟨rfl, rfl, rfl, Nat.le_succ _, by rw [setRow_hsize, setRow_hsize]; exact Nat.le_refl _⟩
       · rw [setRow_other _ b g _ hg, setRow_other _ b g _ hg]; rfl
       · refine flat_ins hfl hyl hnew hi (by rw [hs2, hs1, hsz]; omega) (fun q hq => ?_) (fun j hj => ?_) (fun q h1 h2 => ?_)
         · rw [hp2, if_neg (by omega), hp1, if_neg (by omega)]
         · rw [hp2, if_pos (by omega)]; congr 1; omega
         · rw [hp2, if_neg (by omega), hp1, if_pos (by omega), stretch_get (by omega)]; congr 1; omega
     · have hie : i = xs.length := by omega
       have e5 : Value.int .i64 (i : Int) = .int .i64 ((xs.length : Nat) : Int) := by rw [hie]
       rw [e5]
       refine (ins_end_room b xs.length c vb vc cur vcur t tv w hb hvb hroom (by omega) hsz hvsz2 h1v).mono ?_
       rintro e w' ⟨he', rfl⟩
       rw [show putCells cur (xs.length * 2) (stretch vcur 0 2) = putCells cur (i * 2) (stretch vcur 0 2) by rw [hie]]
       have hp2 := putCells_get cur (i * 2) (stretch vcur 0 2) (by rw [hl2]; omega)
       have hs2 := putCells_size cur (i * 2) (stretch vcur 0 2)
       have k2 := setRow_heap _ b cur (putCells cur (i * 2) (stretch vcur 0 2)) t (0, 0) hb
       refine done _ _ b c _ t he' (.inr ⟨rfl, h0⟩) (fun g hg hgs => setRow_other _ b g _ hg) k2 hmb ?_ (by rw [hs2, hsz]) hroom hcc ⟨rfl, rfl, rfl, Nat.le_refl _, by rw [setRow_hsize]; exact Nat.le_refl _⟩
       refine flat_ins hfl hyl hnew hi (by rw [hs2, hsz]; omega) (fun q hq => ?_) (fun j hj => ?_) (fun q h1 h2 => by omega)
       · rw [hp2, if_neg (by omega)]
       · rw [hp2, if_pos (by omega)]; congr 1; omega
   · -- no room
     have hce : c = xs.length := by omega
     rcases Nat.lt_or_ge i xs.length with hlt | hge
     · refine (ins_grow b xs.length c i vb vc cur vcur t tv w hb hvb hlt hc (by omega) hlen hsz hvsz2 h1c h1v).mono ?_
       rintro e w' ⟨z, ROW, hz, hROW, he', rfl⟩
       obtain ⟨g1, g2⟩ := grow_le xs.length c (by omega)
       have hzs : ∀ k, (Builtin.zeroCells z.cells k).size = k * 2 := fun k => by simp [Builtin.zeroCells, hz]
       have hq0 := hls 0 (i * 2) (by omega)
       have hRs : ROW.size = grownCap w (xs.length + 1) c 144 * 2 := by
         rw [hROW]; simp only [Array.size_append, List.size_toArray, hq0, hzs]; omega
       have hRg : ∀ q, q < i * 2 → ROW[q]? = cur[q]? := fun q hq => by
         rw [hROW, Array.getElem?_append_left (by simp only [Array.size_append, List.size_toArray, hq0]; omega), Array.getElem?_append_left (by simp only [List.size_toArray, hq0]; omega)]
         have := stretch_get (arr := cur) (off := 0) hq
         simpa using this
       generalize hG : grownCap w (xs.length + 1) c 144 = G at *
       have hq1 := hls (i * 2) ((xs.length - i) * 2) (by omega)
       have hp1 := putCells_get ROW (i * 2) (stretch vcur 0 2) (by rw [hl2]; omega)
       have hs1 := putCells_size ROW (i * 2) (stretch vcur 0 2)
       have k0 := alloc_at w (.cells ROW 144)
       have k1 := setRow_heap ((w.alloc (.cells ROW 144)).drew) w.heap.size ROW (putCells ROW (i * 2) (stretch vcur 0 2)) 144 (0, 0) k0
       generalize putCells ROW (i * 2) (stretch vcur 0 2) = A at hp1 hs1 k1
       have hp2 := putCells_get A ((i + 1) * 2) (stretch cur (i * 2) ((xs.length - i) * 2)) (by rw [hq1]; omega)
       have hs2 := putCells_size A ((i + 1) * 2) (stretch cur (i * 2) ((xs.length - i) * 2))
       have k2 := setRow_heap (((w.alloc (.cells ROW 144)).drew.setRow w.heap.size A).drew) w.heap.size A (putCells A ((i + 1) * 2) (stretch cur (i * 2) ((xs.length - i) * 2))) 144 (0, 0) k1
       refine done _ _ w.heap.size G _ 144 he' (.inl (Nat.le_refl _)) (fun g hg hgs => ?_) k2 hfresh ?_ (by rw [hs2, hs1, hRs]) g2 g1 ⟨rfl, rfl, rfl, Nat.le_trans (Nat.le_succ _) (Nat.le_succ _), by rw [setRow_hsize]; show w.heap.size ≤ ((w.alloc (.cells ROW 144)).drew.setRow w.heap.size A).heap.size; rw [setRow_hsize]; show w.heap.size ≤ (w.heap.push _).size; simp⟩
       · rw [setRow_other _ w.heap.size g _ hg]
         show (((w.alloc (.cells ROW 144)).drew.setRow w.heap.size A)).heap[g]? = _
         rw [setRow_other _ w.heap.size g _ hg]
         exact heap_alloc_old w _ hgs
       · refine flat_ins hfl hyl hnew hi (by rw [hs2, hs1, hRs]; omega) (fun q hq => ?_) (fun j hj => ?_) (fun q h1 h2 => ?_)
         · rw [hp2, if_neg (by omega), hp1, if_neg (by omega), hRg q hq]
         · rw [hp2, if_neg (by omega), hp1, if_pos (by omega)]; congr 1; omega
         · rw [hp2, if_pos (by omega), stretch_get (by omega)]; congr 1; omega
     · refine endGrow (some ⟨b, 0, none⟩) c (stretch cur 0 (xs.length * 2)).toArray rfl (by omega) (fun h => by cases h) hc (by omega) (first_row (w := w.drew) hb 2 xs.length 0 _ _ (by omega)) (by simp only [List.size_toArray]; exact hls 0 _ (by omega)) ⟨?_, hxl, ?_⟩
       · simp only [List.size_toArray]; rw [hls 0 _ (by omega)]; omega
       · intro p j x d v hp hj hu
         have hpl := (List.getElem?_eq_some_iff.1 hp).1
         have hje : j < 2 := by rw [← hxl x (List.mem_of_getElem? hp)]; exact (List.getElem?_eq_some_iff.1 hj).1
         rw [List.getElem?_toArray, stretch_get (by omega), Nat.zero_add] at hu
         exact hv p j x d v hp hj hu
structure Wk where
 a : Nat
 k : List Cnt
 g : Nat
theorem Wk.ext' {x y : Wk} (h1 : x.a = y.a) (h2 : x.k = y.k) (h3 : x.g = y.g) : x = y := by cases x; cases y; simp_all
def Wk.key (w : Wk) : Nat × Nat := (w.a, w.g)
def follows (cs : List Cue) (c : Cue) (k : List Cnt) : Bool := decide (0 ≤ place cs c.link) && (decide (c.loops = 0) || decide (cnt k c.num < c.loops))
def moreC (c : Cue) (k : List Cnt) : List Cnt := if 0 < c.loops then insC c.num k else k
def stepW (cs : List Cue) (w : Wk) : Option Wk := match cs[w.a]? with
 | none => none
 | some c => if follows cs c w.k = true then some ⟨(place cs c.link).toNat, moreC c w.k, if 0 < c.loops then w.g + 1 else w.g⟩ else if w.a + 1 = cs.length then none else some ⟨w.a + 1, w.k, w.g⟩
def walk (cs : List Cue) : Nat → Wk → List Wk
 | 0, _ => []
 | n + 1, w => w :: match stepW cs w with
   | some v => walk cs n v
   | none => []
def trW (cs : List Cue) : Nat → Wk → Option Wk
 | 0, w => some w
 | n + 1, w => match stepW cs w with
   | some v => trW cs n v
   | none => none
theorem walk_len (cs : List Cue) : ∀ (n : Nat) (w : Wk), (walk cs n w).length ≤ n
 | 0, _ => by simp [walk]
 | n + 1, w => by
   simp only [walk, List.length_cons]
   split
   · have := walk_len cs n ‹_›; omega
   · simp
theorem walk_get (cs : List Cue) : ∀ (n i : Nat) (w : Wk), (walk cs n w)[i]? = if i < n then trW cs i w else none
 | 0, i, w => by simp [walk]
 | n + 1, 0, w => by simp [walk, trW]
 | n + 1, i + 1, w => by
   simp only [walk, List.getElem?_cons_succ, trW]
   cases stepW cs w with
   | none => simp
   | some v => simp [walk_get cs n i v]
theorem trW_succ (cs : List Cue) : ∀ (n : Nat) (w : Wk), trW cs (n + 1) w = (trW cs n w).bind (stepW cs)
 | 0, w => by
   show (match stepW cs w with | some v => some v | none => none) = stepW cs w
   cases stepW cs w <;> rfl
 | n + 1, w => by
   show (match stepW cs w with | some v => trW cs (n + 1) v | none => none) = (match stepW cs w with | some v => trW cs n v | none => none).bind (stepW cs)
   cases stepW cs w with
   | none => rfl
   | some v => exact trW_succ cs n v
theorem trW_add (cs : List Cue) (m : Nat) : ∀ (n : Nat) (w : Wk), trW cs (n + m) w = (trW cs n w).bind (trW cs m)
 | 0, w => by simp [trW]
 | n + 1, w => by
   rw [Nat.add_right_comm, trW]
   cases h : stepW cs w with
   | none => simp [trW, h]
   | some v => simp only [trW, h]; exact trW_add cs m n v
theorem walk_end (cs : List Cue) : ∀ (n : Nat) (w : Wk), (walk cs n w).length = n ∨ ∃ v, (walk cs n w).getLast? = some v ∧ stepW cs v = none
 | 0, _ => .inl rfl
 | n + 1, w => by
   simp only [walk, List.length_cons]
   cases h : stepW cs w with
   | none => exact .inr ⟨w, rfl, h⟩
   | some v =>
     rcases walk_end cs n v with h1 | ⟨u, h1, h2⟩
     · exact .inl (by simp [h1])
     · refine .inr ⟨u, ?_, h2⟩
       simp only [List.getLast?_cons, h1, Option.getD_some]
theorem walk_full {cs : List Cue} {n : Nat} {w : Wk} (h : ∀ i, i < n → (trW cs i w).isSome = true) : (walk cs n w).length = n := by
 rcases Nat.eq_zero_or_pos n with rfl | h0
 · rfl
 have h1 := h (n - 1) (by omega)
 have h2 := walk_get cs n (n - 1) w
 rw [if_pos (by omega)] at h2
 rw [← h2] at h1
 have h3 := walk_len cs n w
 have : n - 1 < (walk cs n w).length := by
   rcases Nat.lt_or_ge (n - 1) (walk cs n w).length with h | h
   · exact h
   · rw [List.getElem?_eq_none h] at h1; cases h1
 omega
theorem walk_take (cs : List Cue) : ∀ (n m : Nat) (w : Wk), n ≤ m → walk cs n w = (walk cs m w).take n
 | 0, _, _, _ => by simp [walk]
 | n + 1, 0, _, h => by omega
 | n + 1, m + 1, w, h => by
   simp only [walk, List.take_succ_cons]
   cases stepW cs w with
   | none => simp
   | some v => simp only [walk_take cs n m v (by omega)]
def sumL (cs : List Cue) : Int := (cs.map (·.loops)).sum
structure Good (cs : List Cue) (w : Wk) : Prop where
 at_ : w.a < cs.length
 rising : RisingC w.k
 in_ : ∀ c ∈ w.k, 1 ≤ c.n ∧ ∃ q ∈ cs, q.num = c.cue ∧ c.n ≤ q.loops
 sum : (w.g : Int) = (cs.map fun q => cnt w.k q.num).sum
structure RightW (cs : List Cue) : Prop where
 rising : Rising cs
 num : ∀ c ∈ cs, check05 c.num = 0
 loops : ∀ c ∈ cs, 0 ≤ c.loops ∧ c.loops ≤ 100
 len : cs.length ≤ 64
theorem Good.num {cs : List Cue} (hR : RightW cs) {w : Wk} (h : Good cs w) : ∀ c ∈ w.k, check05 c.cue = 0 := fun c hc => by
 obtain ⟨_, q, h1, h2, _⟩ := h.in_ c hc
 rw [← h2]; exact hR.num q h1
theorem num_inj {cs : List Cue} (hr : Rising cs) {p q : Cue} (hp : p ∈ cs) (hq : q ∈ cs) (h : p.num = q.num) : p = q := by
 obtain ⟨i, hi, rfl⟩ := List.mem_iff_getElem.1 hp
 obtain ⟨j, hj, rfl⟩ := List.mem_iff_getElem.1 hq
 rw [Rising, List.pairwise_iff_getElem] at hr
 rcases Nat.lt_trichotomy i j with h1 | rfl | h1
 · have := hr i j hi hj h1; simp only [valOf, h] at this; omega
 · rfl
 · have := hr j i hj hi h1; simp only [valOf, h] at this; omega
theorem sum_one {cs : List Cue} (hr : Rising cs) {c : Cue} (hc : c ∈ cs) (f : Cue → Int) : (cs.map fun q => f q + if q.num = c.num then 1 else 0).sum = (cs.map f).sum + 1 := by
 induction cs with
 | nil => cases hc
 | cons d cs ih =>
   have hr' := hr
   rw [Rising, List.pairwise_cons] at hr'
   simp only [List.map_cons, List.sum_cons]
   by_cases he : d.num = c.num
   · have hz : (cs.map fun q => f q + if q.num = c.num then 1 else 0) = cs.map f := List.map_congr_left fun q hq => by
       have : ¬ q.num = c.num := fun e => by have := hr'.1 q hq; simp only [valOf, he, e] at this; omega
       simp [this]
     rw [hz, if_pos he]; omega
   · rcases List.mem_cons.1 hc with rfl | hc
     · exact absurd rfl he
     · rw [ih hr'.2 hc, if_neg he]; omega
theorem sum_zero : ∀ cs : List Cue, (cs.map fun _ => (0 : Int)).sum = 0
 | [] => rfl
 | c :: cs => by simp only [List.map_cons, List.sum_cons, sum_zero cs]; rfl
theorem Good.start {cs : List Cue} {a : Nat} (h : a < cs.length) : Good cs ⟨a, [], 0⟩ :=
 ⟨h, .nil, by simp, (sum_zero cs).symm⟩
theorem follows_pos {cs : List Cue} {c : Cue} {k : List Cnt} (h : follows cs c k = true) : ∃ (j : Nat) (hj : j < cs.length), place cs c.link = j ∧ (cs[j]).num = c.link ∧ (c.loops = 0 ∨ cnt k c.num < c.loops) := by
 simp only [follows, Bool.and_eq_true, Bool.or_eq_true, decide_eq_true_eq] at h
 obtain ⟨j, hj, h1, h2, _⟩ := place_pos (cs := cs) (s := c.link) (by omega)
 exact ⟨j, hj, h1, h2, h.2⟩
theorem Good.step {cs : List Cue} (hR : RightW cs) {w v : Wk} (h : Good cs w) (hs : stepW cs w = some v) : Good cs v ∧ w.g ≤ v.g ∧ (v.g = w.g → v.k = w.k) := by
 unfold stepW at hs
 rw [List.getElem?_eq_getElem h.at_] at hs
 have hc : cs[w.a]'h.at_ ∈ cs := List.getElem_mem h.at_
 generalize cs[w.a]'h.at_ = c at hs hc
 simp only at hs
 split at hs
 · rename_i hf
   obtain ⟨j, hj, h1, h2, h3⟩ := follows_pos hf
   obtain rfl := Option.some.inj hs
   rw [h1, Int.toNat_natCast]
   by_cases hl : 0 < c.loops
   · have hlt : cnt w.k c.num < c.loops := by rcases h3 with h3 | h3 <;> omega
     simp only [moreC, hl, if_true]
     have h0 : 0 ≤ cnt w.k c.num := by
       rcases Int.lt_or_le (cnt w.k c.num) 0 with hn | hn
       · obtain ⟨d, hd, _, e⟩ := cnt_some (k := w.k) (s := c.num) (by omega)
         have := (h.in_ d hd).1; omega
       · exact hn
     refine ⟨⟨hj, rising_putC h.rising, fun d hd => ?_, ?_⟩, Nat.le_succ _, fun e => by omega⟩
     · rcases mem_putC hd with rfl | hd
       · exact ⟨by show 1 ≤ cnt w.k c.num + 1; omega, c, hc, rfl, by show cnt w.k c.num + 1 ≤ c.loops; omega⟩
       · exact h.in_ d hd
     · have e : (cs.map fun q => cnt (insC c.num w.k) q.num) = cs.map fun q => cnt w.k q.num + if q.num = c.num then 1 else 0 := List.map_congr_left fun q hq => by
         unfold insC
         rw [cnt_put (x := ⟨c.num, cnt w.k c.num + 1⟩) (hR.num c hc) q.num (h.num hR)]
         by_cases he : q.num = c.num
         · simp [he]
         · simp [he]
       rw [e, sum_one hR.rising hc (fun q => cnt w.k q.num), ← h.sum]
       simp
   · simp only [moreC, hl, if_false]
     exact ⟨⟨hj, h.rising, h.in_, h.sum⟩, Nat.le_refl _, fun _ => trivial⟩
 · split at hs
   · cases hs
   · rename_i hne
     obtain rfl := Option.some.inj hs
     have := h.at_
     exact ⟨⟨by show w.a + 1 < cs.length; omega, h.rising, h.in_, h.sum⟩, Nat.le_refl _, fun _ => rfl⟩
theorem Good.tr {cs : List Cue} (hR : RightW cs) : ∀ (n : Nat) {w v : Wk}, Good cs w → trW cs n w = some v → Good cs v ∧ w.g ≤ v.g ∧ (v.g = w.g → v.k = w.k)
 | 0, w, v, h, ht => by
   obtain rfl := Option.some.inj ht
   exact ⟨h, Nat.le_refl _, fun _ => rfl⟩
 | n + 1, w, v, h, ht => by
   simp only [trW] at ht
   cases hs : stepW cs w with
   | none => rw [hs] at ht; cases ht
   | some u =>
     rw [hs] at ht
     obtain ⟨a1, a2, a3⟩ := h.step hR hs
     obtain ⟨b1, b2, b3⟩ := Good.tr hR n a1 ht
     exact ⟨b1, by omega, fun e => by rw [b3 (by omega), a3 (by omega)]⟩
theorem cnt_le {cs : List Cue} (hR : RightW cs) {w : Wk} (h : Good cs w) : ∀ q ∈ cs, 0 ≤ cnt w.k q.num ∧ cnt w.k q.num ≤ q.loops := by
 intro q hq
 have h0 := (hR.loops q hq).1
 by_cases hz : cnt w.k q.num = 0
 · omega
 · obtain ⟨c, hc, e1, e2⟩ := cnt_some hz
   obtain ⟨g1, p, hp, g2, g3⟩ := h.in_ c hc
   have : p = q := num_inj hR.rising hp hq (by rw [g2, e1])
   subst this
   omega
theorem sum_le {X : Type} {f g : X → Int} : ∀ {l : List X}, (∀ x ∈ l, f x ≤ g x) → (l.map f).sum ≤ (l.map g).sum
 | [], _ => by simp
 | x :: l, h => by
   have := h x List.mem_cons_self
   have := sum_le (l := l) fun y hy => h y (List.mem_cons_of_mem _ hy)
   simp only [List.map_cons, List.sum_cons]; omega
theorem Good.g_le {cs : List Cue} (hR : RightW cs) {w : Wk} (h : Good cs w) : (w.g : Int) ≤ sumL cs := by
 rw [h.sum]; exact sum_le fun q hq => (cnt_le hR h q hq).2
theorem Good.rightC {cs : List Cue} (hR : RightW cs) {w : Wk} (h : Good cs w) : RightC w.k := by
 refine ⟨h.num hR, fun c hc => ?_, h.rising, ?_⟩
 · obtain ⟨h1, q, h2, _, h3⟩ := h.in_ c hc
   have := (hR.loops q h2).2
   exact ⟨h1, by omega⟩
 · -- the counted cues are cues of the list, in order
   have hsub : ∀ (k : List Cnt) (cs : List Cue), RisingC k → Rising cs → (∀ c ∈ k, ∃ q ∈ cs, q.num = c.cue) → k.length ≤ cs.length := by
     intro k
     induction k with
     | nil => intro cs _ _ _; simp
     | cons c k ih =>
       intro cs hk hcs hin
       rw [RisingC, List.pairwise_cons] at hk
       obtain ⟨q, hq, he⟩ := hin c List.mem_cons_self
       obtain ⟨i, hi, rfl⟩ := List.mem_iff_getElem.1 hq
       have := ih (cs.drop (i + 1)) hk.2 (List.Pairwise.sublist (List.drop_sublist _ _) hcs) fun d hd => by
         obtain ⟨p, hp, he2⟩ := hin d (List.mem_cons_of_mem _ hd)
         obtain ⟨j, hj, rfl⟩ := List.mem_iff_getElem.1 hp
         have hlt := hk.1 d hd
         have hij : i < j := by
           rcases Nat.lt_or_ge i j with h | h
           · exact h
           · rcases Nat.eq_or_lt_of_le h with rfl | h
             · rw [← he, ← he2] at hlt; omega
             · rw [Rising, List.pairwise_iff_getElem] at hcs
               have := hcs j i hj hi h
               simp only [valOf] at this
               rw [← he, ← he2] at hlt; omega
         refine ⟨cs[j], List.mem_iff_getElem.2 ⟨j - (i + 1), by simp; omega, ?_⟩, he2⟩
         rw [List.getElem_drop]
         have : i + 1 + (j - (i + 1)) = j := by omega
         simp only [this]
       simp only [List.length_drop] at this
       simp only [List.length_cons]; omega
   exact Nat.le_trans (hsub w.k cs h.rising hR.rising fun c hc => by obtain ⟨_, q, a, b, _⟩ := h.in_ c hc; exact ⟨q, a, b⟩) hR.len
theorem stepW_g {cs : List Cue} {a : Nat} {k : List Cnt} (g : Nat) : stepW cs ⟨a, k, g⟩ = (stepW cs ⟨a, k, 0⟩).map fun v => ⟨v.a, v.k, v.g + g⟩ := by
 unfold stepW
 simp only
 split
 · rfl
 · split
   · split <;> simp [Nat.add_comm]
   · split <;> simp
def freshS (fresh : List (Nat × Nat)) (s : Nat × Nat) : List (Nat × Nat) := match fresh with
 | [] => [s]
 | f :: fs => if f.2 = s.2 then f :: fs ++ [s] else [s]
def allS (all : List Nat) (a : Nat) : List Nat := if a ∈ all then all else all ++ [a]
def visGo : List (Nat × Nat) → List Nat → List (Nat × Nat) → List Nat × Bool
 | [], all, _ => (all, false)
 | s :: ss, all, fresh => if s ∈ fresh then (all, true) else visGo ss (allS all s.1) (freshS fresh s)
structure VisI (pre : List Wk) (all : List Nat) (fresh : List (Nat × Nat)) : Prop where
 nd : (pre.map Wk.key).Nodup
 mem : ∀ a, a ∈ all ↔ a ∈ pre.map Wk.a
 and : all.Nodup
 fr : ∀ q, q ∈ fresh ↔ q ∈ pre.map Wk.key ∧ ∀ l, pre.getLast? = some l → q.2 = l.g
theorem VisI.start : VisI [] [] [] := ⟨by simp, by simp, by simp, by simp⟩
theorem allS_nodup {all : List Nat} (h : all.Nodup) (a : Nat) : (allS all a).Nodup := by
 unfold allS
 split
 · exact h
 · rename_i hn
   rw [List.nodup_append]
   refine ⟨h, by simp, fun x hx y hy => ?_⟩
   simp only [List.mem_singleton] at hy
   subst hy
   intro e; subst e; exact hn hx
theorem mem_allS {all : List Nat} {a b : Nat} : b ∈ allS all a ↔ b ∈ all ∨ b = a := by
 unfold allS
 split
 · rename_i h
   exact ⟨.inl, fun h' => by rcases h' with h' | rfl <;> assumption⟩
 · simp
theorem VisI.step {pre : List Wk} {all : List Nat} {fresh : List (Nat × Nat)} (h : VisI pre all fresh) {s : Wk} (hs : s.key ∉ fresh) (hm : ∀ p ∈ pre, p.g ≤ s.g) (hm2 : ∀ l, pre.getLast? = some l → ∀ p ∈ pre, p.g ≤ l.g) :
   VisI (pre ++ [s]) (allS all s.a) (freshS fresh s.key) ∧ s.key ∉ pre.map Wk.key := by
 have hno : s.key ∉ pre.map Wk.key := by
   intro hin
   refine hs ((h.fr _).2 ⟨hin, fun l hl => ?_⟩)
   obtain ⟨p, hp, he⟩ := List.mem_map.1 hin
   have e2 : p.g = s.g := congrArg Prod.snd he
   have h1 := hm l (List.mem_of_getLast? hl)
   have h2 := hm2 l hl p hp
   show s.g = l.g
   omega
 refine ⟨⟨?_, fun a => ?_, allS_nodup h.and _, fun q => ?_⟩, hno⟩
 · rw [List.map_append, List.nodup_append]
   refine ⟨h.nd, by simp, fun x hx y hy => ?_⟩
   simp only [List.map_cons, List.map_nil, List.mem_singleton] at hy
   subst hy
   intro e; subst e; exact hno hx
 · rw [mem_allS, h.mem a, List.map_append, List.mem_append]; simp
 · have hl : (pre ++ [s]).getLast? = some s := by simp
   rw [hl, List.map_append, List.mem_append]
   simp only [List.map_cons, List.map_nil, List.mem_singleton, Option.some.injEq, forall_eq']
   have hfr : ∀ q, q ∈ pre.map Wk.key → q.2 = s.g → q ∈ fresh := fun q hq hg => by
     refine (h.fr q).2 ⟨hq, fun l hl => ?_⟩
     obtain ⟨p, hp, he⟩ := List.mem_map.1 hq
     have h1 := hm l (List.mem_of_getLast? hl)
     have h2 := hm2 l hl p hp
     have e2 : p.g = q.2 := congrArg Prod.snd he
     omega
   have hsame : ∀ q f, q ∈ fresh → f ∈ fresh → q.2 = f.2 := fun q f hq hf => by
     obtain ⟨q1, q2⟩ := (h.fr q).1 hq
     obtain ⟨_, f2⟩ := (h.fr f).1 hf
     obtain ⟨p, hp, he⟩ := List.mem_map.1 q1
     cases hll : pre.getLast? with
     | none => rw [List.getLast?_eq_none_iff] at hll; subst hll; cases hp
     | some l => rw [q2 l hll, ← f2 l hll]
   have hall : ∀ q, q ∈ fresh → q ∈ pre.map Wk.key := fun q hq => ((h.fr q).1 hq).1
   clear hs h hl
   cases fresh with
   | nil =>
     simp only [freshS, List.mem_singleton]
     refine ⟨fun e => ⟨.inr e, by rw [e]; rfl⟩, fun ⟨e, hg⟩ => ?_⟩
     rcases e with e | e
     · exact absurd (hfr q e hg) (by simp)
     · exact e
   | cons f fs =>
     by_cases hf : f.2 = s.key.2
     · simp only [freshS, hf, if_true, List.mem_append, List.mem_singleton]
       refine ⟨fun e => ?_, fun ⟨e, hg⟩ => ?_⟩
       · rcases e with e | e
         · exact ⟨.inl (hall q e), by rw [hsame q f e List.mem_cons_self]; exact hf⟩
         · exact ⟨.inr e, by rw [e]; rfl⟩
       · rcases e with e | e
         · exact .inl (hfr q e hg)
         · exact .inr e
     · simp only [freshS, hf, if_false, List.mem_singleton]
       refine ⟨fun e => ⟨.inr e, by rw [e]; rfl⟩, fun ⟨e, hg⟩ => ?_⟩
       rcases e with e | e
       · exact absurd (by rw [← hsame q f (hfr q e hg) List.mem_cons_self]; exact hg) hf
       · exact e
theorem visGo_spec : ∀ (ss pre : List Wk) (all : List Nat) (fresh : List (Nat × Nat)), VisI pre all fresh → (pre ++ ss).Pairwise (fun a b => a.g ≤ b.g) →
   ∃ mid rest, ss = mid ++ rest ∧ (visGo (ss.map Wk.key) all fresh).1.Nodup ∧ (∀ a, a ∈ (visGo (ss.map Wk.key) all fresh).1 ↔ a ∈ (pre ++ mid).map Wk.a) ∧ ((pre ++ mid).map Wk.key).Nodup ∧
     ((visGo (ss.map Wk.key) all fresh).2 = true → ∃ s r, rest = s :: r ∧ s.key ∈ (pre ++ mid).map Wk.key) ∧ ((visGo (ss.map Wk.key) all fresh).2 = false → rest = [])
 | [], pre, all, fresh, h, _ => ⟨[], [], rfl, h.and, by simpa [visGo] using h.mem, by simpa using h.nd, by simp [visGo], by simp⟩
 | s :: ss, pre, all, fresh, h, hp => by
   have hp' := hp
   rw [List.pairwise_append] at hp'
   by_cases hs : s.key ∈ fresh
   · refine ⟨[], s :: ss, rfl, ?_⟩
     simp only [List.map_cons, visGo, hs, if_true, List.append_nil]
     exact ⟨h.and, h.mem, h.nd, fun _ => ⟨s, ss, rfl, ((h.fr _).1 hs).1⟩, fun h => by cases h⟩
   · have hst := (h.step hs (fun p hp1 => hp'.2.2 p hp1 s List.mem_cons_self) (fun l hl p hp1 => by
       obtain ⟨i, hi, rfl⟩ := List.mem_iff_getElem.1 hp1
       rw [List.getLast?_eq_getElem?] at hl
       obtain ⟨hj, rfl⟩ := List.getElem?_eq_some_iff.1 hl
       rcases Nat.lt_or_ge i (pre.length - 1) with h1 | h1
       · exact List.pairwise_iff_getElem.1 hp'.1 i (pre.length - 1) hi hj h1
       · have : i = pre.length - 1 := by omega
         subst this; exact Nat.le_refl _)).1
     obtain ⟨mid, rest, e, g1, g2, g3, g4, g5⟩ := visGo_spec ss (pre ++ [s]) _ _ hst (by simpa using hp)
     refine ⟨s :: mid, rest, by rw [e]; rfl, ?_⟩
     have hcons : pre ++ [s] ++ mid = pre ++ s :: mid := by simp
     rw [hcons] at g2 g3 g4
     simp only [List.map_cons, visGo, hs, if_false]
     exact ⟨g1, g2, g3, g4, g5⟩
theorem nodup_bound : ∀ (n : Nat) (l : List Nat), l.Nodup → (∀ x ∈ l, x < n) → l.length ≤ n
 | 0, l, _, h => by
   cases l with
   | nil => simp
   | cons a l => exact absurd (h a List.mem_cons_self) (by omega)
 | n + 1, l, hnd, h => by
   have h1 := nodup_bound n (l.erase n) (hnd.erase n) fun x hx => by
     have := (hnd.mem_erase_iff).1 hx
     have := h x this.2
     omega
   rw [List.length_erase] at h1
   split at h1 <;> omega
theorem keys_bound {A G : Nat} {l : List (Nat × Nat)} (hnd : l.Nodup) (h : ∀ x ∈ l, x.1 < A ∧ x.2 < G) : l.length ≤ G * A := by
 have := nodup_bound (G * A) (l.map fun x => x.2 * A + x.1) ?_ ?_
 · simpa using this
 · rw [List.nodup_iff_pairwise_ne, List.pairwise_map]
   refine List.Pairwise.imp_of_mem (fun {x y} hx hy hne e => hne ?_) (List.nodup_iff_pairwise_ne.1 hnd)
   obtain ⟨x1, x2⟩ := x
   obtain ⟨y1, y2⟩ := y
   have hx1 := (h _ hx).1
   have hy1 := (h _ hy).1
   simp only at hx1 hy1 e
   have e1 : (x2 * A + x1) / A = x2 := by rw [Nat.mul_comm, Nat.mul_add_div (by omega), Nat.div_eq_of_lt hx1]; rfl
   have e2 : (y2 * A + y1) / A = y2 := by rw [Nat.mul_comm, Nat.mul_add_div (by omega), Nat.div_eq_of_lt hy1]; rfl
   have e3 : x2 = y2 := by rw [← e1, ← e2, e]
   subst e3
   have : x1 = y1 := by omega
   rw [this]
 · intro x hx
   obtain ⟨y, hy, rfl⟩ := List.mem_map.1 hx
   obtain ⟨h1, h2⟩ := h y hy
   have : (y.2 + 1) * A ≤ G * A := Nat.mul_le_mul_right A (by omega)
   rw [Nat.add_mul] at this
   omega
def most (cs : List Cue) : Nat := ((sumL cs).toNat + 1) * cs.length + 1
theorem walk_mem {cs : List Cue} {n : Nat} {w v : Wk} (h : v ∈ walk cs n w) : ∃ i, i < n ∧ trW cs i w = some v := by
 obtain ⟨i, hi, rfl⟩ := List.mem_iff_getElem.1 h
 have h1 := walk_get cs n i w
 rw [List.getElem?_eq_getElem hi] at h1
 split at h1
 · exact ⟨i, ‹_›, h1.symm⟩
 · cases h1
theorem walk_good {cs : List Cue} (hR : RightW cs) {w : Wk} (hw : Good cs w) {n : Nat} : ∀ v ∈ walk cs n w, Good cs v := fun v hv => by
 obtain ⟨i, _, h⟩ := walk_mem hv
 exact (Good.tr hR i hw h).1
theorem keys_len {cs : List Cue} (hR : RightW cs) {l : List Wk} (hg : ∀ v ∈ l, Good cs v) (hnd : (l.map Wk.key).Nodup) : l.length < most cs := by
 have := keys_bound (A := cs.length) (G := (sumL cs).toNat + 1) hnd fun x hx => by
   obtain ⟨v, hv, rfl⟩ := List.mem_map.1 hx
   have h1 := (hg v hv).at_
   have h2 := (hg v hv).g_le hR
   exact ⟨h1, by show v.g < _; omega⟩
 simp only [List.length_map] at this
 unfold most; omega
theorem walk_mono {cs : List Cue} (hR : RightW cs) {w : Wk} (hw : Good cs w) {n : Nat} : (walk cs n w).Pairwise fun a b => a.g ≤ b.g := by
 rw [List.pairwise_iff_getElem]
 intro i j hi hj hij
 have h1 := walk_get cs n i w
 have h2 := walk_get cs n j w
 rw [List.getElem?_eq_getElem hi] at h1
 rw [List.getElem?_eq_getElem hj] at h2
 have hjn : j < n := by have := walk_len cs n w; omega
 rw [if_pos (by omega)] at h1
 rw [if_pos hjn] at h2
 obtain ⟨p, hp⟩ : ∃ p, j = i + p := ⟨j - i, by omega⟩
 rw [show trW cs j w = trW cs (i + p) w by rw [hp], trW_add, ← h1] at h2
 exact (Good.tr hR p (Good.tr hR i hw h1.symm).1 h2.symm).2.1
theorem repeat_eq {cs : List Cue} (hR : RightW cs) {w : Wk} (hw : Good cs w) {i j : Nat} (hij : i ≤ j) {x y : Wk} (hx : trW cs i w = some x) (hy : trW cs j w = some y) (hk : x.key = y.key) : x = y := by
 have e : j = i + (j - i) := by omega
 rw [e, trW_add, hx] at hy
 have h1 := (Good.tr hR i hw hx).1
 have h2 := (Good.tr hR _ h1 hy).2.2
 have k1 : x.a = y.a := congrArg Prod.fst hk
 have k2 : x.g = y.g := congrArg Prod.snd hk
 exact Wk.ext' k1 (h2 k2.symm).symm k2
theorem periodic {cs : List Cue} {w : Wk} {i p : Nat} (hp : 0 < p) {x : Wk} (h1 : trW cs i w = some x) (h2 : trW cs (i + p) w = some x) : ∀ n, i + p ≤ n → ∃ m, m < i + p ∧ trW cs n w = trW cs m w := by
 intro n
 induction n using Nat.strongRecOn with
 | ind n ih =>
   intro hn
   have e : trW cs n w = trW cs (n - p) w := by
     have e1 : n = (i + p) + (n - (i + p)) := by omega
     have e2 : n - p = i + (n - (i + p)) := by omega
     rw [e2, trW_add, h1]
     conv => lhs; rw [e1, trW_add, h2]
   rw [e]
   rcases Nat.lt_or_ge (n - p) (i + p) with h | h
   · exact ⟨n - p, h, rfl⟩
   · exact ih (n - p) (by omega) h
structure VisR (cs : List Cue) (w : Wk) (all : List Nat) (e : Bool) : Prop where
 nd : all.Nodup
 lt : ∀ a ∈ all, a < cs.length
 mem : ∀ a n, most cs ≤ n → (a ∈ all ↔ ∃ v ∈ walk cs n w, v.a = a)
 sub : ∀ a v n, v ∈ walk cs n w → v.a = a → a ∈ all
 end_ : e = true ↔ (walk cs (most cs) w).length = most cs
 inf : e = true → ∀ n, (walk cs n w).length = n
 cyc : e = true → ∃ i p x, 0 < p ∧ trW cs i w = some x ∧ trW cs (i + p) w = some x
theorem visited_spec {cs : List Cue} (hR : RightW cs) {w : Wk} (hw : Good cs w) : VisR cs w (visGo ((walk cs (most cs) w).map Wk.key) [] []).1 (visGo ((walk cs (most cs) w).map Wk.key) [] []).2 := by
 obtain ⟨mid, rest, he, h1, h2, h3, h4, h5⟩ := visGo_spec (walk cs (most cs) w) [] [] [] .start (by simpa using walk_mono hR hw)
 simp only [List.nil_append] at h2 h3 h4
 generalize visGo ((walk cs (most cs) w).map Wk.key) [] [] = r at h1 h2 h3 h4 h5
 obtain ⟨all, e⟩ := r
 simp only at h1 h2 h3 h4 h5
 have hlt : ∀ a ∈ all, a < cs.length := fun a ha => by
   obtain ⟨v, hv, rfl⟩ := List.mem_map.1 ((h2 a).1 ha)
   exact (walk_good hR hw v (by rw [he]; exact List.mem_append_left _ hv)).at_
 have hgood : ∀ v ∈ mid, Good cs v := fun v hv => walk_good hR hw v (by rw [he]; exact List.mem_append_left _ hv)
 have hmid := keys_len hR hgood h3
 have hget : ∀ i (hi : i < mid.length), trW cs i w = some mid[i] := fun i hi => by
   have hh := walk_get cs (most cs) i w
   rw [he, List.getElem?_append_left hi, List.getElem?_eq_getElem hi, if_pos (by omega)] at hh
   exact hh.symm
 cases e with
 | false =>
   have hr := h5 rfl
   subst hr
   rw [List.append_nil] at he
   have hlen : (walk cs (most cs) w).length < most cs := by rw [he]; exact hmid
   have hall : ∀ n, ∀ v ∈ walk cs n w, v ∈ walk cs (most cs) w := fun n v hv => by
     rcases Nat.le_total n (most cs) with h | h
     · rw [walk_take cs n (most cs) w h] at hv
       exact List.mem_of_mem_take hv
     · have := walk_take cs (most cs) n w h
       have hl : (walk cs n w).length < most cs := by
         rcases Nat.lt_or_ge (walk cs n w).length (most cs) with h' | h'
         · exact h'
         · rw [this, List.length_take] at hlen; omega
       rw [this, List.take_of_length_le (by omega)]
       exact hv
   refine ⟨h1, hlt, fun a n hn => ?_, fun a v n hv hva => ?_, ⟨(fun h => by cases h), (fun h => by omega)⟩, (fun h => by cases h), (fun h => by cases h)⟩
   · rw [h2 a, List.mem_map]
     constructor
     · rintro ⟨v, hv, rfl⟩
       refine ⟨v, ?_, rfl⟩
       rw [← he, walk_take cs (most cs) n w hn] at hv
       exact List.mem_of_mem_take hv
     · rintro ⟨v, hv, rfl⟩
       exact ⟨v, by rw [← he]; exact hall n v hv, rfl⟩
   · rw [h2 a, List.mem_map]
     exact ⟨v, by rw [← he]; exact hall n v hv, hva⟩
 | true =>
   obtain ⟨s, r, hrest, hs⟩ := h4 rfl
   obtain ⟨u, hu, hue⟩ := List.mem_map.1 hs
   obtain ⟨i, hi, rfl⟩ := List.mem_iff_getElem.1 hu
   have hj : trW cs mid.length w = some s := by
     have hh := walk_get cs (most cs) mid.length w
     rw [he, hrest, List.getElem?_append_right (Nat.le_refl _), Nat.sub_self, List.getElem?_cons_zero, if_pos hmid] at hh
     exact hh.symm
   have hxi := hget i hi
   have hsame := repeat_eq hR hw (by omega) hxi hj hue
   rw [← hsame] at hj
   have hp : i + (mid.length - i) = mid.length := by omega
   have hper := periodic (cs := cs) (w := w) (i := i) (p := mid.length - i) (by omega) hxi (by rw [hp]; exact hj)
   rw [hp] at hper
   have hsome : ∀ n, ∃ v ∈ mid, trW cs n w = some v := fun n => by
     rcases Nat.lt_or_ge n mid.length with h | h
     · exact ⟨mid[n], List.getElem_mem h, hget n h⟩
     · obtain ⟨m, hm, e⟩ := hper n h
       exact ⟨mid[m], List.getElem_mem hm, by rw [e]; exact hget m hm⟩
   have hinf : ∀ n, (walk cs n w).length = n := fun n => walk_full fun k _ => by
     obtain ⟨v, _, hv⟩ := hsome k
     rw [hv]; rfl
   refine ⟨h1, hlt, fun a n hn => ?_, fun a v n hv hva => ?_, ⟨fun _ => hinf _, fun _ => rfl⟩, fun _ => hinf, fun _ => ⟨i, mid.length - i, mid[i], by omega, hxi, by rw [hp]; exact hj⟩⟩
   · rw [h2 a, List.mem_map]
     constructor
     · rintro ⟨v, hv, rfl⟩
       refine ⟨v, ?_, rfl⟩
       have : v ∈ walk cs (most cs) w := by rw [he]; exact List.mem_append_left _ hv
       rw [walk_take cs (most cs) n w hn] at this
       exact List.mem_of_mem_take this
     · rintro ⟨v, hv, rfl⟩
       obtain ⟨k, _, hk⟩ := walk_mem hv
       obtain ⟨u, hu1, hu2⟩ := hsome k
       rw [hk] at hu2
       obtain rfl := Option.some.inj hu2
       exact ⟨v, hu1, rfl⟩
   · rw [h2 a, List.mem_map]
     obtain ⟨k, _, hk⟩ := walk_mem hv
     obtain ⟨u, hu1, hu2⟩ := hsome k
     rw [hk] at hu2
     obtain rfl := Option.some.inj hu2
     exact ⟨v, hu1, hva⟩
def numA (cs : List Cue) (a : Nat) : List UInt8 := (cs.getD a default).num
def pathL (cs : List Cue) (n : Nat) (w : Wk) : List (List UInt8) := (walk cs n w).map fun v => numA cs v.a
def reachL (cs : List Cue) (w : Wk) : List (List UInt8) := (cs.filter fun c => (pathL cs (most cs) w).any fun s => s == c.num).map (·.num)
theorem pathL_len (cs : List Cue) (n : Nat) (w : Wk) : (pathL cs n w).length = (walk cs n w).length := by simp [pathL]
theorem numA_at {cs : List Cue} {a : Nat} (h : a < cs.length) : numA cs a = (cs[a]).num := by simp [numA, List.getD_eq_getElem?_getD, h]
theorem numA_inj {cs : List Cue} (hr : Rising cs) {a b : Nat} (ha : a < cs.length) (hb : b < cs.length) (h : numA cs a = numA cs b) : a = b := by
 rw [numA_at ha, numA_at hb] at h
 rw [Rising, List.pairwise_iff_getElem] at hr
 rcases Nat.lt_trichotomy a b with h1 | rfl | h1
 · have := hr a b ha hb h1; simp only [valOf, h] at this; omega
 · rfl
 · have := hr b a hb ha h1; simp only [valOf, h] at this; omega
theorem range_get (cs : List Cue) : (List.range cs.length).map (fun a => cs.getD a default) = cs := by
 apply List.ext_getElem
 · simp
 · intro i h1 h2
   simp [List.getD_eq_getElem?_getD, h2]
theorem place_num {cs : List Cue} (hr : Rising cs) {a : Nat} (ha : a < cs.length) : place cs (cs[a]).num = a := by
 have hn : ¬ place cs (cs[a]).num < 0 := by
   intro h
   exact place_neg.1 h cs[a] (List.getElem_mem ha) rfl
 obtain ⟨j, hj, h1, h2, _⟩ := place_pos hn
 have : j = a := numA_inj hr hj ha (by rw [numA_at hj, numA_at ha, h2])
 rw [h1, this]
theorem mem_path {cs : List Cue} (hR : RightW cs) {w : Wk} (hw : Good cs w) {n : Nat} {a : Nat} (ha : a < cs.length) : numA cs a ∈ pathL cs n w ↔ ∃ v ∈ walk cs n w, v.a = a := by
 unfold pathL
 rw [List.mem_map]
 constructor
 · rintro ⟨v, hv, he⟩
   exact ⟨v, hv, numA_inj hR.rising (walk_good hR hw v hv).at_ ha he⟩
 · rintro ⟨v, hv, rfl⟩
   exact ⟨v, hv, rfl⟩
theorem reached_eq {cs : List Cue} (hR : RightW cs) {w : Wk} (hw : Good cs w) {all : List Nat} {e : Bool} (hv : VisR cs w all e) {ss : List Nat} (hp : ss.Perm all) (hs : ss.Pairwise (· ≤ ·)) : ss.map (numA cs) = reachL cs w := by
 have hq : ss = (List.range cs.length).filter fun a => decide (a ∈ all) := by
   refine perm_sorted_eq (fun n : Nat => (n : Int)) _ _ ?_ (hs.imp fun h => by exact_mod_cast h) ?_
   · refine hp.trans ((List.perm_ext_iff_of_nodup hv.nd (List.nodup_range.filter _)).2 fun a => ?_)
     simp only [List.mem_filter, List.mem_range, decide_eq_true_eq]
     exact ⟨fun h => ⟨hv.lt a h, h⟩, fun h => h.2⟩
   · refine List.Pairwise.filter _ (List.pairwise_lt_range.imp fun h => by exact_mod_cast h)
 have hc : cs.filter (fun c => (pathL cs (most cs) w).any fun s => s == c.num) = ((List.range cs.length).filter fun a => decide (a ∈ all)).map fun a => cs.getD a default := by
   conv => lhs; rw [← range_get cs]
   rw [List.filter_map]
   congr 1
   refine List.filter_congr fun a ha => ?_
   have ha := List.mem_range.1 ha
   have e1 : ∀ x y : Bool, (x = true ↔ y = true) → x = y := fun x y h => by rw [Bool.eq_iff_iff]; exact h
   refine e1 _ _ ?_
   simp only [Function.comp, List.any_eq_true, beq_iff_eq, decide_eq_true_eq]
   rw [hv.mem a (most cs) (Nat.le_refl _), ← mem_path hR hw ha]
   constructor
   · rintro ⟨s, hs, rfl⟩
     rw [range_get] at hs
     exact hs
   · intro h
     exact ⟨_, by rw [range_get]; exact h, rfl⟩
 unfold reachL
 rw [hq, hc, List.map_map]
 rfl
theorem mem_reach {cs : List Cue} (hR : RightW cs) {w : Wk} (hw : Good cs w) {a : Nat} (ha : a < cs.length) : numA cs a ∈ reachL cs w ↔ ∃ v ∈ walk cs (most cs) w, v.a = a := by
 rw [← mem_path hR hw ha]
 simp only [reachL, List.mem_map, List.mem_filter, List.any_eq_true, beq_iff_eq]
 constructor
 · rintro ⟨c, ⟨_, s, hs, rfl⟩, he⟩
   rw [← he]; exact hs
 · intro h
   exact ⟨cs[a], ⟨List.getElem_mem ha, _, h, numA_at ha⟩, (numA_at ha).symm⟩
theorem walk_reach {cs : List Cue} (hR : RightW cs) {w : Wk} (hw : Good cs w) {n : Nat} {v : Wk} (hv : v ∈ walk cs n w) : numA cs v.a ∈ reachL cs w := by
 have hs := visited_spec hR hw
 rw [mem_reach hR hw (walk_good hR hw v hv).at_, ← hs.mem v.a (most cs) (Nat.le_refl _)]
 exact hs.sub v.a v n hv rfl
theorem walk_last {cs : List Cue} (hR : RightW cs) {w : Wk} (hw : Good cs w) {n : Nat} (h : (walk cs n w).length ≠ n) : ∃ v, (walk cs n w).getLast? = some v ∧ v.a + 1 = cs.length := by
 rcases walk_end cs n w with h1 | ⟨v, h1, h2⟩
 · exact absurd h1 h
 · refine ⟨v, h1, ?_⟩
   have hg := walk_good hR hw v (List.mem_of_getLast? h1)
   unfold stepW at h2
   rw [List.getElem?_eq_getElem hg.at_] at h2
   simp only at h2
   split at h2
   · cases h2
   · split at h2
     · assumption
     · cases h2
theorem back_link {cs : List Cue} (hR : RightW cs) : ∀ (p : Nat) {x y : Wk}, Good cs x → trW cs p x = some y → y.g = x.g →
   (∃ m v c u, m < p ∧ trW cs m x = some v ∧ cs[v.a]? = some c ∧ c.loops = 0 ∧ (numA cs u.a = c.link ∧ c.link ≠ []) ∧ trW cs (m + 1) x = some u) ∨ y.a = x.a + p
 | 0, x, y, _, h, _ => by
   obtain rfl := Option.some.inj h
   exact .inr rfl
 | p + 1, x, y, hx, h, hg => by
   simp only [trW] at h
   cases hs : stepW cs x with
   | none => rw [hs] at h; cases h
   | some u =>
     rw [hs] at h
     obtain ⟨a1, a2, a3⟩ := hx.step hR hs
     obtain ⟨b1, b2, b3⟩ := Good.tr hR p a1 h
     have hug : u.g = x.g := by omega
     have hs' := hs
     unfold stepW at hs'
     rw [List.getElem?_eq_getElem hx.at_] at hs'
     simp only at hs'
     split at hs'
     · rename_i hf
       obtain ⟨j, hj, e1, e2, e3⟩ := follows_pos hf
       have hu := Option.some.inj hs'
       have hl : ¬ 0 < (cs[x.a]'hx.at_).loops := by
         intro hl
         rw [if_pos hl] at hu
         rw [← hu] at hug
         simp only at hug
         omega
       have h0 := (hR.loops _ (List.getElem_mem hx.at_)).1
       left
       refine ⟨0, x, cs[x.a]'hx.at_, u, by omega, rfl, List.getElem?_eq_getElem hx.at_, by omega, ?_, by simp [trW, hs]⟩
       have hua : u.a = j := by rw [← hu, e1]; rfl
       have hnum : numA cs u.a = (cs[x.a]'hx.at_).link := by rw [hua, numA_at hj, e2]
       refine ⟨hnum, fun e => ?_⟩
       have := hR.num cs[j] (List.getElem_mem hj)
       rw [e2, e] at this
       exact absurd this (by decide)
     · split at hs'
       · cases hs'
       · have hu := Option.some.inj hs'
         have hua : u.a = x.a + 1 := by rw [← hu]
         rcases back_link hR p a1 h (by omega) with ⟨m, v, c, q, h1, h2, h3⟩ | h1
         · exact .inl ⟨m + 1, v, c, q, by omega, by simp [trW, hs, h2], h3.1, h3.2.1, h3.2.2.1, by rw [trW, hs]; exact h3.2.2.2⟩
         · exact .inr (by omega)
theorem always_link {cs : List Cue} (hR : RightW cs) {w : Wk} (hw : Good cs w) {all : List Nat} (hv : VisR cs w all true) : ∃ c ∈ cs, c.link ≠ [] ∧ c.loops = 0 ∧ c.num ∈ reachL cs w ∧ c.link ∈ reachL cs w := by
 obtain ⟨i, p, x, hp, h1, h2⟩ := hv.cyc rfl
 have hx := (Good.tr hR i hw h1).1
 have h3 : trW cs p x = some x := by
   rw [trW_add, h1] at h2; exact h2
 rcases back_link hR p hx h3 rfl with ⟨m, v, c, u, hm, a1, a2, a3, a4, a5⟩ | h
 · obtain ⟨hlt, hc⟩ := List.getElem?_eq_some_iff.1 a2
   have hin : ∀ q k, trW cs k w = some q → numA cs q.a ∈ reachL cs w := fun q k hq => by
     refine walk_reach hR hw (n := k + 1) (v := q) (List.mem_of_getElem? (i := k) ?_)
     rw [walk_get, if_pos (by omega), hq]
   have e1 : trW cs (i + m) w = some v := by rw [trW_add, h1]; exact a1
   have e2 : trW cs (i + (m + 1)) w = some u := by rw [trW_add, h1]; exact a5
   refine ⟨c, by rw [← hc]; exact List.getElem_mem hlt, a4.2, a3, ?_, ?_⟩
   · have := hin v _ e1
     rw [numA_at hlt, hc] at this; exact this
   · have := hin u _ e2
     rw [a4.1] at this; exact this
 · omega
theorem plain_step {cs : List Cue} (hR : RightW cs) (hl : ∀ c ∈ cs, c.link = []) {w : Wk} (hw : Good cs w) : stepW cs w = if w.a + 1 = cs.length then none else some ⟨w.a + 1, w.k, w.g⟩ := by
 unfold stepW
 rw [List.getElem?_eq_getElem hw.at_]
 simp only
 rw [if_neg]
 intro hf
 obtain ⟨j, hj, e1, e2, _⟩ := follows_pos hf
 have := hR.num cs[j] (List.getElem_mem hj)
 rw [e2, hl _ (List.getElem_mem _)] at this
 exact absurd this (by decide)
theorem plain_walk {cs : List Cue} (hR : RightW cs) (hl : ∀ c ∈ cs, c.link = []) : ∀ (n : Nat) {w : Wk}, Good cs w → (walk cs n w).map Wk.a = (List.range' w.a (cs.length - w.a)).take n
 | 0, w, _ => by simp [walk]
 | n + 1, w, hw => by
   have ha := hw.at_
   have e : cs.length - w.a = (cs.length - (w.a + 1)) + 1 := by omega
   rw [e, List.range'_succ, List.take_succ_cons]
   simp only [walk, List.map_cons]
   congr 1
   have hs := plain_step hR hl hw
   cases h : stepW cs w with
   | none =>
     rw [h] at hs
     split at hs
     · have e2 : cs.length - (w.a + 1) = 0 := by omega
       simp [e2]
     · cases hs
   | some v =>
     rw [h] at hs
     split at hs
     · cases hs
     · have hv := Option.some.inj hs
       have := plain_walk hR hl n (w := v) (hw.step hR h).1
       rw [this, hv]
theorem plain_end {cs : List Cue} (hR : RightW cs) (hl : ∀ c ∈ cs, c.link = []) {w : Wk} (hw : Good cs w) {all : List Nat} {e : Bool} (hv : VisR cs w all e) : e = false := by
 cases e with
 | false => rfl
 | true =>
   have h1 := hv.inf rfl (cs.length + 1)
   have h2 := congrArg List.length (plain_walk hR hl (cs.length + 1) hw)
   simp only [List.length_map, List.length_take, List.length_range'] at h2
   omega
theorem plain_path {cs : List Cue} (hR : RightW cs) (hl : ∀ c ∈ cs, c.link = []) {w : Wk} (hw : Good cs w) {n : Nat} (hn : cs.length ≤ n) : pathL cs n w = (cs.drop w.a).map (·.num) := by
 have h := plain_walk hR hl n hw
 have e : pathL cs n w = ((walk cs n w).map Wk.a).map (numA cs) := by simp [pathL, List.map_map, Function.comp_def]
 rw [e, h, List.take_of_length_le (by simp; omega)]
 apply List.ext_getElem
 · simp
 · intro i h1 h2
   simp only [List.length_map, List.length_range', List.length_drop] at h1 h2
   simp [numA_at (cs := cs) (a := w.a + i) (by omega)]
theorem plain_reach {cs : List Cue} (hR : RightW cs) (hl : ∀ c ∈ cs, c.link = []) {w : Wk} (hw : Good cs w) : reachL cs w = (cs.drop w.a).map (·.num) := by
 have hv := visited_spec hR hw
 generalize visGo ((walk cs (most cs) w).map Wk.key) [] [] = r at hv
 have hall : ∀ a, a ∈ r.1 ↔ w.a ≤ a ∧ a < cs.length := fun a => by
   have hml : cs.length ≤ most cs := by
     unfold most
     rw [Nat.add_mul]; omega
   rw [hv.mem a (most cs) (Nat.le_refl _)]
   have h := plain_walk hR hl (most cs) hw
   rw [List.take_of_length_le (by simp; omega)] at h
   have hwa := hw.at_
   have : (∃ v ∈ walk cs (most cs) w, v.a = a) ↔ a ∈ (walk cs (most cs) w).map Wk.a := by rw [List.mem_map]
   rw [this, h, List.mem_range'_1]
   omega
 have hss := reached_eq hR hw hv (ss := List.range' w.a (cs.length - w.a)) ((List.perm_ext_iff_of_nodup List.nodup_range' hv.nd).2 fun a => by
   rw [hall a, List.mem_range'_1]
   have hwa := hw.at_
   omega) (List.pairwise_le_range' (step := 1))
 rw [← hss]
 apply List.ext_getElem
 · simp
 · intro i h1 h2
   simp only [List.length_map, List.length_range', List.length_drop] at h1 h2
   simp [numA_at (cs := cs) (a := w.a + i) (by omega)]
end Go.Sx.La
