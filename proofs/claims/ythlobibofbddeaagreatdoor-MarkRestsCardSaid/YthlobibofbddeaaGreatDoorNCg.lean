/-
 Part 7 of the proof: the executor over the kit's code with its soundness, or contracts of functions.
-/
import Derived.Test.YthlobibofbddeaaGreatDoorNCf
import Derived.Shelf.SlSortCmp.WholeK
import Derived.Test.YthlobibofbddeaaGreatDoorSortb
set_option linter.unusedSimpArgs false
set_option linter.unusedVariables false
set_option linter.unusedSectionVars false
set_option linter.defProp false
set_option maxRecDepth 100000
namespace Go.Sx.La
open Go Go.Sx Go.RowKit Go.Proofs
def valOf (c : Cue) : Int := value05 c.num
def Rising (cs : List Cue) : Prop := cs.Pairwise fun a b => valOf a < valOf b
theorem order_neg (a b : List UInt8) : order05 a b < 0 ↔ value05 a < value05 b := by unfold order05; split <;> (try split) <;> simp_all
def ins (c : Cue) : List Cue → List Cue
 | [] => [c]
 | x :: xs => if valOf x < valOf c then x :: ins c xs else c :: x :: xs
theorem cuesGo_zero {xs : List Cue} : ∀ (cs : List Cue) (i : Nat), cs = xs.drop i → cuesGo order05 xs i cs = 0 → (∀ c ∈ cs, check16 c = 0) ∧ (∀ j, i ≤ j → 0 < j → j < xs.length → valOf (xs[j - 1]!) < valOf (xs[j]!))
 | [], i, he, _ => ⟨by simp, fun j h1 h2 h3 => by
     have := congrArg List.length he
     simp at this
     omega⟩
 | c :: cs, i, he, h => by
   have hlt : i < xs.length := by
     rcases Nat.lt_or_ge i xs.length with h | h
     · exact h
     · rw [List.drop_eq_nil_of_le h] at he; cases he
   rw [List.drop_eq_getElem_cons hlt] at he
   obtain ⟨rfl, rfl⟩ := List.cons.inj he
   simp only [cuesGo] at h
   split at h
   · rename_i hc; exact absurd h hc
   · rename_i hc
     have hc : check16 xs[i] = 0 := by simpa using hc
     split at h
     · cases h
     · rename_i ho
       obtain ⟨g1, g2⟩ := cuesGo_zero (xs.drop (i + 1)) (i + 1) rfl h
       refine ⟨fun d hd => ?_, fun j h1 h2 h3 => ?_⟩
       · rcases List.mem_cons.1 hd with rfl | hd
         · exact hc
         · exact g1 d hd
       · rcases Nat.eq_or_lt_of_le h1 with rfl | h1
         · rw [getElem!_pos xs i h3]
           have : ¬ 0 ≤ order05 (xs[i - 1]!).num (xs[i]).num := fun h => ho ⟨h2, h⟩
           exact (order_neg _ _).1 (by omega)
         · exact g2 j h1 h2 h3
structure RightL (l : Lis) : Prop where
 cues : ∀ c ∈ l.cues, check16 c = 0
 rising : Rising l.cues
 len : l.cues.length ≤ 64
theorem rightL_of {l : Lis} (h : checkL order05 l = 0) : RightL l := by
 have hlen := cuesGo_len h
 simp only [checkL] at h
 split at h
 · cases h
 · split at h
   · cases h
   · obtain ⟨g1, g2⟩ := cuesGo_zero l.cues 0 rfl h
     refine ⟨g1, ?_, hlen⟩
     rw [Rising, List.pairwise_iff_getElem]
     have step : ∀ (n i : Nat) (hi : i + n + 1 < l.cues.length), valOf (l.cues[i]'(by omega)) < valOf (l.cues[i + n + 1]) := by
       intro n
       induction n with
       | zero =>
         intro i hi
         have := g2 (i + 1) (Nat.zero_le _) (by omega) (by omega)
         rw [getElem!_pos l.cues (i + 1) (by omega), getElem!_pos l.cues (i + 1 - 1) (by omega)] at this
         exact this
       | succ n ih =>
         intro i hi
         have h1 := ih i (by omega)
         have := g2 (i + (n + 1) + 1) (Nat.zero_le _) (by omega) (by omega)
         rw [getElem!_pos l.cues (i + (n + 1) + 1) (by omega), getElem!_pos l.cues (i + (n + 1) + 1 - 1) (by omega)] at this
         have e : i + (n + 1) + 1 - 1 = i + n + 1 := by omega
         simp only [e] at this
         omega
     intro i j hi hj hij
     obtain ⟨n, rfl⟩ : ∃ n, j = i + n + 1 := ⟨j - i - 1, by omega⟩
     exact step n i hj
theorem RightL.num {l : Lis} (h : RightL l) : ∀ c ∈ l.cues, check05 c.num = 0 := fun c hc => check16_num (h.cues c hc)
theorem idxGo_spec {X : Type} (p : X → Bool) : ∀ (xs : List X) (i : Nat), (idxGo p i xs = -1 ∧ ∀ x ∈ xs, p x = false) ∨ ∃ (j : Nat) (h : j < xs.length), idxGo p i xs = (i + j : Nat) ∧ p xs[j] = true ∧ ∀ k (hk : k < j), p (xs[k]'(by omega)) = false
 | [], i => .inl ⟨rfl, by simp⟩
 | x :: xs, i => by
   simp only [idxGo]
   by_cases hx : p x = true
   · refine .inr ⟨0, by simp, by simp [hx], by simpa using hx, fun k hk => by omega⟩
   · have hx' : p x = false := by simpa using hx
     simp only [hx, if_false]
     rcases idxGo_spec p xs (i + 1) with ⟨h1, h2⟩ | ⟨j, hj, h1, h2, h3⟩
     · exact .inl ⟨by simpa [hx'] using h1, fun y hy => by
         rcases List.mem_cons.1 hy with rfl | hy
         · exact hx'
         · exact h2 y hy⟩
     · refine .inr ⟨j + 1, by simp; omega, by simp [hx', h1]; omega, by simpa using h2, fun k hk => ?_⟩
       match k, hk with
       | 0, _ => simpa using hx'
       | k + 1, hk => simpa using h3 k (by omega)
theorem place_neg {cs : List Cue} {s : List UInt8} : place cs s < 0 ↔ ∀ c ∈ cs, c.num ≠ s := by
 unfold place
 rcases idxGo_spec (fun c : Cue => c.num == s) cs 0 with ⟨h1, h2⟩ | ⟨j, hj, h1, h2, _⟩
 · rw [h1]; exact ⟨fun _ c hc => by simpa using h2 c hc, fun _ => by omega⟩
 · rw [h1]
   refine ⟨fun h => by omega, fun h => absurd (by simpa using h2) (h cs[j] (List.getElem_mem _))⟩
theorem place_pos {cs : List Cue} {s : List UInt8} (h : ¬ place cs s < 0) : ∃ (j : Nat) (hj : j < cs.length), place cs s = j ∧ (cs[j]).num = s ∧ ∀ k (hk : k < j), (cs[k]'(by omega)).num ≠ s := by
 unfold place at h ⊢
 rcases idxGo_spec (fun c : Cue => c.num == s) cs 0 with ⟨h1, h2⟩ | ⟨j, hj, h1, h2, h3⟩
 · rw [h1] at h; omega
 · exact ⟨j, hj, by simpa using h1, by simpa using h2, fun k hk => by simpa using h3 k hk⟩
theorem denR_iter {P : Program} {F : Option Nat → List RV → Prop} {l : Nat} {t : T} {inits : List T} {ks : List K} {pk : List PK} {body done : R} {ags : Ags} {ρ : List D}
   (h : ∃ xs : List (List D), IterC P (den ρ t) xs ∧ (∀ x ∈ xs, ∃ fx, pkRho pk x = some fx ∧ HasKs (pkKinds pk) fx) ∧
     ∃ Inv : Nat → Option Nat → List D → Prop, Inv 0 ags.cnt (inits.map (den ρ)) ∧
     (∀ i x fx c ys, xs[i]? = some x → pkRho pk x = some fx → HasKs (pkKinds pk) fx → HasKs ks ys → Inv i c ys → denR P F noK body (setAg (ags.wc c) l fun c' zs => Inv (i + 1) c' zs) (ρ ++ ys ++ fx)) ∧
     (∀ c ys, HasKs ks ys → Inv xs.length c ys → denR P F noK done (ags.wc c) (ρ ++ ys))) : denR P F noK (.iter l t inits ks pk body done) ags ρ := by
 obtain ⟨xs, h1, h2, Inv, h3⟩ := h
 exact ⟨xs, Inv, h1.mono fun _ _ => trivial, h2, h3⟩
def names (l : Lis) : List (List UInt8) := l.cues.map (·.num)
def pick : Option (List UInt8) → List UInt8 × Bool
 | some s => (s, true)
 | none => ([], false)
def SaysTxt (P : Program) (fv : D) (ss : List (List UInt8)) (p : List UInt8 → Bool) : Prop := ∃ sf, FvC P fv sf ∧ ∀ s ∈ ss, sf [.str s] fun rs => rs = [.d (.bool (p s))]
def lastGo (p : List UInt8 → Bool) (ss : List (List UInt8)) (a : List UInt8 × Bool) : List UInt8 × Bool := match ss.reverse.find? p with
 | some x => (x, true)
 | none => a
def firstOf (cs : List Cue) : List UInt8 × Bool := pick (cs.map (·.num)).head?
def lastOf (cs : List Cue) : List UInt8 × Bool := pick (cs.map (·.num)).getLast?
def eqGo : List (List UInt8) → List (List UInt8) → Bool
 | [], _ => true
 | a :: as_, b :: bs => if a = b then eqGo as_ bs else false
 | _, _ => false
noncomputable def t35 : R := .guess (.o2 .eq (.o1 .len (.var 0)) (.int .i64 0)) (.ite (.var 1) (.ret [.own 9 .nils]) (.need (.o2 .le (.o1 .len (.o2 .app .nils (.var 0))) (.int .i64 1172812402961)) (.ret [.own 9 (.o2 .app .nils (.var 0))])))
theorem t35_ok : fnO Tryz.prog mdA 35 [.cell (.slice [.str, .str, .slice [.int .i64, .int .i64, .int .i64, .int .i64, .int .i64], .slice [.int .i64, .int .i64, .int .i64, .int .i64, .int .i64, .int .i64], .bool, .bool, .int .i64, .str, .int .i64])] = t35 := by kernel_rfl
theorem c35 : callable Tryz.prog 35 = true := by kernel_rfl
def relink (f t : List UInt8) (c : Cue) : Cue := { c with link := if c.link = f then t else c.link }
def renum (t : List UInt8) (c : Cue) : Cue := { c with num := t }
def renumbered (cs : List Cue) (f t : List UInt8) : List Cue := placed (without (cs.map (relink f t)) f) (renum t ((cs.map (relink f t))[(place cs f).toNat]!))
def zeroL : Lis := ⟨0, 0, []⟩
def renumRef (l : Lis) (f t : List UInt8) : Lis × Int :=
 if given17 l f ≠ 0 then (zeroL, given17 l f) else if check05 t ≠ 0 then (zeroL, check05 t) else if place l.cues f < 0 then (zeroL, 6) else if f ≠ t ∧ 0 ≤ place l.cues t then (zeroL, 7) else ({ l with cues := renumbered l.cues f t }, 0)
theorem rising_ne {cs : List Cue} (h : Rising cs) {i j : Nat} (hi : i < cs.length) (hj : j < cs.length) (hne : i ≠ j) : valOf cs[i] ≠ valOf cs[j] := by
 rw [Rising, List.pairwise_iff_getElem] at h
 rcases Nat.lt_or_gt_of_ne hne with h1 | h1
 · have := h i j hi hj h1; omega
 · have := h j i hj hi h1; omega
def setLink (t : List UInt8) (c : Cue) : Cue := { c with link := t }
def ReI (out : List Cue) (f t : List UInt8) (i : Nat) (a : List Cue) : Prop := a = (out.take i).map (relink f t) ++ out.drop i
theorem denR_callX {P : Program} {F : Option Nat → List RV → Prop} {upd : Bool} {f : FuncId} {args : List RT} {res : List RK} {r : R} {ags : Ags} {ρ : List D} {pk : List PK} {s : SpecX} (hc : ContractX P f pk upd s) (h1 : ∃ τ, pkRhoX pk (args.map (RT.den ρ)) = some τ ∧ HasKs (pkKinds pk) τ) (h2 : upd = true → res.drop (fnTypes P f).length = ownKs pk)
   (h : s (args.map (RT.den ρ)) fun rvs => ∃ rs, RV.all res rvs = some rs ∧ denR P F noK r ags (ρ ++ rs)) : denR P F noK (.callX upd f args res r) ags ρ := ⟨pk, s, hc, h1, h2, h⟩
theorem denR_iteT {P : Program} {F : Option Nat → List RV → Prop} {t : T} {a b : R} {ags : Ags} {ρ : List D} (h : den ρ t = .bool true) (ha : denR P F noK a ags ρ) : denR P F noK (.ite t a b) ags ρ := ⟨fun _ => ha, fun h' => by rw [h] at h'; cases h'⟩
theorem denR_iteF {P : Program} {F : Option Nat → List RV → Prop} {t : T} {a b : R} {ags : Ags} {ρ : List D} (h : den ρ t = .bool false) (hb : denR P F noK b ags ρ) : denR P F noK (.ite t a b) ags ρ := ⟨fun h' => absurd (h.symm.trans h') (by simp), fun _ => hb⟩
def tc (n l : List UInt8) : Cue := ⟨n, [], [], [⟨0, 0, 0, 0, 0, 0⟩], false, false, -1, l, 0⟩
def three : Lis := ⟨1, 0, [tc [49] [], tc [50, 46, 53] [49], tc [51] [52]]⟩
noncomputable def t114 : R := let x0 : T := .o2 .le (.o1 .len (.var 0)) (.int .i64 40); let x1 : T := .o2 .le (.o1 .len (.var 1)) (.int .i64 100); let x2 : T := .o2 .le (.o1 .len (.var 7)) (.int .i64 40); let x3 : T := .o2 .le (.o1 .len (.var 3)) (.int .i64 10); .fact (.o2 .le (.o1 .len (.var 0)) (.int .i64 140737488355328)) (.fact (.ite x0 (.o2 .le (.o1 .len (.var 1)) (.int .i64 140737488355328)) (.bool true)) (.fact (.ite (.ite x0 x1 (.bool false)) (.o2 .le (.o1 .len (.var 7)) (.int .i64 140737488355328)) (.bool true)) (.fact (.ite (.ite (.ite x0 x1 (.bool false)) x2 (.bool false)) (.o2 .le (.o1 .len (.var 3)) (.int .i64 140737488355328)) (.bool true)) (.call (some (.ite (.ite (.ite x0 x1 (.bool false)) x2 (.bool false)) x3 (.bool false))) (.fn 173) [.var 2] [.cell .bool] (.ret [.d (.ite (.ite (.ite (.ite x0 x1 (.bool false)) x2 (.bool false)) x3 (.bool false)) (.var 9) (.bool false))])))))
theorem t114_ok : fnO Tryz.prog mdA 114 [.agg [.str, .str, .slice [.int .i64, .int .i64, .int .i64, .int .i64, .int .i64], .slice [.int .i64, .int .i64, .int .i64, .int .i64, .int .i64, .int .i64], .bool, .bool, .int .i64, .str, .int .i64]] = t114 := by kernel_rfl
theorem c114 : callable Tryz.prog 114 = true := by kernel_rfl
noncomputable def t66 : R := let x0 : T := .o1 .len (.var 2); .fact (.o2 .le x0 (.int .i64 140737488355328)) (.ite (.o2 .gt x0 (.int .i64 128)) (.ret [.d (.bool false)]) (.loop 0 [.int .i64 0] [.int .i64] (.ite (.o2 .lt (.var 3) x0) (.need (.o2 .le (.int .i64 0) (.var 3)) (.call none (.fn 114) [.lcons (.idx (.var 2) (.var 3) 0 .str) (.lcons (.idx (.var 2) (.var 3) 1 .str) (.lcons (.idx (.var 2) (.var 3) 2 (.slice [.int .i64, .int .i64, .int .i64, .int .i64, .int .i64])) (.lcons (.idx (.var 2) (.var 3) 3 (.slice [.int .i64, .int .i64, .int .i64, .int .i64, .int .i64, .int .i64])) (.lcons (.idx (.var 2) (.var 3) 4 .bool) (.lcons (.idx (.var 2) (.var 3) 5 .bool) (.lcons (.idx (.var 2) (.var 3) 6 (.int .i64)) (.lcons (.idx (.var 2) (.var 3) 7 .str) (.lcons (.idx (.var 2) (.var 3) 8 (.int .i64)) .lnil))))))))] [.cell .bool] (.ite (.o1 .not (.var 4)) (.ret [.d (.bool false)]) (.again 0 [.o2 (.add .i64) (.var 3) (.int .i64 1)])))) (.ret [.d (.bool true)]))))
theorem t66_ok : fnO Tryz.prog mdA 66 [.agg [.int .i64, .int .i64, .slice [.str, .str, .slice [.int .i64, .int .i64, .int .i64, .int .i64, .int .i64], .slice [.int .i64, .int .i64, .int .i64, .int .i64, .int .i64, .int .i64], .bool, .bool, .int .i64, .str, .int .i64]]] = t66 := by kernel_rfl
theorem c66 : callable Tryz.prog 66 = true := by kernel_rfl
noncomputable def t130 : R := let x0 : T := .lcons (.var 1) (.lcons (.var 2) .lnil); .call none (.fn 182) [.lcons (.var 0) x0, .push .nils (.lcons (.var 3) .lnil)] [.cell (.int .i64)] (.ite (.o2 .ne (.var 4) (.int .i64 0)) (.ret [.d (.int .i64 0), .d (.bool false), .d (.var 4)]) (.call none (.fn 183) [.lcons (.var 0) x0, .var 3] [.cell (.int .i64)] (.ret [.d (.ite (.o2 .gt (.int .i64 0) (.var 5)) (.int .i64 0) (.var 5)), .d (.o2 .ge (.var 5) (.int .i64 0)), .d (.int .i64 0)])))
theorem t130_ok : fnO Tryz.prog mdA 130 [.agg [.int .i64, .int .i64, .slice [.str, .str, .slice [.int .i64, .int .i64, .int .i64, .int .i64, .int .i64], .slice [.int .i64, .int .i64, .int .i64, .int .i64, .int .i64, .int .i64], .bool, .bool, .int .i64, .str, .int .i64]], .cell .str] = t130 := by kernel_rfl
theorem c130 : callable Tryz.prog 130 = true := by kernel_rfl
def few16 (c : Cue) : Bool := decide (c.num.length ≤ 40) && decide (c.label.length ≤ 100) && decide (c.link.length ≤ 40) && decide (c.parts.length ≤ 10) && fewMoves c.moves
theorem few16_ok : Contract Tryz.prog 114 fun args K => ∃ c : Cue, c.Ok ∧ args = [.agg c.enc] ∧ K [.d (.bool (few16 c))] := by
 refine .of c114 t114_ok ?_
 rintro _ K ⟨c, hc, rfl, hK⟩ hsm
 refine ⟨c.enc, rfl, Cue.has hc, ?_⟩
 simp only [few16] at hK
 simp only [zz, reduceCtorEq, t114, Cue.enc, List.length_map]
 intro _ _ _ _
 refine denR_gcall fewMoves_ok (decide (c.num.length ≤ 40) && decide (c.label.length ≤ 100) && decide (c.link.length ≤ 40) && decide (c.parts.length ≤ 10)) [.bool (decide (c.num.length ≤ 40) && decide (c.label.length ≤ 100) && decide (c.link.length ≤ 40) && decide (c.parts.length ≤ 10) && fewMoves c.moves)] ?_ (fun h => ⟨c.moves, hc.moves, rfl, ?_⟩) (fun h => ?_) ?_
 · simp only [zz, reduceCtorEq, List.length_map]
   by_cases h1 : c.num.length ≤ 40 <;> by_cases h2 : c.label.length ≤ 100 <;> by_cases h3 : c.link.length ≤ 40 <;> by_cases h4 : c.parts.length ≤ 10 <;> simp [h1, h2, h3, h4] <;> omega
 · rw [h]; rfl
 · rw [h]; rfl
 · simp only [zz, reduceCtorEq, List.length_map]
   revert hK
   by_cases h1 : c.num.length ≤ 40 <;> by_cases h2 : c.label.length ≤ 100 <;> by_cases h3 : c.link.length ≤ 40 <;> by_cases h4 : c.parts.length ≤ 10 <;> simp [h1, h2, h3, h4] <;> grind
def fewGo : List Cue → Bool
 | [] => true
 | c :: cs => if few16 c then fewGo cs else false
def few17 (l : Lis) : Bool := if 128 < l.cues.length then false else fewGo l.cues
theorem few17_ok : Contract Tryz.prog 66 fun args K => ∃ l : Lis, l.Ok ∧ args = [.agg l.enc] ∧ K [.d (.bool (few17 l))] := by
 refine .of c66 t66_ok ?_
 rintro _ K ⟨l, hl, rfl, hK⟩ hsm
 refine ⟨l.enc, rfl, Lis.has hl, ?_⟩
 simp only [few17] at hK
 simp only [zz, reduceCtorEq, t66, Lis.enc, List.length_map]
 refine fun hcap => ⟨fun h => by rw [if_pos (by omega)] at hK; exact hK, fun h => ?_⟩
 rw [if_neg (by omega)] at hK
 refine loop_go l.cues (fun i l' (_ : Unit) => fewGo l') (fun i _ => [.int .i64 i]) () _ rfl 0 (fun _ _ => rfl) rfl ?_ ?_
 · intro i hi _ hgo
   simp only [fewGo] at hgo
   simp only [zz, reduceCtorEq, hi, List.length_map]
   refine ⟨by omega, denR_call few16_ok ⟨l.cues[i], hl.cues _ (List.getElem_mem hi), by simp only [zz, reduceCtorEq, getD_map hi, Cue.enc], _, rfl, ?_⟩⟩
   simp only [zz, reduceCtorEq]
   cases hf : few16 l.cues[i]
   · rw [hf] at hgo; rw [← hgo] at hK
     exact ⟨fun _ => hK, fun h => by simp at h⟩
   · rw [hf] at hgo
     exact ⟨fun h => by simp at h, fun _ => ⟨(), by rw [wr64_eq] <;> omega, hgo⟩⟩
 · intro _ hgo
   simp only [fewGo] at hgo
   simp only [zz, reduceCtorEq, List.length_map]
   rw [← hgo] at hK
   exact hK
theorem checkedL_one (l : Lis) (s : List UInt8) : checkedL l [s] = given17 l s := by
 simp only [checkedL, given17, checkedGo]
 split
 · rfl
 · split
   · rfl
   · rename_i h; exact (by simpa using h : check05 s = 0).symm
def findR (l : Lis) (s : List UInt8) : Int × Bool × Int := if given17 l s ≠ 0 then (0, false, given17 l s) else (if place l.cues s < 0 then 0 else place l.cues s, decide (0 ≤ place l.cues s), 0)
theorem findR_ok : Contract Tryz.prog 130 fun args K => ∃ (l : Lis) (s : List UInt8), l.Ok ∧ args = [.agg l.enc, .str s] ∧ K [.d (.int .i64 (findR l s).1), .d (.bool (findR l s).2.1), .d (.int .i64 (findR l s).2.2)] := by
 refine .of c130 t130_ok ?_
 rintro _ K ⟨l, s, hl, rfl, hK⟩ hsm
 refine ⟨l.enc ++ [.str s], rfl, by exact has_s hl, ?_⟩
 refine denR_call checked_ok ⟨l, [s], hl, rfl, _, rfl, ?_⟩
 simp only [findR] at hK
 simp only [zz, reduceCtorEq, Lis.enc, checkedL_one]
 refine ⟨fun h => ?_, fun h => ?_⟩
 · rw [if_pos (by simpa using h)] at hK; exact hK
 · rw [if_neg (by simpa using h)] at hK
   refine denR_call place_ok ⟨l, s, hl, rfl, _, rfl, ?_⟩
   simp only [zz, reduceCtorEq]
   exact hK
def afterR (l : Lis) (s : List UInt8) : List UInt8 × Bool × Int := if given17 l s ≠ 0 then ([], false, given17 l s) else ((pick ((names l).find? fun x => decide (0 < order05 x s))).1, (pick ((names l).find? fun x => decide (0 < order05 x s))).2, 0)
def beforeR (l : Lis) (s : List UInt8) : List UInt8 × Bool × Int := if given17 l s ≠ 0 then ([], false, given17 l s) else ((pick ((names l).reverse.find? fun x => decide (order05 x s < 0))).1, (pick ((names l).reverse.find? fun x => decide (order05 x s < 0))).2, 0)
def uses (c : Cue) (p : Int) : Bool := c.moves.any fun m => decide (0 < m.va.pal) && decide (m.va.pal = p)
def refersL (cs : List Cue) (p : Int) : List (List UInt8) := (cs.filter fun c => uses c p).map (·.num)
def refersR (l : Lis) (p : Int) : List (List UInt8) × Int := if checkL order05 l ≠ 0 then ([], checkL order05 l) else (refersL l.cues p, 0)
def usesGo (p : Int) : List Mov → Bool
 | [] => false
 | m :: ms => if 0 < m.va.pal ∧ m.va.pal = p then true else usesGo p ms
theorem str_of {d : D} (h : HasK .str d) : ∃ s, d = .str s := by cases d <;> simp [HasK] at h; exact ⟨_, rfl⟩
theorem bool_of {d : D} (h : HasK .bool d) : ∃ s, d = .bool s := by cases d <;> simp [HasK] at h; exact ⟨_, rfl⟩
theorem slice_of {X : Type} {enc : X → List D} {ks : List K} {Ok : X → Prop} (h : ∀ ds, HasKs ks ds → ∃ x, Ok x ∧ ds = enc x) {d : D} (hd : HasK (.slice ks) d) : ∃ l : List X, (∀ x ∈ l, Ok x) ∧ d = .slice (l.map enc) := by
 cases d <;> simp only [HasK] at hd
 rename_i xs
 induction xs with
 | nil => exact ⟨[], by simp, rfl⟩
 | cons x xs ih =>
   obtain ⟨y, hy, rfl⟩ := h x (hd x (by simp))
   obtain ⟨l, h1, h2⟩ := ih fun z hz => hd z (by simp [hz])
   refine ⟨y :: l, ?_, ?_⟩
   · intro z hz
     rcases List.mem_cons.1 hz with rfl | hz
     · exact hy
     · exact h1 z hz
   · have : xs = l.map enc := by simpa using h2
     rw [List.map_cons, this]
theorem Mov.of {ds : List D} (h : HasKs mvKs ds) : ∃ m : Mov, m.Ok ∧ ds = m.enc := by
 match ds, h with
 | [a, b, c, d, e], ⟨h1, h2, h3, h4, h5, _⟩ =>
   obtain ⟨a, rfl, ha⟩ := i64_of h1
   obtain ⟨b, rfl, hb⟩ := i64_of h2
   obtain ⟨c, rfl, hc⟩ := i64_of h3
   obtain ⟨d, rfl, hd⟩ := i64_of h4
   obtain ⟨e, rfl, he⟩ := i64_of h5
   exact ⟨⟨⟨a, b⟩, ⟨c, d⟩, e⟩, ⟨⟨ha, hb⟩, ⟨hc, hd⟩, he⟩, rfl⟩
theorem Tim.of {ds : List D} (h : HasKs tmKs ds) : ∃ m : Tim, m.Ok ∧ ds = m.enc := by
 match ds, h with
 | [a, b, c, d, e, f], ⟨h1, h2, h3, h4, h5, h6, _⟩ =>
   obtain ⟨a, rfl, ha⟩ := i64_of h1
   obtain ⟨b, rfl, hb⟩ := i64_of h2
   obtain ⟨c, rfl, hc⟩ := i64_of h3
   obtain ⟨d, rfl, hd⟩ := i64_of h4
   obtain ⟨e, rfl, he⟩ := i64_of h5
   obtain ⟨f, rfl, hf⟩ := i64_of h6
   exact ⟨⟨a, b, c, d, e, f⟩, ⟨ha, hb, hc, hd, he, hf⟩, rfl⟩
theorem Cue.of {ds : List D} (h : HasKs cueKs ds) : ∃ m : Cue, m.Ok ∧ ds = m.enc := by
 match ds, h with
 | [a, b, c, d, e, f, g, i, j], ⟨h1, h2, h3, h4, h5, h6, h7, h8, h9, _⟩ =>
   obtain ⟨a, rfl⟩ := str_of h1
   obtain ⟨b, rfl⟩ := str_of h2
   obtain ⟨c, hc, rfl⟩ := slice_of (fun _ => Mov.of) h3
   obtain ⟨d, hd, rfl⟩ := slice_of (fun _ => Tim.of) h4
   obtain ⟨e, rfl⟩ := bool_of h5
   obtain ⟨f, rfl⟩ := bool_of h6
   obtain ⟨g, rfl, hg⟩ := i64_of h7
   obtain ⟨i, rfl⟩ := str_of h8
   obtain ⟨j, rfl, hj⟩ := i64_of h9
   exact ⟨⟨a, b, c, d, e, f, g, i, j⟩, ⟨hc, hd, hg, hj⟩, rfl⟩
theorem Lis.of {ds : List D} (h : HasKs liKs ds) : ∃ m : Lis, m.Ok ∧ ds = m.enc := by
 match ds, h with
 | [a, b, c], ⟨h1, h2, h3, _⟩ =>
   obtain ⟨a, rfl, ha⟩ := i64_of h1
   obtain ⟨b, rfl, hb⟩ := i64_of h2
   obtain ⟨c, hc, rfl⟩ := slice_of (fun _ => Cue.of) h3
   exact ⟨⟨a, b, c⟩, ⟨ha, hb, hc⟩, rfl⟩
theorem Lis.ofAgg {d : D} (h : HasK (.agg liKs) d) : ∃ l : Lis, l.Ok ∧ d = .agg l.enc := by
 cases d <;> simp only [HasK] at h
 obtain ⟨l, h1, rfl⟩ := Lis.of h
 exact ⟨l, h1, rfl⟩
theorem Cue.ofAgg {d : D} (h : HasK (.agg cueKs) d) : ∃ l : Cue, l.Ok ∧ d = .agg l.enc := by
 cases d <;> simp only [HasK] at h
 obtain ⟨l, h1, rfl⟩ := Cue.of h
 exact ⟨l, h1, rfl⟩
noncomputable def t185 : R := .ite (.o2 .ne (.var 0) (.var 2)) (.ret [.d (.o2 (.sub .i64) (.var 0) (.var 2))]) (.ret [.d (.o2 (.sub .i64) (.var 1) (.var 3))])
theorem t185_ok : fnO Tryz.prog mdA 185 [.agg [.int .i64, .int .i64], .agg [.int .i64, .int .i64]] = t185 := by kernel_rfl
theorem c185 : callable Tryz.prog 185 = true := by kernel_rfl
noncomputable def t213 : R := .call none (.fn 185) [.lcons (.var 0) (.lcons (.var 1) .lnil), .lcons (.var 5) (.lcons (.var 6) .lnil)] [.cell (.int .i64)] (.ret [.d (.var 7)])
theorem t213_ok : fnO Tryz.prog mdA 213 [.agg [.int .i64, .int .i64, .int .i64, .int .i64, .int .i64], .agg [.int .i64, .int .i64]] = t213 := by kernel_rfl
theorem c213 : callable Tryz.prog 213 = true := by kernel_rfl
noncomputable def t166 : R := let x0 : T := .o1 (.conv .i64) (.o2 (.shr .u64) (.o1 (.conv .u64) (.o2 (.add .i64) (.var 4) (.var 5))) (.int .u64 1)); let x2 : T := .o1 .len (.var 0); let x3 : T := .o2 .lt (.var 6) (.int .i64 0); let x1 : T := .o2 .lt (.var 4) x2; .fact (.o2 .le x2 (.int .i64 140737488355328)) (.loop 0 [.int .i64 0, .o1 .len (.var 0)] [.int .i64, .int .i64] (.ite (.o2 .lt (.var 4) (.var 5)) (.need (.o2 .ge (.int .u64 1) (.int .u64 0)) (.need (.o2 .le (.int .i64 0) x0) (.need (.o2 .lt x0 x2) (.call none (.val (.var 3)) [.lcons (.idx (.var 0) x0 0 (.int .i64)) (.lcons (.idx (.var 0) x0 1 (.int .i64)) (.lcons (.idx (.var 0) x0 2 (.int .i64)) (.lcons (.idx (.var 0) x0 3 (.int .i64)) (.lcons (.idx (.var 0) x0 4 (.int .i64)) .lnil)))), .lcons (.var 1) (.lcons (.var 2) .lnil)] [.cell (.int .i64)] (.lets [.ite x3 (.o2 (.add .i64) x0 (.int .i64 1)) (.var 4), .ite x3 (.var 5) x0] (.again 0 [.var 7, .var 8])))))) (.need (.ite x1 (.o2 .le (.int .i64 0) (.var 4)) (.bool true)) (.call (some x1) (.val (.var 3)) [.lcons (.idx (.var 0) (.var 4) 0 (.int .i64)) (.lcons (.idx (.var 0) (.var 4) 1 (.int .i64)) (.lcons (.idx (.var 0) (.var 4) 2 (.int .i64)) (.lcons (.idx (.var 0) (.var 4) 3 (.int .i64)) (.lcons (.idx (.var 0) (.var 4) 4 (.int .i64)) .lnil)))), .lcons (.var 1) (.lcons (.var 2) .lnil)] [.cell (.int .i64)] (.ret [.d (.var 4), .d (.ite x1 (.o2 .eq (.var 6) (.int .i64 0)) (.bool false))])))))
theorem t166_ok : fnO Tryz.prog mdA 166 [.cell (.slice [.int .i64, .int .i64, .int .i64, .int .i64, .int .i64]), .agg [.int .i64, .int .i64], .cell .fn] = t166 := by kernel_rfl
theorem c166 : callable Tryz.prog 166 = true := by kernel_rfl
noncomputable def t188 : R := .ret [.d (.lcons (.int .i64 (-1)) (.lcons (.int .i64 0) .lnil))]
theorem t188_ok : fnO Tryz.prog mdA 188 [] = t188 := by kernel_rfl
theorem c188 : callable Tryz.prog 188 = true := by kernel_rfl
noncomputable def t187 : R := .call none (.fn 166) [.var 2, .lcons (.var 9) (.lcons (.var 10) .lnil), .fn 213] [.cell (.int .i64), .cell .bool] (.ite (.o1 .not (.var 12)) (.call none (.fn 188) [] [.agg [.int .i64, .int .i64]] (.ret [.d (.lcons (.var 13) (.lcons (.var 14) .lnil)), .d (.bool false)])) (.need (.o2 .le (.int .i64 0) (.var 11)) (.need (.o2 .lt (.var 11) (.o1 .len (.var 2))) (.ret [.d (.lcons (.idx (.var 2) (.var 11) 2 (.int .i64)) (.lcons (.idx (.var 2) (.var 11) 3 (.int .i64)) .lnil)), .d (.bool true)]))))
theorem t187_ok : fnO Tryz.prog mdA 187 [.agg [.str, .str, .slice [.int .i64, .int .i64, .int .i64, .int .i64, .int .i64], .slice [.int .i64, .int .i64, .int .i64, .int .i64, .int .i64, .int .i64], .bool, .bool, .int .i64, .str, .int .i64], .agg [.int .i64, .int .i64]] = t187 := by kernel_rfl
theorem c187 : callable Tryz.prog 187 = true := by kernel_rfl
theorem param15_ok' {p : Par} (h : param15 p = 0) : 1 ≤ p.ch ∧ p.ch ≤ 999 ∧ 0 ≤ p.at_ ∧ p.at_ < 15 := by
 unfold param15 at h
 split at h
 · cases h
 · omega
theorem Par.ext' {p q : Par} (h1 : p.ch = q.ch) (h2 : p.at_ = q.at_) : p = q := by cases p; cases q; simp_all
theorem pcmp_neg {p q : Par} (hp : param15 p = 0) (hq : param15 q = 0) : pcmp p q < 0 ↔ before15 p q = true := by
 have h1 := param15_ok' hp
 have h2 := param15_ok' hq
 simp only [pcmp, before15, Bool.or_eq_true, Bool.and_eq_true, decide_eq_true_eq]
 split <;> rw [wr64_eq (by omega)] <;> omega
theorem pcmp_zero {p q : Par} (hp : param15 p = 0) (hq : param15 q = 0) : pcmp p q = 0 ↔ p = q := by
 have h1 := param15_ok' hp
 have h2 := param15_ok' hq
 simp only [pcmp]
 constructor
 · intro h
   split at h <;> rw [wr64_eq (by omega)] at h
   · omega
   · exact Par.ext' (by omega) (by omega)
 · rintro rfl
   simp [wr64_eq]
theorem before_irr (p : Par) : before15 p p = false := by simp [before15]
theorem before_trans {p q r : Par} (h1 : before15 p q = true) (h2 : before15 q r = true) : before15 p r = true := by
 simp only [before15, Bool.or_eq_true, Bool.and_eq_true, decide_eq_true_eq] at *
 omega
theorem before_total {p q : Par} (h1 : before15 p q = false) (h2 : before15 q p = false) : p = q := by
 simp only [before15, Bool.or_eq_false_iff, Bool.and_eq_false_iff, decide_eq_false_iff_not] at *
 exact Par.ext' (by omega) (by omega)
def RisingM (ms : List Mov) : Prop := ms.Pairwise fun a b => before15 a.pa b.pa = true
theorem movesGo_zero {xs : List Mov} : ∀ (cs : List Mov) (i : Nat), cs = xs.drop i → movesGo xs i cs = 0 → (∀ c ∈ cs, param15 c.pa = 0) ∧ (∀ j, i ≤ j → 0 < j → (hj : j < xs.length) → before15 (xs[j - 1]'(by omega)).pa (xs[j]).pa = true)
 | [], i, he, _ => ⟨by simp, fun j h1 h2 h3 => by
     have := congrArg List.length he
     simp at this
     omega⟩
 | c :: cs, i, he, h => by
   have hlt : i < xs.length := by
     rcases Nat.lt_or_ge i xs.length with h | h
     · exact h
     · rw [List.drop_eq_nil_of_le h] at he; cases he
   rw [List.drop_eq_getElem_cons hlt] at he
   obtain ⟨rfl, rfl⟩ := List.cons.inj he
   simp only [movesGo] at h
   split at h
   · rename_i hc; exact absurd h hc
   rename_i hc
   have hc : param15 xs[i].pa = 0 := by simpa using hc
   split at h
   · rename_i hc; exact absurd h hc
   split at h
   · cases h
   split at h
   · cases h
   rename_i ho
   obtain ⟨g1, g2⟩ := movesGo_zero (xs.drop (i + 1)) (i + 1) rfl h
   refine ⟨fun d hd => ?_, fun j h1 h2 h3 => ?_⟩
   · rcases List.mem_cons.1 hd with rfl | hd
     · exact hc
     · exact g1 d hd
   · rcases Nat.eq_or_lt_of_le h1 with rfl | h1
     · rw [getElem!_pos xs (i - 1) (by omega)] at ho
       rcases Bool.eq_false_or_eq_true (before15 (xs[i - 1]'(by omega)).pa (xs[i]).pa) with hb | hb
       · exact hb
       · exact absurd ⟨h2, hb⟩ ho
     · exact g2 j h1 h2 h3
structure RightM (ms : List Mov) : Prop where
 par : ∀ m ∈ ms, param15 m.pa = 0
 rising : RisingM ms
 len : ms.length ≤ 128
theorem rightM_of {ms : List Mov} (h : moves16 ms = 0) : RightM ms := by
 unfold moves16 at h
 split at h
 · cases h
 · rename_i hl
   obtain ⟨g1, g2⟩ := movesGo_zero ms 0 rfl h
   refine ⟨g1, ?_, by omega⟩
   rw [RisingM, List.pairwise_iff_getElem]
   have step : ∀ (n i : Nat) (hi : i + n + 1 < ms.length), before15 (ms[i]'(by omega)).pa (ms[i + n + 1]).pa = true := by
     intro n
     induction n with
     | zero => intro i hi; exact g2 (i + 1) (Nat.zero_le _) (by omega) hi
     | succ n ih => intro i hi; exact before_trans (ih i (by omega)) (g2 (i + (n + 1) + 1) (Nat.zero_le _) (by omega) hi)
   intro i j hi hj hij
   obtain ⟨n, rfl⟩ : ∃ n, j = i + n + 1 := ⟨j - i - 1, by omega⟩
   exact step n i hj
theorem check16_moves {c : Cue} (h : check16 c = 0) : moves16 c.moves = 0 := by
 simp only [check16] at h
 split at h
 · rename_i h1; exact absurd h h1
 split at h
 · rename_i h1; exact absurd h h1
 split at h
 · rename_i h1; exact absurd h h1
 · rename_i h1; simpa using h1
theorem tcmp_ok : Contract Tryz.prog 185 fun args K => ∃ p q : Par, p.Ok ∧ q.Ok ∧ args = [.agg p.enc, .agg q.enc] ∧ K [.d (.int .i64 (pcmp p q))] := by
 refine .of c185 t185_ok ?_
 rintro _ K ⟨p, q, hp, hq, rfl, hK⟩ hsm
 refine ⟨p.enc ++ q.enc, rfl, by exact (Par.has hp).append (Par.has hq), ?_⟩
 simp only [pcmp] at hK
 simp only [zz, reduceCtorEq, t185, Par.enc]
 grind
theorem tmove1_ok : Contract Tryz.prog 213 fun args K => ∃ (m : Mov) (q : Par), m.Ok ∧ q.Ok ∧ args = [.agg m.enc, .agg q.enc] ∧ K [.d (.int .i64 (pcmp m.pa q))] := by
 refine .of c213 t213_ok ?_
 rintro _ K ⟨m, q, hm, hq, rfl, hK⟩ hsm
 refine ⟨m.enc ++ q.enc, rfl, by exact (Mov.has hm).append (Par.has hq), ?_⟩
 refine denR_call tcmp_ok ⟨m.pa, q, hm.1, hq, rfl, _, rfl, ?_⟩
 simp only [zz, reduceCtorEq, Mov.enc, Par.enc]
 exact hK
theorem thome_ok : Contract Tryz.prog 188 fun args K => args = [] ∧ K [.d (.agg (Val.enc ⟨-1, 0⟩))] := by
 refine .of c188 t188_ok ?_
 rintro _ K ⟨rfl, hK⟩ hsm
 exact ⟨[], rfl, trivial, hK⟩
def low (ms : List Mov) (p : Par) : Nat := (ms.takeWhile fun m => before15 m.pa p).length
theorem low_of {ms : List Mov} {p : Par} : ∀ {i : Nat}, i ≤ ms.length → (∀ k (hk : k < ms.length), k < i → before15 (ms[k]).pa p = true) → (∀ k (hk : k < ms.length), i ≤ k → before15 (ms[k]).pa p = false) → low ms p = i := by
 induction ms with
 | nil => intro i h _ _; simp at h; simp [low, h]
 | cons m ms ih =>
   intro i hi h1 h2
   cases i with
   | zero => have := h2 0 (by simp) (by simp); simp at this; simp [low, this]
   | succ i =>
     have h0 := h1 0 (by simp) (by omega)
     simp at h0
     have := ih (i := i) (by simpa using hi) (fun k hk hki => by have := h1 (k + 1) (by simpa using hk) (by omega); simpa using this) (fun k hk hki => by have := h2 (k + 1) (by simpa using hk) (by omega); simpa using this)
     simp only [low] at this
     simp [low, h0, this]
theorem u64_id {n : Int} (h : 0 ≤ n ∧ n ≤ 9223372036854775807) : IntKind.u64.wrap n = n :=
 wrap_id .u64 n (by simp [IntKind.min, IntKind.signed]; omega) (by simp [IntKind.max, IntKind.signed, IntKind.bits]; omega)
theorem mid_eq {lo hi : Nat} (h : lo + hi ≤ 281474976710656) : wr64 (IntKind.u64.wrap ((IntKind.u64.wrap (wr64 ((lo : Int) + hi))).fdiv (2 ^ min (Int.toNat 1) IntKind.u64.bits))) = ((lo + hi) / 2 : Nat) := by
 have e : (2 : Int) ^ min (Int.toNat 1) IntKind.u64.bits = 2 := by
   simp [IntKind.bits]
 rw [e, wr64_eq (n := (lo : Int) + hi) (by omega), u64_id (n := (lo : Int) + hi) (by omega)]
 have e2 : ((lo : Int) + hi).fdiv 2 = ((lo + hi) / 2 : Nat) := by
   rw [Int.fdiv_eq_ediv_of_nonneg _ (by omega)]; omega
 rw [e2, u64_id (by omega), wr64_eq (by omega)]
theorem denR_gfcall {P : Program} {F : Option Nat → List RV → Prop} {t : T} {s : Spec} {args : List T} {res : List RK} {r : R} {ags : Ags} {ρ : List D} {c : T} (b : Bool) (v : List D) (hb : den ρ c = .bool b)
   (h1 : b = true → FvC P (den ρ t) s ∧ s (args.map (den ρ)) fun rvs => ∃ rs, RV.all res rvs = some rs ∧ HasKs (RK.all res) rs ∧ rs = v) (h2 : b = false → Go.Sx.K.zeros (RK.all res) = v)
   (h3 : denR P F noK r ags (ρ ++ v)) : denR P F noK (.call (some c) (.val t) args res r) ags ρ :=
 ⟨fun rs => rs = v, fun h => ⟨s, h1 (by rw [hb] at h; exact D.bool.inj h)⟩, fun h => h2 (by rw [hb] at h; exact D.bool.inj h), fun rs _ h => by rw [h]; exact h3⟩
theorem bsearchG_ok : Contract Tryz.prog 166 fun args K => ∃ (ms : List Mov) (p : Par) (g : FuncId), (∀ m ∈ ms, m.Ok) ∧ p.Ok ∧ RightM ms ∧ param15 p = 0 ∧ (∀ m ∈ ms, FvC Tryz.prog (.clo g []) fun as_ K => as_ = [.agg m.enc, .agg p.enc] ∧ K [.d (.int .i64 (pcmp m.pa p))]) ∧
   args = [.slice (ms.map Mov.enc), .agg p.enc, .clo g []] ∧ K [.d (.int .i64 (low ms p)), .d (.bool (ms.any fun m => decide (m.pa = p)))] := by
 refine .of c166 t166_ok ?_
 rintro _ K ⟨ms, p, g, hms, hp, hR, hpp, hfv, rfl, hK⟩ hsm
 refine ⟨[.slice (ms.map Mov.enc)] ++ p.enc ++ [.clo g []], rfl, ?_, ?_⟩
 · exact ⟨slice_has fun m hm => Mov.has (hms m hm), i64_has hp.1, i64_has hp.2, trivial, trivial⟩
 have hlen := hR.len
 have hi64 : ∀ m ∈ ms, HasKs (RK.all [.cell (.int .i64)]) [.int .i64 (pcmp m.pa p)] := by
   intro m hm
   have h1 := param15_ok' (hR.par m hm)
   have h2 := param15_ok' hpp
   refine ⟨i64_has ?_, trivial⟩
   unfold pcmp
   split <;> rw [wr64_eq (by omega)] <;> exact ⟨by omega, by omega⟩
 simp only [zz, reduceCtorEq, t166, List.length_map, Par.enc]
 intro hcap
 rw [denR_loop]
 refine ⟨fun c ys => c = none ∧ ∃ lo hi : Nat, lo ≤ hi ∧ hi ≤ ms.length ∧ (∀ k (hk : k < ms.length), k < lo → before15 (ms[k]).pa p = true) ∧ (∀ k (hk : k < ms.length), hi ≤ k → before15 (ms[k]).pa p = false) ∧ ys = [.int .i64 lo, .int .i64 hi],
   fun ys => match ys with | [.int _ lo, .int _ hi] => (hi - lo).toNat | _ => 0, ⟨rfl, 0, ms.length, Nat.zero_le _, Nat.le_refl _, fun k hk h => by omega, fun k hk h => by omega, ?_⟩, ?_⟩
 · simp only [zz, reduceCtorEq, List.length_map]
   rfl
 rintro _ _ _ ⟨rfl, lo, hi, hlh, hhi, hlo, hhi2, rfl⟩
 have fcall : ∀ (k : Nat) (hk : k < ms.length), FvC Tryz.prog (.clo g []) fun as_ K => as_ = [.agg [.int .i64 ms[k].pa.ch, .int .i64 ms[k].pa.at_, .int .i64 ms[k].va.pal, .int .i64 ms[k].va.lev, .int .i64 ms[k].part], .agg [.int .i64 p.ch, .int .i64 p.at_]] ∧ K [.d (.int .i64 (pcmp ms[k].pa p))] :=
   fun k hk => hfv ms[k] (List.getElem_mem hk)
 rcases Nat.lt_or_ge lo hi with hlt | hge
 · obtain ⟨k, hk1, hk2, hmid⟩ : ∃ k : Nat, lo ≤ k ∧ k < hi ∧ wr64 (IntKind.u64.wrap ((IntKind.u64.wrap (wr64 ((lo : Int) + hi))).fdiv (2 ^ min (Int.toNat 1) IntKind.u64.bits))) = (k : Int) :=
     ⟨(lo + hi) / 2, by omega, by omega, mid_eq (by omega)⟩
   have hm : k < ms.length := by omega
   simp only [zz, reduceCtorEq, List.length_map, hlt, hmid]
   refine ⟨by omega, by omega, hm, denR_fcall (fcall k hm) ⟨?_, [.int .i64 (pcmp ms[k].pa p)], rfl, hi64 ms[k] (List.getElem_mem hm), ?_⟩⟩
   · simp only [zz, reduceCtorEq, hmid, getD_map hm, Mov.enc]
   · simp only [zz, reduceCtorEq, hmid]
     have hc := pcmp_neg (hR.par ms[k] (List.getElem_mem hm)) hpp
     by_cases hneg : pcmp ms[k].pa p < 0
     · simp only [zz, reduceCtorEq, hneg, wr64_eq (n := (k : Int) + 1) (by omega)]
       refine ⟨⟨rfl, k + 1, hi, by omega, hhi, fun q hq hqk => ?_, hhi2, by simp⟩, by omega⟩
       rcases Nat.lt_or_ge q k with h | h
       · exact before_trans (List.pairwise_iff_getElem.1 hR.rising q k hq hm h) (hc.1 hneg)
       · have : q = k := by omega
         subst this; exact hc.1 hneg
     · simp only [zz, reduceCtorEq, hneg]
       refine ⟨⟨rfl, lo, k, by omega, by omega, hlo, fun q hq hqk => ?_, ⟨rfl, rfl⟩⟩, by omega⟩
       rw [Bool.eq_false_iff]
       intro hb
       rcases Nat.lt_or_ge k q with h | h
       · exact hneg (hc.2 (before_trans (List.pairwise_iff_getElem.1 hR.rising k q hm hq h) hb))
       · have : q = k := by omega
         subst this; exact hneg (hc.2 hb)
 · have : lo = hi := by omega
   subst this
   have hlow := low_of (ms := ms) (p := p) hhi hlo hhi2
   simp only [zz, reduceCtorEq, List.length_map, Nat.lt_irrefl]
   have hany : ∀ (h : lo < ms.length), (ms.any fun m => decide (m.pa = p)) = decide (pcmp ms[lo].pa p = 0) := by
     intro h
     have hz := pcmp_zero (hR.par ms[lo] (List.getElem_mem h)) hpp
     rw [Bool.eq_iff_iff]
     simp only [List.any_eq_true, decide_eq_true_eq, hz]
     refine ⟨fun ⟨m, hm, he⟩ => ?_, fun he => ⟨ms[lo], List.getElem_mem h, he⟩⟩
     obtain ⟨q, hq, rfl⟩ := List.getElem_of_mem hm
     rcases Nat.lt_trichotomy q lo with h1 | h1 | h1
     · have := hlo q hq h1
       rw [he, before_irr] at this; cases this
     · subst h1; exact he
     · have h2 := List.pairwise_iff_getElem.1 hR.rising lo q h hq h1
       have h3 := hhi2 lo h (Nat.le_refl _)
       rw [he] at h2; rw [h2] at h3; cases h3
   have hnone : ms.length ≤ lo → (ms.any fun m => decide (m.pa = p)) = false := by
     intro h
     rw [List.any_eq_false]
     intro m hm he
     obtain ⟨q, hq, rfl⟩ := List.getElem_of_mem hm
     have := hlo q hq (by omega)
     simp only [decide_eq_true_eq] at he
     rw [he, before_irr] at this; cases this
   refine ⟨by split <;> simp, ?_⟩
   rcases Nat.lt_or_ge lo ms.length with h | h
   · refine denR_gfcall (s := _) true [.int .i64 (pcmp ms[lo].pa p)] (by simp only [zz, reduceCtorEq, List.length_map, h]) (fun _ => ⟨fcall lo h, ?_, [.int .i64 (pcmp ms[lo].pa p)], rfl, hi64 ms[lo] (List.getElem_mem h), rfl⟩) (fun e => by cases e) ?_
     · simp only [zz, reduceCtorEq, getD_map h, Mov.enc]
     · rw [hany h, hlow] at hK
       simp only [zz, reduceCtorEq, List.length_map, h]
       simpa using hK
   · have hn : ¬ lo < ms.length := by omega
     refine denR_gfcall (s := fun _ _ => True) false [.int .i64 0] (by simp only [zz, reduceCtorEq, List.length_map, hn]) (fun e => by cases e) (fun _ => rfl) ?_
     rw [hnone h, hlow] at hK
     simp only [zz, reduceCtorEq, List.length_map, hn]
     exact hK
theorem tmove1_fv {m : Mov} {p : Par} (hm : m.Ok) (hp : p.Ok) : FvC Tryz.prog (.clo 213 []) fun as_ K => as_ = [.agg m.enc, .agg p.enc] ∧ K [.d (.int .i64 (pcmp m.pa p))] := by
 refine FvC.of c213 tmove1_ok ?_
 rintro _ K ⟨rfl, hK⟩
 refine ⟨⟨m, p, hm, hp, rfl, hK⟩, argsTyped_of [some (.agg mvKs), some (.agg paKs)] (by kernel_rfl) ?_⟩
 intro i rk d h1 h2
 match i, h1, h2 with
 | 0, h1, h2 => simp at h1 h2; subst h1 h2; exact Mov.has hm
 | 1, h1, h2 => simp at h1 h2; subst h1 h2; exact Par.has hp
theorem bsearch_ok : Contract Tryz.prog 166 fun args K => ∃ (ms : List Mov) (p : Par), (∀ m ∈ ms, m.Ok) ∧ p.Ok ∧ RightM ms ∧ param15 p = 0 ∧ args = [.slice (ms.map Mov.enc), .agg p.enc, .clo 213 []] ∧ K [.d (.int .i64 (low ms p)), .d (.bool (ms.any fun m => decide (m.pa = p)))] :=
 bsearchG_ok.weaken fun args K _ ⟨ms, p, hms, hp, hR, hpp, e, hK⟩ => ⟨ms, p, 213, hms, hp, hR, hpp, fun m hm => tmove1_fv (hms m hm) hp, e, hK⟩
def mfind (ms : List Mov) (p : Par) : Option Mov := ms.find? fun m => decide (m.pa = p)
def hval : Val := ⟨-1, 0⟩
theorem any_mfind (ms : List Mov) (p : Par) : (ms.any fun m => decide (m.pa = p)) = (mfind ms p).isSome := by
 rw [Bool.eq_iff_iff, mfind, List.find?_isSome]; simp
theorem low_mfind {ms : List Mov} {p : Par} (hR : RightM ms) {m : Mov} (h : mfind ms p = some m) : ∃ hl : low ms p < ms.length, ms[low ms p] = m := by
 obtain ⟨h1, i, hi, h2, h3⟩ := List.find?_eq_some_iff_getElem.1 h
 simp only [decide_eq_true_eq] at h1
 have hlow : low ms p = i := by
   refine low_of (Nat.le_of_lt hi) (fun k hk hki => ?_) (fun k hk hik => ?_)
   · rw [← h1, ← h2]; exact List.pairwise_iff_getElem.1 hR.rising k i hk hi hki
   · rw [Bool.eq_false_iff]
     intro hb
     rcases Nat.lt_or_ge i k with h | h
     · have := before_trans (List.pairwise_iff_getElem.1 hR.rising i k hi hk h) hb
       rw [h2, h1, before_irr] at this; cases this
     · have : i = k := by omega
       subst this
       rw [h2, h1, before_irr] at hb; cases hb
 exact ⟨by omega, by simp only [hlow]; exact h2⟩
theorem tmove_ok : Contract Tryz.prog 187 fun args K => ∃ (c : Cue) (p : Par), c.Ok ∧ p.Ok ∧ RightM c.moves ∧ param15 p = 0 ∧ args = [.agg c.enc, .agg p.enc] ∧
   K [.d (.agg (((mfind c.moves p).map (·.va)).getD hval).enc), .d (.bool (mfind c.moves p).isSome)] := by
 refine .of c187 t187_ok ?_
 rintro _ K ⟨c, p, hc, hp, hR, hpp, rfl, hK⟩ hsm
 refine ⟨c.enc ++ p.enc, rfl, by exact (Cue.has hc).append (Par.has hp), ?_⟩
 refine denR_call bsearch_ok ⟨c.moves, p, hc.moves, hp, hR, hpp, ?_, _, rfl, ?_⟩
 · simp only [zz, reduceCtorEq, Cue.enc, Par.enc]
 rw [any_mfind]
 cases hf : mfind c.moves p with
 | none =>
   rw [hf] at hK
   simp only [zz, reduceCtorEq, Cue.enc, Par.enc, Option.isSome_none]
   refine denR_call thome_ok ⟨rfl, _, rfl, ?_⟩
   simp only [zz, reduceCtorEq, Val.enc]
   exact hK
 | some m =>
   rw [hf] at hK
   obtain ⟨hl, hm⟩ := low_mfind hR hf
   simp only [zz, reduceCtorEq, Cue.enc, Par.enc, Option.isSome_some, List.length_map, hl, getD_map hl, hm, Mov.enc]
   exact ⟨by omega, hK⟩
noncomputable def t212 : R := let x1 : List K := [.int .i64, .int .i64, .int .i64, .int .i64, .int .i64, .int .i64]; let x2 : List K := [.int .i64, .int .i64, .int .i64, .int .i64, .int .i64]; let x0 : T := .fld (.padd (.var 1) 2) 0 (.slice [.str, .str, .slice x2, .slice x1, .bool, .bool, .int .i64, .str, .int .i64]); .loop 0 [.fld (.var 0) 0 (.int .i64)] [.int .i64] (.ite (.o2 .ge (.var 2) (.int .i64 0)) (.need (.o2 .le (.int .i64 0) (.var 2)) (.need (.o2 .lt (.var 2) (.o1 .len x0)) (.yield [.lcons (.idx x0 (.var 2) 0 .str) (.lcons (.idx x0 (.var 2) 1 .str) (.lcons (.idx x0 (.var 2) 2 (.slice x2)) (.lcons (.idx x0 (.var 2) 3 (.slice x1)) (.lcons (.idx x0 (.var 2) 4 .bool) (.lcons (.idx x0 (.var 2) 5 .bool) (.lcons (.idx x0 (.var 2) 6 (.int .i64)) (.lcons (.idx x0 (.var 2) 7 .str) (.lcons (.idx x0 (.var 2) 8 (.int .i64)) .lnil))))))))] (.ite (.ite (.o1 .not (.var 3)) (.bool true) (.idx x0 (.var 2) 4 .bool)) (.ret []) (.again 0 [.o2 (.sub .i64) (.var 2) (.int .i64 1)]))))) (.ret []))
theorem t212_ok : fnItO Tryz.prog mdA 212 [.cell (.ptr [.int .i64]), .cell (.ptr liKs)] = t212 := by kernel_rfl
theorem c212 : callable Tryz.prog 212 = true := by kernel_rfl
noncomputable def t186 : R := .ret [.d (.clo 212 (.lcons (.ptr (.lcons (.var 3) .lnil)) (.lcons (.ptr (.lcons (.var 0) (.lcons (.var 1) (.lcons (.var 2) .lnil)))) .lnil)))]
theorem t186_ok : fnO Tryz.prog mdA 186 [.agg [.int .i64, .int .i64, .slice [.str, .str, .slice [.int .i64, .int .i64, .int .i64, .int .i64, .int .i64], .slice [.int .i64, .int .i64, .int .i64, .int .i64, .int .i64, .int .i64], .bool, .bool, .int .i64, .str, .int .i64]], .cell (.int .i64)] = t186 := by kernel_rfl
theorem c186 : callable Tryz.prog 186 = true := by kernel_rfl
noncomputable def t132 : R := .call none (.fn 186) [.lcons (.var 0) (.lcons (.var 1) (.lcons (.var 2) .lnil)), .var 3] [.cell .fn] (.iter 0 (.var 6) [] [] [.agg [.str, .str, .slice [.int .i64, .int .i64, .int .i64, .int .i64, .int .i64], .slice [.int .i64, .int .i64, .int .i64, .int .i64, .int .i64, .int .i64], .bool, .bool, .int .i64, .str, .int .i64]] (.call none (.fn 187) [.lcons (.var 7) (.lcons (.var 8) (.lcons (.var 9) (.lcons (.var 10) (.lcons (.var 11) (.lcons (.var 12) (.lcons (.var 13) (.lcons (.var 14) (.lcons (.var 15) .lnil)))))))), .lcons (.var 4) (.lcons (.var 5) .lnil)] [.agg [.int .i64, .int .i64], .cell .bool] (.ite (.var 18) (.ret [.d (.lcons (.var 16) (.lcons (.var 17) .lnil))]) (.again 0 []))) (.call none (.fn 188) [] [.agg [.int .i64, .int .i64]] (.ret [.d (.lcons (.var 7) (.lcons (.var 8) .lnil))])))
theorem t132_ok : fnO Tryz.prog mdA 132 [.agg [.int .i64, .int .i64, .slice [.str, .str, .slice [.int .i64, .int .i64, .int .i64, .int .i64, .int .i64], .slice [.int .i64, .int .i64, .int .i64, .int .i64, .int .i64, .int .i64], .bool, .bool, .int .i64, .str, .int .i64]], .cell (.int .i64), .agg [.int .i64, .int .i64]] = t132 := by kernel_rfl
theorem c132 : callable Tryz.prog 132 = true := by kernel_rfl
noncomputable def t87 : R := .call none (.fn 130) [.lcons (.var 0) (.lcons (.var 1) (.lcons (.var 2) .lnil)), .var 3] [.cell (.int .i64), .cell .bool, .cell (.int .i64)] (.ite (.o2 .ne (.var 6) (.int .i64 0)) (.ret [.d (.int .i64 0), .d (.var 6)]) (.ite (.o1 .not (.var 5)) (.ret [.d (.int .i64 0), .d (.int .i64 6)]) (.ret [.d (.var 4), .d (.int .i64 0)])))
theorem t87_ok : fnO Tryz.prog mdA 87 [.agg [.int .i64, .int .i64, .slice [.str, .str, .slice [.int .i64, .int .i64, .int .i64, .int .i64, .int .i64], .slice [.int .i64, .int .i64, .int .i64, .int .i64, .int .i64, .int .i64], .bool, .bool, .int .i64, .str, .int .i64]], .cell .str] = t87 := by kernel_rfl
theorem c87 : callable Tryz.prog 87 = true := by kernel_rfl
theorem i64_one {v : Int} (h : I64 v) : HasKs [.int .i64] [.int .i64 v] := ⟨i64_has h, trivial⟩
def backL (cs : List Cue) : Nat → List Cue
 | 0 => []
 | n + 1 => match cs[n]? with
   | none => []
   | some c => c :: if c.block then [] else backL cs n
theorem backL_mem {cs : List Cue} : ∀ {n : Nat} {c : Cue}, c ∈ backL cs n → c ∈ cs
 | 0, c, h => by simp [backL] at h
 | n + 1, c, h => by
   simp only [backL] at h
   cases hc : cs[n]? with
   | none => rw [hc] at h; simp at h
   | some d =>
     rw [hc] at h
     simp only [List.mem_cons] at h
     rcases h with rfl | h
     · exact List.mem_of_getElem? hc
     · split at h
       · simp at h
       · exact backL_mem h
structure RightT (l : Lis) : Prop where
 ok : l.Ok
 len : l.cues.length ≤ 64
 moves : ∀ c ∈ l.cues, RightM c.moves
theorem rightT_of {l : Lis} (hl : l.Ok) (h : checkL order05 l = 0) : RightT l :=
 have hR := rightL_of h
 ⟨hl, hR.len, fun c hc => rightM_of (check16_moves (hR.cues c hc))⟩
theorem back_it {l : Lis} (hR : RightT l) {n : Nat} (hn : n ≤ l.cues.length) : IterC Tryz.prog (.clo 212 [.ptr [.int .i64 ((n : Int) - 1)], .ptr l.enc]) ((backL l.cues n).map fun c => [D.agg c.enc]) := by
 have hlen := hR.len
 refine IterC.of c212 t212_ok (ρ := [.ptr [.int .i64 ((n : Int) - 1)], .ptr l.enc]) rfl ⟨⟨i64_has ⟨by omega, by omega⟩, trivial⟩, Lis.has hR.ok, trivial⟩ ?_
 simp only [zz, reduceCtorEq, t212, Lis.enc, List.length_map, D.cells, D.padd, D.cell, List.drop_zero, List.drop_succ_cons]
 simp only [denR]
 refine ⟨fun c ys => ∃ k i : Nat, k ≤ n ∧ ys = [.int .i64 ((k : Int) - 1)] ∧ c = some i ∧ i ≤ (backL l.cues n).length ∧ (backL l.cues n).drop i = backL l.cues k,
   fun ys => match ys with | [.int _ v] => (v + 1).toNat | _ => 0, ⟨n, 0, Nat.le_refl _, by simp only [zz, reduceCtorEq], rfl, Nat.zero_le _, rfl⟩, ?_⟩
 rintro _ _ _ ⟨k, i, hk, rfl, rfl, hi, hdrop⟩
 simp only [zz, reduceCtorEq, List.length_map, D.cells, D.padd, D.cell, List.drop_zero, List.drop_succ_cons]
 cases k with
 | zero =>
   refine ⟨fun h => by omega, fun _ => .inr ?_⟩
   simp only [backL, List.drop_eq_nil_iff] at hdrop
   simp only [Ags.wc, setAg, List.length_map]
   congr 1; omega
 | succ k =>
   have hkl : k < l.cues.length := by omega
   have e1 : (((k + 1 : Nat) : Int) - 1) = (k : Int) := by omega
   have e2 : ((k : Int)).toNat = k := by omega
   have hb : backL l.cues (k + 1) = l.cues[k] :: if l.cues[k].block then [] else backL l.cues k := by simp [backL, hkl]
   rw [hb] at hdrop
   have hilt : i < (backL l.cues n).length := by
     rcases Nat.lt_or_ge i (backL l.cues n).length with h | h
     · exact h
     · rw [List.drop_eq_nil_of_le h] at hdrop; cases hdrop
   have hget : (backL l.cues n)[i]? = some l.cues[k] := by
     have := congrArg List.head? hdrop
     rw [List.head?_drop] at this
     simpa using this
   have hnext : (backL l.cues n).drop (i + 1) = if l.cues[k].block then [] else backL l.cues k := by
     have := congrArg List.tail hdrop
     rw [List.tail_drop] at this
     simpa using this
   rw [e1]
   refine ⟨fun _ => ⟨by omega, by omega, i, rfl, ?_, ?_⟩, fun h => by omega⟩
   · simp only [Ags.wc, setAg]
     simp only [zz, reduceCtorEq, getD_map hkl, Cue.enc, List.length_map, List.getElem?_map, D.list, hget, Option.map_some]
   · rintro (_ | _) _
     · simp only [zz, reduceCtorEq]
       exact .inl rfl
     · simp only [zz, reduceCtorEq, getD_map hkl, Cue.enc]
       by_cases hbl : l.cues[k].block = true
       · rw [hbl] at hnext
         simp only [if_true, List.drop_eq_nil_iff] at hnext
         simp only [zz, reduceCtorEq, hbl]
         refine .inr ?_
         simp only [Ags.wc, setAg, List.length_map]
         congr 1; omega
       · have hbl : l.cues[k].block = false := by simpa using hbl
         rw [hbl] at hnext
         simp only [Bool.false_eq_true, if_false] at hnext
         simp only [zz, reduceCtorEq, hbl]
         refine ⟨⟨k, i + 1, by omega, by rw [wr64_eq (by omega)], rfl, by omega, hnext⟩, ?_⟩
         rw [wr64_eq (by omega)]
         show ((k : Int) - 1 + 1).toNat < ((k : Int) + 1).toNat
         omega
theorem back_ok : Contract Tryz.prog 186 fun args K => ∃ (l : Lis) (v : Int), l.Ok ∧ I64 v ∧ args = [.agg l.enc, .int .i64 v] ∧ K [.d (.clo 212 [.ptr [.int .i64 v], .ptr l.enc])] := by
 refine .of c186 t186_ok ?_
 rintro _ K ⟨l, v, hl, hv, rfl, hK⟩ hsm
 refine ⟨l.enc ++ [.int .i64 v], rfl, by exact (Lis.has hl).append ⟨i64_has hv, trivial⟩, ?_⟩
 simp only [zz, reduceCtorEq, t186, Lis.enc, D.list]
 exact hK
def lastM (cs : List Cue) (p : Par) (n : Nat) : Option Mov := (backL cs n).findSome? fun c => mfind c.moves p
def valued (cs : List Cue) (p : Par) (n : Nat) : Val := ((lastM cs p n).map (·.va)).getD hval
theorem cueHas {l : Lis} (hR : RightT l) {n : Nat} : ∀ x ∈ (backL l.cues n).map (fun c => [D.agg c.enc]), ∃ fx, pkRho [.agg cueKs] x = some fx ∧ HasKs (pkKinds [.agg cueKs]) fx := by
 intro x hx
 obtain ⟨c, hc, rfl⟩ := List.mem_map.1 hx
 exact ⟨c.enc, rfl, Cue.has (hR.ok.cues c (backL_mem hc))⟩
theorem back_at {l : Lis} {n i : Nat} {x : List D} (h : ((backL l.cues n).map fun c => [D.agg c.enc])[i]? = some x) : ∃ c, (backL l.cues n)[i]? = some c ∧ x = [.agg c.enc] := by
 simp only [List.getElem?_map, Option.map_eq_some_iff] at h
 obtain ⟨c, h1, rfl⟩ := h
 exact ⟨c, h1, rfl⟩
theorem tvalue_ok : Contract Tryz.prog 132 fun args K => ∃ (l : Lis) (n : Nat) (p : Par), RightT l ∧ n ≤ l.cues.length ∧ p.Ok ∧ param15 p = 0 ∧ args = [.agg l.enc, .int .i64 ((n : Int) - 1), .agg p.enc] ∧
   K [.d (.agg (valued l.cues p n).enc)] := by
 refine .of c132 t132_ok ?_
 rintro _ K ⟨l, n, p, hR, hn, hp, hpp, rfl, hK⟩ hsm
 have hlen := hR.len
 have h64 : I64 ((n : Int) - 1) := ⟨by omega, by omega⟩
 refine ⟨l.enc ++ [.int .i64 ((n : Int) - 1)] ++ p.enc, rfl, by exact (show HasKs ((liKs ++ [.int .i64]) ++ paKs) _ from ((Lis.has hR.ok).append (i64_one h64)).append (Par.has hp)), ?_⟩
 refine denR_call back_ok ⟨l, (n : Int) - 1, hR.ok, h64, by simp only [zz, reduceCtorEq, Lis.enc, Par.enc], _, rfl, ?_⟩
 refine denR_iter ?_
 refine ⟨(backL l.cues n).map fun c => [D.agg c.enc], by simpa [den, Lis.enc, Par.enc] using back_it hR hn, cueHas hR, fun i c ys => ys = [] ∧ ((backL l.cues n).drop i).findSome? (fun c => mfind c.moves p) = lastM l.cues p n, ⟨rfl, rfl⟩, ?_, ?_⟩
 · rintro i x fx c ys hx hfx _ _ ⟨rfl, hgo⟩
   obtain ⟨d, hd, rfl⟩ := back_at hx
   cases hfx
   have hi := (List.getElem?_eq_some_iff.1 hd).1
   have es : (backL l.cues n)[i] = d := (List.getElem?_eq_some_iff.1 hd).2
   have hdm : d ∈ l.cues := backL_mem (es ▸ List.getElem_mem hi)
   rw [List.drop_eq_getElem_cons hi, es, List.findSome?_cons] at hgo
   refine denR_call tmove_ok ⟨d, p, hR.ok.cues d hdm, hp, hR.moves d hdm, hpp, by simp only [zz, reduceCtorEq, Lis.enc, Par.enc, Cue.enc], _, rfl, ?_⟩
   cases hf : mfind d.moves p with
   | none =>
     rw [hf] at hgo
     simp only [zz, reduceCtorEq, Lis.enc, Par.enc, Cue.enc, Val.enc, Option.isSome_none]
     exact hgo
   | some m =>
     rw [hf] at hgo
     simp only at hgo
     simp only [zz, reduceCtorEq, Lis.enc, Par.enc, Cue.enc, Val.enc, Option.isSome_some]
     unfold valued at hK
     rw [← hgo] at hK
     exact hK
 · rintro c ys _ ⟨rfl, hgo⟩
   simp only [List.length_map, List.drop_length, List.findSome?_nil] at hgo
   refine denR_call thome_ok ⟨rfl, _, rfl, ?_⟩
   simp only [zz, reduceCtorEq, Lis.enc, Par.enc, Val.enc]
   unfold valued at hK
   rw [← hgo] at hK
   exact hK
def numbered18 (l : Lis) (s : List UInt8) : Int := if check05 s ≠ 0 then check05 s else if place l.cues s < 0 then 6 else 0
def cue18 (l : Lis) (s : List UInt8) : Int := if checkL order05 l ≠ 0 then checkL order05 l else numbered18 l s
def upto (l : Lis) (s : List UInt8) : Nat := (place l.cues s + 1).toNat
theorem place_ge (cs : List Cue) (s : List UInt8) : -1 ≤ place cs s ∧ place cs s < cs.length ∨ place cs s = -1 := by
 by_cases h : place cs s < 0
 · unfold place at h ⊢
   rcases idxGo_spec (fun c : Cue => c.num == s) cs 0 with ⟨h1, h2⟩ | ⟨j, hj, h1, h2, h3⟩
   · exact .inr h1
   · rw [h1] at h; omega
 · obtain ⟨j, hj, h1, _⟩ := place_pos h
   exact .inl ⟨by omega, by omega⟩
theorem numbered18_zero {l : Lis} {s : List UInt8} (h : numbered18 l s = 0) : check05 s = 0 ∧ 0 ≤ place l.cues s := by
 unfold numbered18 at h
 split at h
 · contradiction
 split at h
 · cases h
 · exact ⟨by simp_all, by omega⟩
theorem upto_le (l : Lis) (s : List UInt8) : upto l s ≤ l.cues.length := by
 unfold upto
 rcases place_ge l.cues s with h | h
 · omega
 · rw [h]; omega
theorem upto_place {l : Lis} {s : List UInt8} (h : 0 ≤ place l.cues s) : place l.cues s = (upto l s : Int) - 1 ∧ 0 < upto l s := by
 unfold upto; omega
theorem tplace_ok : Contract Tryz.prog 87 fun args K => ∃ (l : Lis) (s : List UInt8), l.Ok ∧ args = [.agg l.enc, .str s] ∧ K [.d (.int .i64 (if cue18 l s ≠ 0 then 0 else place l.cues s)), .d (.int .i64 (cue18 l s))] := by
 refine .of c87 t87_ok ?_
 rintro _ K ⟨l, s, hl, rfl, hK⟩ hsm
 refine ⟨l.enc ++ [.str s], rfl, by exact has_s hl, ?_⟩
 refine denR_call findR_ok ⟨l, s, hl, by simp only [zz, reduceCtorEq, Lis.enc], _, rfl, ?_⟩
 simp only [zz, reduceCtorEq, Lis.enc]
 by_cases h1 : checkL order05 l = 0
 · by_cases h2 : check05 s = 0
   · have e : findR l s = (if place l.cues s < 0 then 0 else place l.cues s, decide (0 ≤ place l.cues s), 0) := by simp [findR, given17, h1, h2]
     rw [e]
     by_cases h3 : place l.cues s < 0
     · have e2 : cue18 l s = 6 := by simp [cue18, numbered18, h1, h2, h3]
       rw [e2] at hK
       have h4 : ¬ 0 ≤ place l.cues s := by omega
       simp only [zz, reduceCtorEq, h3, h4]
       simpa using hK
     · have e2 : cue18 l s = 0 := by simp [cue18, numbered18, h1, h2, h3]
       rw [e2] at hK
       have h4 : 0 ≤ place l.cues s := by omega
       simp only [zz, reduceCtorEq, h3, h4]
       simpa using hK
   · have e : findR l s = (0, false, check05 s) := by simp [findR, given17, h1, h2]
     have e2 : cue18 l s = check05 s := by simp [cue18, numbered18, h1, h2]
     rw [e2] at hK
     rw [e]
     simp only [zz, reduceCtorEq]
     exact ⟨fun _ => by simpa [h2] using hK, fun h => by simp [h2] at h⟩
 · have e : findR l s = (0, false, checkL order05 l) := by simp [findR, given17, h1]
   have e2 : cue18 l s = checkL order05 l := by simp [cue18, h1]
   rw [e2] at hK
   rw [e]
   simp only [zz, reduceCtorEq]
   exact ⟨fun _ => by simpa [h1] using hK, fun h => by simp [h1] at h⟩
noncomputable def t118 : R := .ret [.d (.lcons (.int .i64 (-1)) (.lcons (.int .i64 0) .lnil))]
theorem t118_ok : fnO Tryz.prog mdA 118 [] = t118 := by kernel_rfl
theorem c118 : callable Tryz.prog 118 = true := by kernel_rfl
def moved? (p : Par) (c : Cue) : Bool := (mfind c.moves p).isSome
def origR (l : Lis) (s : List UInt8) (p : Par) : List UInt8 × Bool × Int :=
 if cue18 l s ≠ 0 then ([], false, cue18 l s) else if param15 p ≠ 0 then ([], false, param15 p) else
 match (backL l.cues (upto l s)).find? (moved? p) with
 | some c => (c.num, true, 0)
 | none => ([], false, 0)
theorem cue18_right {l : Lis} {s : List UInt8} (hl : l.Ok) (h : cue18 l s = 0) : RightT l ∧ check05 s = 0 ∧ 0 ≤ place l.cues s ∧ place l.cues s = (upto l s : Int) - 1 ∧ 0 < upto l s ∧ upto l s ≤ l.cues.length := by
 unfold cue18 at h
 split at h
 · contradiction
 rename_i h1
 obtain ⟨h2, h3⟩ := numbered18_zero h
 exact ⟨rightT_of hl (by simpa using h1), h2, h3, (upto_place h3).1, (upto_place h3).2, upto_le l s⟩
def mplace (ms : List Mov) (p : Par) : Int := idxGo (fun m => decide (m.pa = p)) 0 ms
def src (cs : List Cue) (p : Par) : Nat → Int
 | 0 => -1
 | n + 1 => match cs[n]? with
   | none => -1
   | some c => if moved? p c then n else if c.block then -1 else src cs p n
theorem home15_ok : Contract Tryz.prog 118 fun args K => args = [] ∧ K [.d (.agg hval.enc)] := by
 refine .of c118 t118_ok ?_
 rintro _ K ⟨rfl, hK⟩ hsm
 exact ⟨[], rfl, trivial, hK⟩
def putP : List Par → Par → List Par
 | [], p => [p]
 | q :: l, p => if q = p then q :: l else if before15 p q then p :: q :: l else q :: putP l p
def RisingP (l : List Par) : Prop := l.Pairwise fun a b => before15 a b = true
theorem mem_putP {p x : Par} : ∀ {l : List Par}, x ∈ putP l p ↔ x = p ∨ x ∈ l
 | [] => by simp [putP]
 | q :: l => by
   simp only [putP]
   split
   · rename_i h; subst h
     simp
   split
   · simp
   · simp only [List.mem_cons, mem_putP (l := l)]
     constructor
     · rintro (h | h | h) <;> simp [h]
     · rintro (h | h | h) <;> simp [h]
theorem rising_putP {p : Par} : ∀ {l : List Par}, RisingP l → RisingP (putP l p)
 | [], _ => by simp [putP, RisingP]
 | q :: l, h => by
   have h' := List.pairwise_cons.1 h
   simp only [putP]
   split
   · exact h
   rename_i hne
   split
   · rename_i hb
     refine List.pairwise_cons.2 ⟨fun x hx => ?_, h⟩
     rcases List.mem_cons.1 hx with rfl | hx
     · exact hb
     · exact before_trans hb (h'.1 x hx)
   · rename_i hb
     refine List.pairwise_cons.2 ⟨fun x hx => ?_, rising_putP h'.2⟩
     rcases mem_putP.1 hx with rfl | hx
     · rcases hq : before15 q x with _ | _
       · exact absurd (before_total hq (by simpa using hb)) hne
       · rfl
     · exact h'.1 x hx
theorem length_putP {p : Par} : ∀ {l : List Par}, (putP l p).length ≤ l.length + 1
 | [] => by simp [putP]
 | q :: l => by
   simp only [putP]
   split
   · simp
   split
   · simp
   · have := length_putP (p := p) (l := l)
     simp only [List.length_cons]; omega
theorem rising_ext : ∀ {a b : List Par}, RisingP a → RisingP b → (∀ x, x ∈ a ↔ x ∈ b) → a = b
 | [], [], _, _, _ => rfl
 | [], y :: b, _, _, h => by have := (h y).2 (by simp); simp at this
 | x :: a, [], _, _, h => by have := (h x).1 (by simp); simp at this
 | x :: a, y :: b, ha, hb, h => by
   have ha' := List.pairwise_cons.1 ha
   have hb' := List.pairwise_cons.1 hb
   have e : x = y := by
     rcases List.mem_cons.1 ((h x).1 (by simp)) with h1 | h1
     · exact h1
     rcases List.mem_cons.1 ((h y).2 (by simp)) with h2 | h2
     · exact h2.symm
     have := before_trans (hb'.1 x h1) (ha'.1 y h2)
     rw [before_irr] at this; cases this
   subst e
   congr 1
   refine rising_ext ha'.2 hb'.2 fun z => ⟨fun hz => ?_, fun hz => ?_⟩
   · rcases List.mem_cons.1 ((h z).1 (List.mem_cons_of_mem _ hz)) with h1 | h1
     · subst h1
       have := ha'.1 z hz
       rw [before_irr] at this; cases this
     · exact h1
   · rcases List.mem_cons.1 ((h z).2 (List.mem_cons_of_mem _ hz)) with h1 | h1
     · subst h1
       have := hb'.1 z hz
       rw [before_irr] at this; cases this
     · exact h1
def pars (cs : List Cue) : List Par := cs.flatMap fun c => c.moves.map (·.pa)
def putAll (a : List Par) (ps : List Par) : List Par := ps.foldl putP a
def movedL (cs : List Cue) : List Par := putAll [] (pars cs)
def footP (a : List Par) (p : Par) : List Par := if p ∈ a then a else a ++ [p]
def footAll (a : List Par) (ps : List Par) : List Par := ps.foldl footP a
def footL (cs : List Cue) : List Par := footAll [] (pars cs)
theorem mem_putAll {x : Par} : ∀ {ps a : List Par}, x ∈ putAll a ps ↔ x ∈ a ∨ x ∈ ps
 | [], a => by simp [putAll]
 | p :: ps, a => by
   have := mem_putAll (x := x) (ps := ps) (a := putP a p)
   simp only [putAll, List.foldl_cons] at this ⊢
   rw [this, mem_putP]
   simp only [List.mem_cons]
   constructor
   · rintro ((h | h) | h) <;> simp [h]
   · rintro (h | h | h) <;> simp [h]
theorem rising_putAll : ∀ {ps a : List Par}, RisingP a → RisingP (putAll a ps)
 | [], _, h => h
 | p :: ps, a, h => rising_putAll (ps := ps) (rising_putP h)
theorem length_putAll : ∀ {ps a : List Par}, (putAll a ps).length ≤ a.length + ps.length
 | [], a => by simp [putAll]
 | p :: ps, a => by
   have h1 := length_putAll (ps := ps) (a := putP a p)
   have h2 := length_putP (p := p) (l := a)
   simp only [putAll, List.foldl_cons, List.length_cons] at h1 ⊢
   omega
theorem mem_footP {a : List Par} {p x : Par} : x ∈ footP a p ↔ x ∈ a ∨ x = p := by
 unfold footP
 split
 · rename_i h
   exact ⟨.inl, fun h' => h'.elim id fun e => e ▸ h⟩
 · simp
theorem mem_footAll {x : Par} : ∀ {ps a : List Par}, x ∈ footAll a ps ↔ x ∈ a ∨ x ∈ ps
 | [], a => by simp [footAll]
 | p :: ps, a => by
   have := mem_footAll (x := x) (ps := ps) (a := footP a p)
   simp only [footAll, List.foldl_cons] at this ⊢
   rw [this, mem_footP]
   simp only [List.mem_cons]
   constructor
   · rintro ((h | h) | h) <;> simp [h]
   · rintro (h | h | h) <;> simp [h]
theorem nodup_footP {a : List Par} {p : Par} (h : a.Nodup) : (footP a p).Nodup := by
 unfold footP
 split
 · exact h
 · rename_i hp
   rw [List.nodup_append]
   refine ⟨h, by simp, fun x hx y hy e => ?_⟩
   simp at hy; subst hy e; exact hp hx
theorem nodup_footAll : ∀ {ps a : List Par}, a.Nodup → (footAll a ps).Nodup
 | [], _, h => h
 | p :: ps, a, h => nodup_footAll (ps := ps) (nodup_footP h)
theorem length_footP {a : List Par} {p : Par} : (footP a p).length ≤ a.length + 1 := by
 unfold footP; split <;> simp
theorem mem_movedL {cs : List Cue} {x : Par} : x ∈ movedL cs ↔ x ∈ pars cs := by simp [movedL, mem_putAll]
theorem mem_footL {cs : List Cue} {x : Par} : x ∈ footL cs ↔ x ∈ pars cs := by simp [footL, mem_footAll]
theorem rising_movedL (cs : List Cue) : RisingP (movedL cs) := rising_putAll (by simp [RisingP])
theorem pars_len {cs : List Cue} (h : ∀ c ∈ cs, c.moves.length ≤ 128) : (pars cs).length ≤ 128 * cs.length := by
 induction cs with
 | nil => simp [pars]
 | cons c cs ih =>
   have h1 := h c (by simp)
   have h2 := ih fun d hd => h d (List.mem_cons_of_mem _ hd)
   simp only [pars, List.flatMap_cons, List.length_append, List.length_map, List.length_cons] at h2 ⊢
   omega
theorem pars_ok {l : Lis} (hR : RightT l) : ∀ p ∈ pars l.cues, p.Ok ∧ param15 p = 0 := by
 intro p hp
 simp only [pars, List.mem_flatMap, List.mem_map] at hp
 obtain ⟨c, hc, m, hm, rfl⟩ := hp
 exact ⟨((hR.ok.cues c hc).moves m hm).1, (hR.moves c hc).par m hm⟩
theorem foot_sorted {cs : List Cue} {a : List Par} (hp : ∀ p ∈ pars cs, param15 p = 0) (h1 : a.Perm (footL cs)) (h2 : a.Pairwise fun x y => ¬ pcmp y x < 0) : a = movedL cs := by
 have hmem : ∀ x, x ∈ a ↔ x ∈ movedL cs := fun x => by rw [h1.mem_iff, mem_footL, mem_movedL]
 refine rising_ext ?_ (rising_movedL cs) hmem
 have hn : a.Nodup := h1.nodup_iff.2 (nodup_footAll List.nodup_nil)
 have := h2.imp₂ (R := fun x y => ¬ pcmp y x < 0) (S := fun x y => x ≠ y) (T := fun x y => ¬ pcmp y x < 0 ∧ x ≠ y) (fun _ _ h1 h2 => ⟨h1, h2⟩) hn
 refine List.Pairwise.imp_of_mem ?_ this
 intro x y hx hy ⟨h3, h4⟩
 have px := hp x (mem_movedL.1 ((hmem x).1 hx))
 have py := hp y (mem_movedL.1 ((hmem y).1 hy))
 rcases hb : before15 x y with _ | _
 · rcases hb2 : before15 y x with _ | _
   · exact absurd (before_total hb hb2) h4
   · exact absurd ((pcmp_neg py px).2 hb2) h3
 · rfl
theorem pars_has {l : List Par} (h : ∀ p ∈ l, p.Ok) : HasK (.slice paKs) (.slice (l.map Par.enc)) := slice_has fun p hp => Par.has (h p hp)
def putGo (p : Par) (l0 : List Par) : List Par → List Par × Bool → List Par
 | [], (out, d) => if d then out else out ++ [p]
 | q :: xs, (out, d) => if q = p then l0 else if before15 p q && !d then putGo p l0 xs (out ++ [p] ++ [q], true) else putGo p l0 xs (out ++ [q], d)
structure MI (l : Lis) (n : Nat) (a : List Par) : Prop where
 ok : ∀ p ∈ a, p.Ok
 rising : RisingP a
 len : a.length ≤ n
theorem MI.put {l : Lis} {n : Nat} {a : List Par} {p : Par} (h : MI l n a) (hp : p.Ok) : MI l (n + 1) (putP a p) :=
 ⟨fun q hq => (mem_putP.1 hq).elim (fun e => e ▸ hp) (h.ok q), rising_putP h.rising, by have := length_putP (p := p) (l := a); have := h.len; omega⟩
end Go.Sx.La
namespace Go.Sx.La
open Go Go.Sx Go.RowKit Go.Proofs Go.Sort Go.Shelf
theorem grow_of_below {W w' : World} (h : BelowD W.heap.size W w') : ∃ q os', w' = Sort.grow (W.drewN q) os' := by
 refine ⟨w'.drawn - W.drawn, w'.heap.extract W.heap.size w'.heap.size, ?_⟩
 have hh : W.heap ++ w'.heap.extract W.heap.size w'.heap.size = w'.heap := by
   apply Array.ext_getElem?
   intro i
   rw [Array.getElem?_append]
   split
   · rename_i hi; exact (h.block i hi).symm
   · rename_i hi
     rw [Array.getElem?_extract]
     have hs := h.size
     split
     · congr 1; omega
     · rw [Array.getElem?_eq_none (by omega)]
 have hd : W.drawn + (w'.drawn - W.drawn) = w'.drawn := by have := h.drawn; omega
 have e1 := h.os
 have e2 := h.tape
 have e3 := h.output
 obtain ⟨hp, tp, dr, o, out⟩ := w'
 obtain ⟨hp0, tp0, dr0, o0, out0⟩ := W
 simp only at hh hd e1 e2 e3
 simp only [Sort.grow, World.drewN, hh, hd, e1, e2, e3]
structure El (m : Mem) (X : Type) (enc : X → List D) (k : Nat) (l : List X) where
 x : X
 mem : x ∈ l
 vs : List Value
 len : vs.length = k
 rep : ∀ (i : Nat) d v, (enc x)[i]? = some d → vs[i]? = some v → RepD m d v
def D.flat : D → Bool
 | .agg _ => false
 | _ => true
theorem RepD.one {m : Mem} {d : D} {v : Value} (h : RepD m d v) (hf : D.flat d = true) : v.oneCell' = true := by
 cases h <;> first | rfl | cases hf
theorem own_inv {m : Mem} {w : World} {B : Nat → Prop} {e : Nat} {xs : List (List D)} {v : Value} (h : RepR m w B (.own e xs) v) (hne : xs ≠ []) :
   ∃ b c arr t, v = .slice (some ⟨b, 0, none⟩) xs.length c ∧ B b ∧ m b = none ∧ w.heap[b]? = some (.cells arr t (0, 0)) ∧ 0 < c ∧ xs.length ≤ c ∧ c ≤ maxLen ∧ xs.length ≤ cap ∧ arr.size = c * e ∧ (∀ x ∈ xs, x.length = e) ∧
     ∀ (i j : Nat) x d v, xs[i]? = some x → x[j]? = some d → arr[i * e + j]? = some v → RepD m d v := by
 cases h with
 | none => exact absurd rfl hne
 | own hB hm hb h0 hc hcc hcap hsz he hv => exact ⟨_, _, _, _, rfl, hB, hm, hb, h0, hc, hcc, hcap, hsz, he, hv⟩
section
variable {α : Type} [Inhabited α]
theorem sortWorldK_other (enc : α → List Value) (k : Nat) (w : World) (blk off n : Nat) (d : Array α) (os : Array Obj) {b : Nat} (hb : b < w.heap.size) (hne : b ≠ blk) : (sortWorldK enc k w blk off n d os).heap[b]? = w.heap[b]? := by
 have hsz : (putRowK enc k (Sort.ahead w n) blk off d).heap.size = w.heap.size := by simp [putRowK, putRow, mapBlock, Sort.ahead]
 unfold sortWorldK
 simp only [Sort.grow]
 rw [Array.getElem?_append, if_pos (by omega)]
 simp only [putRowK, putRow, mapBlock, Sort.ahead, Array.getElem?_modify]
 rw [if_neg (by omega)]
theorem sortWorldK_row (enc : α → List Value) (k : Nat) (w : World) (blk off n : Nat) (d : Array α) (os : Array Obj) {c : Array Value} {t : TypeId} {fz : Nat × Nat} (hb : w.heap[blk]? = some (.cells c t fz)) :
   (sortWorldK enc k w blk off n d os).heap[blk]? = some (.cells (Go.Sort.putCells id off (flatK enc k d) c) t fz) := by
 have hlt : blk < w.heap.size := by
   rcases Nat.lt_or_ge blk w.heap.size with h | h
   · exact h
   · rw [Array.getElem?_eq_none h] at hb; cases hb
 have hsz : (putRowK enc k (Sort.ahead w n) blk off d).heap.size = w.heap.size := by simp [putRowK, putRow, mapBlock, Sort.ahead]
 unfold sortWorldK
 simp only [Sort.grow]
 rw [Array.getElem?_append, if_pos (by omega)]
 simp only [putRowK, putRow, mapBlock, Sort.ahead, Array.getElem?_modify, hb]
 simp [onCells]
end
theorem sort_ok {P : Program} {f : FuncId} {ρ : Ren} (L : SlLaysF0.n6 P ρ) (hf : ρ.f 6 = f) (hcl : callable P f = true) {X : Type} {enc : X → List D} {ks : List K} {k : Nat} (hkk : ks.length = k) (h0 : 0 < k) (hflat : ∀ x, ∀ d ∈ enc x, D.flat d = true) (hlen : ∀ x, (enc x).length = k)
   (aE : ∀ w, (isAgg (ρ.t 24)).run P w = .ok true w) (zE : ∀ w, (Go.sizeOf (ρ.t 24)).run P w = .ok k w) (hres : resKinds P false (fnTypes P f) = some []) :
   ContractX P f [.own ks, .cell .fn] true fun args K => ∃ (l : List X) (g : FuncId) (caps : List D) (key : X → Int) (cf : X → X → Int) (sf : Spec), l ≠ [] ∧ (∀ x ∈ l, HasKs ks (enc x)) ∧ args = [.own k (l.map enc), .d (.clo g caps)] ∧ FvC P (.clo g caps) sf ∧
     (∀ x ∈ l, ∀ y ∈ l, (cf x y < 0 ↔ key x < key y) ∧ sf [.agg (enc x), .agg (enc y)] fun rs => rs = [.d (.int .i64 (cf x y))]) ∧ ∀ l' : List X, l'.Perm l → l'.Pairwise (fun a b => key a ≤ key b) → K [.own k (l'.map enc)] := by
 refine ⟨hcl, ?_⟩
 rintro _ K ⟨l, g, caps, key, cf, sf, hne, hks, rfl, hfv, hcf, hK⟩ _ w m vs hm hr
 have hlen2 : vs.length = 2 := hr.len
 match vs, hlen2 with
 | [v, u], _ =>
 have r0 := hr.rep 0 _ v rfl rfl
 have r1 := hr.rep 1 _ u rfl rfl
 cases r1 with
 | d h1 =>
 obtain ⟨cb, rfl, hcsz, hcb⟩ := RepD.clo_inv h1
 obtain ⟨b, c, arr, t, rfl, _, hmb, hb, hc0, hc, hcm, hcap, hasz, he, hv⟩ := own_inv r0 (by simpa using hne)
 have hblt : b < w.heap.size := by
   rcases Nat.lt_or_ge b w.heap.size with h | h
   · exact h
   · rw [Array.getElem?_eq_none h] at hb; cases hb
 simp only [List.length_map] at hc hcap
 have hin : ∀ i j, i < l.length → j < k → i * k + j < arr.size := by
   intro i j hi hj
   have h1 : (i + 1) * k ≤ c * k := Nat.mul_le_mul_right _ (by omega)
   rw [Nat.succ_mul] at h1
   omega
 let d : Array (El m X enc k l) := Array.ofFn fun i : Fin l.length => ⟨l[i], List.getElem_mem _, (arr.toList.drop (i * k)).take k, by
     have h1 : (i.val + 1) * k ≤ c * k := Nat.mul_le_mul_right _ (by omega)
     rw [Nat.succ_mul] at h1
     simp only [List.length_take, List.length_drop, Array.length_toList]; omega, fun j dd u h2 h3 => by
     have hj : j < k := by
       have := (List.getElem?_eq_some_iff.1 h2).1
       rw [hlen] at this; exact this
     rw [List.getElem?_take, if_pos hj, List.getElem?_drop] at h3
     exact hv i j (enc l[i]) dd u (by simp) h2 (by simpa using h3)⟩
 have hds : d.size = l.length := by simp [d]
 have hpos : 0 < l.length := List.length_pos_iff.2 hne
 letI : Inhabited (El m X enc k l) := ⟨d[0]'(by omega)⟩
 have hdi : ∀ i (hi : i < l.length), d[i]! = d[i]'(by omega) := fun i hi => getElem!_pos d i (by omega)
 have hdx : ∀ i (hi : i < l.length), (d[i]!).x = l[i] := fun i hi => by rw [hdi i hi]; simp [d]
 have hdv : ∀ i j (hi : i < l.length) (hj : j < k), (d[i]!).vs[j]! = arr[i * k + j]'(hin i j hi hj) := fun i j hi hj => by
   rw [hdi i hi]
   have : (d[i]'(by omega)).vs = (arr.toList.drop (i * k)).take k := by simp [d]
   rw [this, List.getElem!_eq_getElem?_getD, List.getElem?_take, if_pos hj, List.getElem?_drop]
   simp [hin i j hi hj]
 have hH : HoldsK El.vs k w b 0 d := by
   intro j hj
   rw [size_flatK, hds] at hj
   have hq : j / k < l.length := Nat.div_lt_of_lt_mul (by rw [Nat.mul_comm]; exact hj)
   have hrm : j % k < k := Nat.mod_lt _ h0
   have e : j / k * k + j % k = j := by rw [Nat.mul_comm]; exact Nat.div_add_mod j k
   constructor
   · rw [get_flatK _ _ _ _ (by rw [hds]; exact hj), id_eq, hdv _ _ hq hrm]
     simp only [World.cell?, hb, e]
     have := hin _ _ hq hrm
     rw [e] at this
     simp [this]
   · simp [World.frozen?, hb]
 have hmem : ∀ n os dk, MemOk m (sortWorldK El.vs k w b 0 n (dk : Array (El m X enc k l)) os) := by
   intro n os dk b' o ho
   have hne' : b' ≠ b := by rintro rfl; rw [hmb] at ho; cases ho
   rw [sortWorldK_other _ _ _ _ _ _ _ _ (hm.lt ho) hne']
   exact hm b' o ho
 have hcmp : CmpLays P g cb (El.vs (m := m) (X := X) (enc := enc) (k := k) (l := l)) k (fun x y => cf x.x y.x) b 0 d.size w := by
   intro n os dk _ x y
   refine (fv_calls hfv (hmem n os dk) hcsz hcb (as_ := [.agg (enc x.x), .agg (enc y.x)]) (vs := #[.agg x.vs.toArray, .agg y.vs.toArray]) rfl ?_ (hcf x.x x.mem y.x y.mem).2).mono ?_
   · intro i dd u h2 h3
     match i, h2, h3 with
     | 0, h2, h3 =>
       simp at h2 h3; subst h2 h3
       exact .agg _ _ (by simp [x.len, hlen]) fun j e u a1 a2 => x.rep j e u a1 (by simpa using a2)
     | 1, h2, h3 =>
       simp at h2 h3; subst h2 h3
       exact .agg _ _ (by simp [y.len, hlen]) fun j e u a1 a2 => y.rep j e u a1 (by simpa using a2)
   · rintro e w' ⟨u, m', rfl, hu, hbw⟩
     rw [hu.int_inv]
     exact ⟨rfl, grow_of_below hbw⟩
 have hO : SWO (ltOf fun x y : El m X enc k l => cf x.x y.x) := by
   have key' : ∀ x y : El m X enc k l, ltOf (fun x y : El m X enc k l => cf x.x y.x) x y = decide (key x.x < key y.x) := fun x y => by
     simp only [ltOf]
     rw [Bool.eq_iff_iff]; simpa using (hcf x.x x.mem y.x y.mem).1
   refine ⟨fun x => ?_, fun x y z h1 h2 => ?_, fun x y z h1 h2 => ?_⟩
   · rw [key']; simp
   · rw [key'] at *; simp at *; omega
   · rw [key'] at *; simp at *; omega
 have hargs : ([Value.slice (some ⟨b, 0, none⟩) (l.map enc).length c, Value.func (.func g) #[] cb] : List Value).toArray = #[.slice (some ⟨b, 0, none⟩) d.size c, .func (.func g) #[] cb] := by rw [hds, List.length_map]
 rw [hargs, ← hf]
 refine (AnyQ.slices_SortFunc L k aE zE El.vs El.len ?_ (fun x y => cf x.x y.x) hO g cb b 0 c d w (callable_enters hfv.1) hcmp hH hblt (by rw [hds]; simp only [cap] at hcap; omega)).mono ?_
 · intro x u hu
   obtain ⟨j, hj⟩ := List.mem_iff_getElem?.1 hu
   have hjk : j < (enc x.x).length := by
     have := (List.getElem?_eq_some_iff.1 hj).1
     rw [x.len] at this; rw [hlen]; exact this
   exact RepD.one (x.rep j _ u (List.getElem?_eq_getElem hjk) hj) (hflat x.x _ (List.getElem_mem hjk))
 · rintro e w' ⟨rfl, d', n, os, ⟨hs', _, hperm⟩, hsort, rfl⟩
   rw [hds] at hs'
   have hd'i : ∀ i (hi : i < l.length), d'[i]! = d'[i]'(by omega) := fun i hi => getElem!_pos d' i (by omega)
   have hfull : ∀ (a : Array (El m X enc k l)), a.size = l.length → (a.extract 0 d.size).toList = a.toList := by
     intro a ha
     rw [hds, ← ha]; simp
   rw [hfull d' hs', hfull d hds] at hperm
   let l' : List X := d'.toList.map El.x
   have hl' : l'.length = l.length := by simp [l', hs']
   have hpl : l'.Perm l := by
     have h1 := hperm.map El.x
     have h2 : d.toList.map El.x = l := by
       apply List.ext_getElem
       · simp [hds]
       · intro i h1 h2
         simp [d]
     rw [h2] at h1
     exact h1
   have hgx : ∀ i (hi : i < l.length), l'[i]'(by omega) = (d'[i]!).x := fun i hi => by rw [hd'i i hi]; simp [l']
   have hpw : l'.Pairwise (fun a b => key a ≤ key b) := by
     rw [List.pairwise_iff_getElem]
     intro i j hi hj hij
     rw [hgx i (by omega), hgx j (by omega)]
     have := hsort i j (Nat.zero_le _) hij (by rw [hds]; omega)
     simp only [ltOf] at this
     have h2 := (hcf _ (d'[j]!).mem _ (d'[i]!).mem).1
     have h3 : ¬ cf (d'[j]!).x (d'[i]!).x < 0 := by simpa using this
     rw [h2] at h3
     omega
   have hrow := sortWorldK_row El.vs k w b 0 n d' os hb
   have hflt : ∀ i j, i < l.length → j < k → (flatK El.vs k d')[i * k + j]! = (d'[i]!).vs[j]! := by
     intro i j hi hj
     have h1 : (i + 1) * k ≤ l.length * k := Nat.mul_le_mul_right _ (by omega)
     rw [Nat.succ_mul] at h1
     rw [get_flatK _ _ _ _ (by rw [hs']; omega)]
     have e1 : (i * k + j) / k = i := by rw [Nat.mul_comm, Nat.mul_add_div h0, Nat.div_eq_of_lt hj, Nat.add_zero]
     have e2 : (i * k + j) % k = j := by rw [Nat.mul_comm, Nat.mul_add_mod, Nat.mod_eq_of_lt hj]
     rw [e1, e2]
   have hown : OwnBlk [.own k (l.map enc), .d (.clo g caps)] [.slice (some ⟨b, 0, none⟩) (l.map enc).length c, .func (.func g) #[] cb] b := ⟨0, _, _, rfl, rfl, rfl, by simp [blk]; omega⟩
   refine ⟨[.own k (l'.map enc)], [], _, m, hK l' hpl hpw, ?_, rfl, rfl, ⟨rfl, ?_, ?_⟩, Mem.le_refl m, hmem n os d', fun _ _ _ => rfl, ⟨rfl, rfl, rfl, ?_, ?_, ?_⟩⟩
   · intro rk hrk
     rw [hf, hres] at hrk
     cases hrk
     refine ⟨[.slice (l'.map enc)], ?_, ?_⟩
     · simp [ownKs, RV.all, RV.cells, hkk]
     · simp only [ownKs, if_true, List.nil_append, RK.all, List.map_cons, List.map_nil, RK.kinds, List.flatten_cons, List.flatten_nil, List.append_nil, HasKs, HasK, and_true]
       intro x hx
       obtain ⟨y, hy, rfl⟩ := List.mem_map.1 hx
       exact hks y (hpl.mem_iff.1 hy)
   · intro i r u h2 h3
     cases i with
     | succ i => simp at h2
     | zero =>
       simp [ownVals] at h2 h3
       subst h2 h3
       have hll : (l'.map enc).length = l.length := by simp [hl']
       have := RepR.own (m := m) (w := sortWorldK El.vs k w b 0 n d' os) (B := fun b' => w.heap.size ≤ b' ∨ OwnBlk [.own k (l.map enc), .d (.clo g caps)] [.slice (some ⟨b, 0, none⟩) (l.map enc).length c, .func (.func g) #[] cb] b') (e := k) (xs := l'.map enc) (.inr hown) hmb hrow hc0 (by omega) hcm (by omega) (by simp [Go.Sort.putCells, hasz]) (by
         intro x hx
         obtain ⟨y, hy, rfl⟩ := List.mem_map.1 hx
         exact hlen y) (by
         intro i j x dd u hx hd hu
         have hi : i < l.length := by rw [← hll]; exact (List.getElem?_eq_some_iff.1 hx).1
         simp only [List.getElem?_map, Option.map_eq_some_iff] at hx
         obtain ⟨y, hy, rfl⟩ := hx
         have hj : j < k := by have := (List.getElem?_eq_some_iff.1 hd).1; rw [hlen] at this; exact this
         have hyx : y = (d'[i]!).x := by
           rw [← hgx i hi]
           exact ((List.getElem?_eq_some_iff.1 hy).2).symm
         subst hyx
         have hlt : i * k + j < l.length * k := by
           have h1 : (i + 1) * k ≤ l.length * k := Nat.mul_le_mul_right _ (by omega)
           rw [Nat.succ_mul] at h1
           omega
         simp only [Go.Sort.putCells, Array.getElem?_mapIdx, size_flatK, hs', Option.map_eq_some_iff] at hu
         obtain ⟨z, hz, hu⟩ := hu
         rw [if_pos ⟨Nat.zero_le _, by omega⟩, id_eq, Nat.sub_zero, hflt i j hi hj] at hu
         refine (d'[i]!).rep j dd u hd ?_
         rw [← hu, List.getElem!_eq_getElem?_getD, List.getElem?_eq_getElem (by rw [(d'[i]!).len]; exact hj)]
         rfl)
       rw [hll] at this
       exact this
   · intro i j r r' u u' b' hij h2 h3
     exfalso
     have h4 := (List.getElem?_eq_some_iff.1 h2).1
     have h5 := (List.getElem?_eq_some_iff.1 h3).1
     simp at h4 h5
     omega
   · simp [sortWorldK, Sort.grow, putRowK, putRow, mapBlock, Sort.ahead]
   · simp [sortWorldK, Sort.grow, putRowK, putRow, mapBlock, Sort.ahead]
   · intro b' hb' hnb
     refine sortWorldK_other _ _ _ _ _ _ _ _ hb' ?_
     rintro rfl
     exact hnb hown
end Go.Sx.La
namespace Go.Sx.La
open Go Go.Sx Go.RowKit Go.Proofs
def mdE : Go.Sx.Mode := { own := [], no := [231, 232, 233, 234, 235, 236, 237] }
noncomputable def t211 : R := .loop 0 [] [] (.ite (.o2 .le (.o2 (.sub .i64) (.var 2) (.var 1)) (.int .i64 12)) (.call none (.fn 230) [.var 0, .var 1, .var 2, .var 4] [] (.ret [])) (.ite (.o2 .eq (.var 3) (.int .i64 0)) (.fail "cut") (.ite (.o1 .not (.bool true)) (.fail "cut") (.fail "cut"))))
theorem t211_ok : fnO Tryz.prog mdE 211 [.cell (.slice [.int .i64, .int .i64]), .cell (.int .i64), .cell (.int .i64), .cell (.int .i64), .cell .fn] = t211 := by kernel_rfl
theorem c211 : callable Tryz.prog 211 = true := by kernel_rfl
noncomputable def t230 : R := let x0 : T := .o2 (.sub .i64) (.var 4) (.int .i64 1); let x1 : T := .o2 .gt (.var 4) (.var 1); let x2 : T := .o1 .len (.var 0); let x3 : T := .o2 .le (.int .i64 0) (.var 4); .loop 0 [.o2 (.add .i64) (.var 1) (.int .i64 1)] [.int .i64] (.ite (.o2 .lt (.var 4) (.var 2)) (.loop 1 [] [] (.need (.ite x1 x3 (.bool true)) (.need (.ite x1 (.o2 .lt (.var 4) x2) (.bool true)) (.need (.ite x1 (.o2 .le (.int .i64 0) x0) (.bool true)) (.need (.ite x1 (.o2 .lt x0 x2) (.bool true)) (.call (some x1) (.val (.var 3)) [.lcons (.idx (.var 0) (.var 4) 0 (.int .i64)) (.lcons (.idx (.var 0) (.var 4) 1 (.int .i64)) .lnil), .lcons (.idx (.var 0) x0 0 (.int .i64)) (.lcons (.idx (.var 0) x0 1 (.int .i64)) .lnil)] [.cell (.int .i64)] (.ite (.ite x1 (.o2 .lt (.var 5) (.int .i64 0)) (.bool false)) (.need (.o2 .le (.int .i64 0) x0) (.need (.o2 .lt x0 x2) (.need x3 (.need (.o2 .lt (.var 4) x2) (.fail "zsortanyfunc.go:13"))))) (.again 0 [.o2 (.add .i64) (.var 4) (.int .i64 1)])))))))) (.ret []))
theorem t230_ok : fnO Tryz.prog mdA 230 [.cell (.slice [.int .i64, .int .i64]), .cell (.int .i64), .cell (.int .i64), .cell .fn] = t230 := by kernel_rfl
theorem c230 : callable Tryz.prog 230 = true := by kernel_rfl
noncomputable def t184 : R := .fact (.o2 .le (.o1 .len (.var 0)) (.int .i64 140737488355328)) (.call none (.fn 191) [.o1 (.conv .u64) (.o1 .len (.var 0))] [.cell (.int .i64)] (.call none (.fn 211) [.var 0, .int .i64 0, .o1 .len (.var 0), .var 2, .var 1] [] (.ret [])))
theorem t184_ok : fnO Tryz.prog mdA 184 [.cell (.slice [.int .i64, .int .i64]), .cell .fn] = t184 := by kernel_rfl
theorem c184 : callable Tryz.prog 184 = true := by kernel_rfl
theorem ContractX.of_empty {P : Program} {f : FuncId} {ks : List K} {e : Nat} (hek : e = ks.length) (hc : Contract P f fun args K => ∃ g caps, args = [.slice [], .clo g caps] ∧ K []) (hres : resKinds P false (fnTypes P f) = some [])
   (hty : ∀ g caps, ArgsTyped P f [.slice [], .clo g caps]) : ContractX P f [.own ks, .cell .fn] true fun args K => ∃ g caps, args = [.own e [], .d (.clo g caps)] ∧ K [.own e []] := by
 refine ⟨hc.1, ?_⟩
 rintro _ K ⟨g, caps, rfl, hK⟩ _ w m vs hm hr
 have hlen2 : vs.length = 2 := hr.len
 match vs, hlen2 with
 | [v, u], _ =>
 have r0 := hr.rep 0 _ v rfl rfl
 have r1 := hr.rep 1 _ u rfl rfl
 have rv : RepD m (.slice []) v := by
   cases r0 with
   | none => exact .empty _ _
   | own => exact .empty _ _
 have ru : RepD m (.clo g caps) u := by cases r1; assumption
 refine (hc.2 [.slice [], .clo g caps] (fun rs => rs = []) ⟨g, caps, rfl, rfl⟩ (hty g caps) w m #[v, u] hm rfl ?_).mono ?_
 · intro i d x h1 h2
   match i, h1, h2 with
   | 0, h1, h2 => simp at h1 h2; subst h1 h2; exact rv
   | 1, h1, h2 => simp at h1 h2; subst h1 h2; exact ru
   | i + 2, h1, h2 => simp at h1
 · rintro ex w' ⟨rs, v', m', rfl, _, rfl, ⟨us, rfl, hus⟩, hle, hmo, hsame, hbw⟩
   have hus0 : us = [] := by have := hus.len; cases us with | nil => rfl | cons a l => simp at this
   subst hus0
   refine ⟨[.own e []], [], _, m', hK, ?_, rfl, rfl, ⟨rfl, ?_, ?_⟩, hle, hmo, fun b hb _ => hsame b hb, ⟨hbw.os, hbw.tape, hbw.output, hbw.drawn, hbw.size, fun b hb _ => hbw.block b hb⟩⟩
   · intro rk hrk
     rw [hres] at hrk
     cases hrk
     refine ⟨[.slice []], ?_, ?_⟩
     · simp [ownKs, RV.all, RV.cells, hek]
     · simp [ownKs, RK.all, RK.kinds, HasKs, HasK]
   · intro i r x h2 h3
     cases i with
     | succ i => simp at h2
     | zero =>
       simp [ownVals] at h2 h3
       subst h2 h3
       cases r0 with
       | none => exact .none
       | own hB hmb hb h0 hc1 hcc hcap hsz he hv =>
         have hlt := (Array.getElem?_eq_some_iff.1 hb).1
         exact .own (xs := []) (.inr ⟨0, _, _, rfl, rfl, rfl, by simp [blk]; omega⟩) (by rw [hsame _ hlt]; exact hmb) (by rw [hbw.block _ hlt]; exact hb) h0 hc1 hcc hcap hsz (by simp) (by simp)
   · intro i j r r' x x' b hij h1 h2
     cases i with
     | succ i => simp at h1
     | zero => cases j with
       | zero => exact absurd rfl hij
       | succ j => simp at h2
theorem bitsLen0_ok : Contract Tryz.prog 191 fun args K => args = [.int .u64 0] ∧ K [.d (.int .i64 0)] := by
 refine Contract.plain (by kernel_rfl) ?_
 rintro _ K ⟨rfl, hK⟩ _ w m vs hm hsz hrep
 match vs, hsz with
 | ⟨[x]⟩, _ =>
 have hx := hrep 0 _ _ rfl rfl
 have := hx.int_inv
 subst this
 refine ⟨[.int .i64 0], hK, resTyped_of (rk := [.cell (.int .i64)]) (by kernel_rfl) rfl ⟨⟨rfl, by decide, by decide⟩, trivial⟩, ?_⟩
 refine (Tryz.bits_Len 0 w (by omega) (by omega)).mono ?_
 rintro e w' ⟨rfl, rfl⟩
 refine ⟨[.int .i64 0], rfl, rfl, fun i d u h1 h2 => ?_, ?_⟩
 · cases i with
   | zero => simp at h1 h2; subst h1 h2; exact .int _ _
   | succ i => simp at h1
 · exact ⟨Below.refl _ _, Nat.le_refl _⟩
theorem insert0_ok : Contract Tryz.prog 230 fun args K => ∃ g caps, args = [.slice [], .int .i64 0, .int .i64 0, .clo g caps] ∧ K [] := by
 refine .of c230 t230_ok ?_
 rintro _ K ⟨g, caps, rfl, hK⟩ hsm
 refine ⟨[.slice [], .int .i64 0, .int .i64 0, .clo g caps], rfl, ⟨by simp [HasK], i64_has ⟨by omega, by omega⟩, i64_has ⟨by omega, by omega⟩, trivial, trivial⟩, ?_⟩
 unfold t230
 rw [denR_loop]
 refine ⟨fun c ys => c = none ∧ ys = [.int .i64 1], fun _ => 0, ⟨rfl, ?_⟩, ?_⟩
 · simp only [zz, reduceCtorEq]
   rw [wr64_eq (by omega)]; rfl
 rintro _ _ _ ⟨rfl, rfl⟩
 simp only [zz, reduceCtorEq]
 exact ⟨fun h => by omega, fun _ => hK⟩
theorem pdq0_ok : Contract Tryz.prog 211 fun args K => ∃ g caps, args = [.slice [], .int .i64 0, .int .i64 0, .int .i64 0, .clo g caps] ∧ K [] := by
 refine .of c211 t211_ok ?_
 rintro _ K ⟨g, caps, rfl, hK⟩ hsm
 refine ⟨[.slice [], .int .i64 0, .int .i64 0, .int .i64 0, .clo g caps], rfl, ⟨by simp [HasK], i64_has ⟨by omega, by omega⟩, i64_has ⟨by omega, by omega⟩, i64_has ⟨by omega, by omega⟩, trivial, trivial⟩, ?_⟩
 unfold t211
 rw [denR_loop]
 refine ⟨fun c ys => c = none ∧ ys = [], fun _ => 0, ⟨rfl, rfl⟩, ?_⟩
 rintro _ _ _ ⟨rfl, rfl⟩
 have e : wr64 ((0 : Int) - 0) = 0 := by rw [wr64_eq (by omega)]; rfl
 simp only [zz, reduceCtorEq, e]
 refine ⟨fun _ => ?_, fun h => by omega⟩
 refine denR_call insert0_ok ⟨g, caps, rfl, [], rfl, ?_⟩
 exact hK
theorem sort0_ok : Contract Tryz.prog 184 fun args K => ∃ g caps, args = [.slice [], .clo g caps] ∧ K [] := by
 refine .of c184 t184_ok ?_
 rintro _ K ⟨g, caps, rfl, hK⟩ hsm
 refine ⟨[.slice [], .clo g caps], rfl, ⟨by simp [HasK], trivial, trivial⟩, ?_⟩
 simp only [zz, reduceCtorEq, t184]
 intro _
 refine denR_call bitsLen0_ok ⟨?_, _, rfl, ?_⟩
 · simp only [zz, reduceCtorEq]
   simp [IntKind.wrap, IntKind.signed, IntKind.bits]
 refine denR_call pdq0_ok ⟨g, caps, rfl, [], rfl, ?_⟩
 exact hK
theorem sort179e_ok : ContractX Tryz.prog 184 [.own paKs, .cell .fn] true fun args K => ∃ g caps, args = [.own 2 [], .d (.clo g caps)] ∧ K [.own 2 []] := by
 refine ContractX.of_empty rfl sort0_ok (by kernel_rfl) fun g caps => argsTyped_of [some (.cell (.slice paKs)), some (.cell .fn)] (by kernel_rfl) ?_
 intro i rk d h1 h2
 match i, h1, h2 with
 | 0, h1, h2 => simp at h1 h2; subst h1 h2; simp [RK.kind, HasK]
 | 1, h1, h2 => simp at h1 h2; subst h1 h2; trivial
 | i + 2, h1, h2 => simp at h1
noncomputable def t131 : R := let x1 : T := .idx (.var 2) (.var 4) 2 (.slice [.int .i64, .int .i64, .int .i64, .int .i64, .int .i64]); let x5 : List K := [.int .i64, .int .i64]; let x0 : T := .lcons (.idx x1 (.var 7) 0 (.int .i64)) (.lcons (.idx x1 (.var 7) 1 (.int .i64)) .lnil); let x3 : List K := [.slice x5, .int .i64, .slice [.agg x5, .bool]]; let x4 : T := .o2 .find (.var 8) x0; let x6 : T := .o2 .app (.var 6) (.push .nils x0); let x2 : T := .o1 .not (.ite (.o2 .ge x4 (.int .i64 0)) (.idx (.var 8) x4 1 .bool) (.bool false)); .fact (.o2 .le (.o1 .len (.var 2)) (.int .i64 140737488355328)) (.loop 0 [.nils, .int .i64 0, .nils] x3 (.ite (.o2 .lt (.var 4) (.o1 .len (.var 2))) (.need (.o2 .le (.int .i64 0) (.var 4)) (.fact (.o2 .le (.o1 .len x1) (.int .i64 140737488355328)) (.loop 1 [.var 3, .int .i64 0, .var 5] x3 (.ite (.o2 .lt (.var 7) (.o1 .len x1)) (.need (.o2 .le (.int .i64 0) (.var 7)) (.need (.ite x2 (.o2 .le (.o1 .len x6) (.int .i64 8796093022208)) (.bool true)) (.lets [.ite x2 x6 (.var 6), .ite x2 (.ite (.o2 .ge x4 (.int .i64 0)) (.upd (.var 8) x4 1 (.lcons (.bool true) .lnil)) (.push (.var 8) (.lcons x0 (.lcons (.bool true) .lnil)))) (.var 8)] (.again 1 [.var 9, .o2 (.add .i64) (.var 7) (.int .i64 1), .var 10])))) (.again 0 [.var 6, .o2 (.add .i64) (.var 4) (.int .i64 1), .var 8]))))) (.callX true 184 [.own 2 (.var 3), .d (.fn 185)] [.own x5] (.ret [.own 2 (.var 6)]))))
theorem t131_ok : fnO Tryz.prog mdA 131 [.agg [.int .i64, .int .i64, .slice [.str, .str, .slice [.int .i64, .int .i64, .int .i64, .int .i64, .int .i64], .slice [.int .i64, .int .i64, .int .i64, .int .i64, .int .i64, .int .i64], .bool, .bool, .int .i64, .str, .int .i64]]] = t131 := by kernel_rfl
theorem c131 : callable Tryz.prog 131 = true := by kernel_rfl
theorem par_flat (p : Par) : ∀ d ∈ p.enc, D.flat d = true := by
 intro d hd
 simp only [Par.enc, List.mem_cons, List.not_mem_nil, or_false] at hd
 rcases hd with rfl | rfl <;> rfl
theorem sort179_ok : ContractX Tryz.prog 184 [.own paKs, .cell .fn] true fun args K => ∃ (l : List Par) (g : FuncId) (caps : List D) (key : Par → Int) (cf : Par → Par → Int) (sf : Spec), l ≠ [] ∧ (∀ x ∈ l, HasKs paKs (Par.enc x)) ∧ args = [.own 2 (l.map Par.enc), .d (.clo g caps)] ∧ FvC Tryz.prog (.clo g caps) sf ∧
     (∀ x ∈ l, ∀ y ∈ l, (cf x y < 0 ↔ key x < key y) ∧ sf [.agg (Par.enc x), .agg (Par.enc y)] fun rs => rs = [.d (.int .i64 (cf x y))]) ∧ ∀ l' : List Par, l'.Perm l → l'.Pairwise (fun a b => key a ≤ key b) → K [.own 2 (l'.map Par.enc)] :=
 sort_ok (X := Par) (enc := Par.enc) (ks := paKs) (k := 2) Tryz.sort184 (by kernel_rfl) (by kernel_rfl) rfl (by omega) par_flat (fun _ => rfl) (fun w => by kernel_rfl) (fun w => by kernel_rfl) (by kernel_rfl)
def seenR (l : List Par) : List (List D) := l.map fun p => [.agg p.enc, .bool true]
theorem same_par (p q : Par) : D.same (.agg p.enc) (.agg q.enc) = decide (p = q) := by
 have : p = q ↔ p.ch = q.ch ∧ p.at_ = q.at_ := ⟨fun h => by rw [h]; exact ⟨rfl, rfl⟩, fun h => Par.ext' h.1 h.2⟩
 rw [Bool.eq_iff_iff]
 simp only [D.same, D.sameL, Par.enc, this, decide_eq_true_eq, Bool.and_eq_true, beq_iff_eq, and_true, true_and]
theorem findRow_seen (p : Par) : ∀ (l : List Par) (i : Nat), (p ∉ l ∧ D.findRow (.agg p.enc) (seenR l) i = -1) ∨ ∃ j, l[j]? = some p ∧ D.findRow (.agg p.enc) (seenR l) i = ((i + j : Nat) : Int)
 | [], i => .inl ⟨by simp, rfl⟩
 | q :: l, i => by
   have e : D.findRow (.agg p.enc) (seenR (q :: l)) i = if p = q then (i : Int) else D.findRow (.agg p.enc) (seenR l) (i + 1) := by
     show (if D.same (.agg p.enc) (.agg q.enc) = true then (i : Int) else _) = _
     rw [same_par]
     simp only [decide_eq_true_eq]
     rfl
   rw [e]
   by_cases h : p = q
   · subst h
     exact .inr ⟨0, rfl, by simp⟩
   · rw [if_neg h]
     rcases findRow_seen p l (i + 1) with ⟨h1, h2⟩ | ⟨j, h1, h2⟩
     · exact .inl ⟨by simp [h, h1], h2⟩
     · exact .inr ⟨j + 1, h1, by rw [h2]; congr 1; omega⟩
structure FI (l : Lis) (n : Nat) (a : List Par) : Prop where
 ok : ∀ p ∈ a, p.Ok
 len : a.length ≤ n
theorem FI.put {l : Lis} {n : Nat} {a : List Par} {p : Par} (h : FI l n a) (hp : p.Ok) : FI l (n + 1) (footP a p) :=
 ⟨fun q hq => (mem_footP.1 hq).elim (h.ok q) (fun e => e ▸ hp), by have := length_footP (p := p) (a := a); have := h.len; omega⟩
theorem footprint_ok : Contract Tryz.prog 131 fun args K => ∃ (l : Lis), RightT l ∧ args = [.agg l.enc] ∧ K [.own 2 ((movedL l.cues).map Par.enc)] := by
 refine .of c131 t131_ok ?_
 rintro _ K ⟨l, hR, rfl, hK⟩ hsm
 have hlen := hR.len
 refine ⟨l.enc, rfl, Lis.has hR.ok, ?_⟩
 simp only [zz, reduceCtorEq, t131, Lis.enc]
 intro hcap
 refine loop_goI l.cues (fun i cs (a : List Par) => footAll a (pars cs)) (fun i a => [.slice (a.map Par.enc), .int .i64 i, .slice (seenR a)]) (fun i a => FI l (128 * i) a) [] (footL l.cues) rfl ⟨by simp, by simp⟩ 1 (fun _ _ => rfl) rfl ?_ ?_
 · intro i hi a hI hgo
   have hcm := List.getElem_mem hi
   have hml := (hR.moves _ hcm).len
   simp only [zz, reduceCtorEq, List.length_map, hi, getD_map hi, Cue.enc]
   refine ⟨by omega, fun hcap1 => ?_⟩
   rw [show pars (l.cues[i] :: l.cues.drop (i + 1)) = l.cues[i].moves.map (·.pa) ++ pars (l.cues.drop (i + 1)) from rfl] at hgo
   rw [footAll, List.foldl_append] at hgo
   refine loop_goI l.cues[i].moves (fun _ ms (b : List Par) => footAll b (ms.map (·.pa) ++ pars (l.cues.drop (i + 1)))) (fun k b => [.slice (b.map Par.enc), .int .i64 k, .slice (seenR b)]) (fun k b => FI l (128 * i + k) b) a (footL l.cues) (by simpa [footAll, List.foldl_append] using hgo) (by simpa using hI) 1 (fun _ _ => rfl) (by simp only [zz, reduceCtorEq]; simp) ?_ ?_
   · intro k hk b hI2 hgo2
     have hb := hI2.len
     have hmk := ((hR.ok.cues _ hcm).moves _ (List.getElem_mem hk)).1
     generalize hp : l.cues[i].moves[k].pa = p at hmk
     have hgo3 : footAll (footP b p) ((l.cues[i].moves.drop (k + 1)).map (·.pa) ++ pars (l.cues.drop (i + 1))) = footL l.cues := by rw [← hp]; exact hgo2
     rcases findRow_seen p b 0 with ⟨h1, h2⟩ | ⟨j, h1, h2⟩
     · have hfr : D.findRow (.agg [.int .i64 p.ch, .int .i64 p.at_]) (seenR b) 0 = -1 := h2
       have e0 : ¬ (0 : Int) ≤ -1 := by omega
       have ef : footP b p = b ++ [p] := by unfold footP; rw [if_neg h1]
       rw [ef] at hgo3
       have hput := hI2.put hmk
       rw [ef] at hput
       simp only [zz, reduceCtorEq, List.length_map, hi, getD_map hi, Cue.enc, hk, getD_map hk, Mov.enc, hp, hfr, e0, Bool.not_false, List.length_append]
       refine ⟨by omega, by simp; omega, b ++ [p], ⟨by simp [Par.enc], by rw [wr64_eq] <;> omega, by simp [seenR, Par.enc]⟩, hput, hgo3⟩
     · have hfr : D.findRow (.agg [.int .i64 p.ch, .int .i64 p.at_]) (seenR b) 0 = (j : Int) := by rw [Nat.zero_add] at h2; exact h2
       have e0 : (0 : Int) ≤ (j : Int) := by omega
       have hmem : p ∈ b := List.mem_of_getElem? h1
       have ef : footP b p = b := by unfold footP; rw [if_pos hmem]
       rw [ef] at hgo3
       have hput := hI2.put hmk
       rw [ef] at hput
       have hrow : ((seenR b).getD j []).getD 1 (Go.Sx.K.zero .bool) = .bool true := by
         simp only [seenR, List.getD_eq_getElem?_getD, List.getElem?_map, h1, Option.map_some, Option.getD_some]
         rfl
       simp only [zz, reduceCtorEq, List.length_map, hi, getD_map hi, Cue.enc, hk, getD_map hk, Mov.enc, hp, hfr, e0, Bool.not_true, Int.toNat_natCast, hrow]
       refine ⟨by omega, b, ⟨rfl, by rw [wr64_eq] <;> omega, rfl⟩, hput, hgo3⟩
   · intro b hI2 hgo2
     simp only [zz, reduceCtorEq, List.length_map, hi, getD_map hi, Cue.enc, Nat.lt_irrefl]
     refine ⟨rfl, b, ?_, ⟨hI2.ok, by have := hI2.len; omega⟩, by simpa using hgo2⟩
     rw [wr64_eq (by omega)]; rfl
 · intro a hI hgo
   simp only [zz, reduceCtorEq, List.length_map, Nat.lt_irrefl]
   simp only [pars, List.flatMap_nil, footAll, List.foldl_nil] at hgo
   subst hgo
   have hpar := pars_ok hR
   have hok : ∀ p ∈ footL l.cues, p.Ok ∧ param15 p = 0 := fun p hp => hpar p (mem_footL.1 hp)
   by_cases hne : footL l.cues = []
   · have e : movedL l.cues = [] := by
       refine List.eq_nil_iff_forall_not_mem.2 fun x hx => ?_
       have := mem_footL.2 (mem_movedL.1 hx)
       rw [hne] at this; simp at this
     rw [e] at hK
     rw [hne]
     refine denR_callX sort179e_ok ⟨[.slice [], .clo 185 []], rfl, ⟨by simp [HasK], trivial, trivial⟩⟩ (fun _ => rfl) ⟨185, [], rfl, [.slice []], rfl, ?_⟩
     exact hK
   · refine denR_callX sort179_ok ⟨[.slice ((footL l.cues).map Par.enc), .clo 185 []], rfl, ⟨pars_has fun p hp => (hok p hp).1, trivial, trivial⟩⟩ (fun _ => rfl) ?_
     have hkey : ∀ x y : Par, param15 x = 0 → param15 y = 0 → (pcmp x y < 0 ↔ 15 * x.ch + x.at_ < 15 * y.ch + y.at_) := by
       intro x y hx hy
       rw [pcmp_neg hx hy]
       have h1 := param15_ok' hx
       have h2 := param15_ok' hy
       simp only [before15, Bool.or_eq_true, Bool.and_eq_true, decide_eq_true_eq]
       omega
     refine ⟨footL l.cues, 185, [], fun p => 15 * p.ch + p.at_, pcmp, fun as_ K => ∃ p q : Par, p.Ok ∧ q.Ok ∧ as_ = [.agg p.enc, .agg q.enc] ∧ K [.d (.int .i64 (pcmp p q))], hne, fun x hx => Par.has (hok x hx).1, rfl, FvC.of c185 tcmp_ok ?_, ?_, ?_⟩
     · rintro _ K ⟨a, b, ha, hb, rfl, hK⟩
       refine ⟨⟨a, b, ha, hb, rfl, hK⟩, argsTyped_of [some (.agg paKs), some (.agg paKs)] (by kernel_rfl) ?_⟩
       intro i rk d h1 h2
       match i, h1, h2 with
       | 0, h1, h2 => simp at h1 h2; subst h1 h2; exact Par.has ha
       | 1, h1, h2 => simp at h1 h2; subst h1 h2; exact Par.has hb
     · intro x hx y hy
       exact ⟨hkey x y (hok x hx).2 (hok y hy).2, x, y, (hok x hx).1, (hok y hy).1, rfl, rfl⟩
     · intro l' hperm hsorted
       have e := foot_sorted (cs := l.cues) (a := l') (fun p hp => (hpar p hp).2) hperm (List.Pairwise.imp_of_mem (fun {x y} hx hy h => by
         have h : 15 * x.ch + x.at_ ≤ 15 * y.ch + y.at_ := h
         rw [hkey y x (hok y (hperm.mem_iff.1 hy)).2 (hok x (hperm.mem_iff.1 hx)).2]; omega) hsorted)
       refine ⟨[.slice (l'.map Par.enc)], rfl, ?_⟩
       rw [e]
       simp only [zz, reduceCtorEq]
       exact hK
noncomputable def t88 : R := let x1 : T := .lcons (.var 1) (.lcons (.var 2) .lnil); let x2 : T := .idx (.var 4) (.var 6) 0 (.int .i64); let x3 : T := .idx (.var 4) (.var 6) 1 (.int .i64); let x0 : T := .push .nils (.lcons x2 (.lcons x3 (.lcons (.var 7) (.lcons (.var 8) .lnil)))); .call none (.fn 131) [.lcons (.var 0) x1] [.cell (.slice [.int .i64, .int .i64])] (.fact (.o2 .le (.o1 .len (.var 4)) (.int .i64 140737488355328)) (.loop 0 [.nils, .int .i64 0] [.slice [.int .i64, .int .i64, .int .i64, .int .i64], .int .i64] (.ite (.o2 .lt (.var 6) (.o1 .len (.var 4))) (.need (.o2 .le (.int .i64 0) (.var 6)) (.call none (.fn 132) [.lcons (.var 0) x1, .var 3, .lcons x2 (.lcons x3 .lnil)] [.agg [.int .i64, .int .i64]] (.need (.o2 .le (.o1 .len (.o2 .app (.var 5) x0)) (.int .i64 4398046511104)) (.again 0 [.o2 .app (.var 5) x0, .o2 (.add .i64) (.var 6) (.int .i64 1)])))) (.ret [.own 4 (.var 5)]))))
theorem t88_ok : fnO Tryz.prog mdA 88 [.agg [.int .i64, .int .i64, .slice [.str, .str, .slice [.int .i64, .int .i64, .int .i64, .int .i64, .int .i64], .slice [.int .i64, .int .i64, .int .i64, .int .i64, .int .i64, .int .i64], .bool, .bool, .int .i64, .str, .int .i64]], .cell (.int .i64)] = t88 := by kernel_rfl
theorem c88 : callable Tryz.prog 88 = true := by kernel_rfl
noncomputable def t89 : R := let x2 : T := .idx (.var 1) (.var 3) 2 (.int .i64); let x3 : T := .idx (.var 1) (.var 3) 3 (.int .i64); let x0 : T := .o2 .app (.var 2) (.push .nils (.lcons (.idx (.var 1) (.var 3) 0 (.int .i64)) (.lcons (.idx (.var 1) (.var 3) 1 (.int .i64)) (.lcons x2 (.lcons x3 .lnil))))); let x1 : T := .o1 .not (.o2 .band (.o2 .eq x2 (.idx (.var 0) (.var 3) 2 (.int .i64))) (.o2 .band (.o2 .eq x3 (.idx (.var 0) (.var 3) 3 (.int .i64))) (.bool true))); .fact (.o2 .le (.o1 .len (.var 1)) (.int .i64 140737488355328)) (.loop 0 [.nils, .int .i64 0] [.slice [.int .i64, .int .i64, .int .i64, .int .i64], .int .i64] (.ite (.o2 .lt (.var 3) (.o1 .len (.var 1))) (.need (.o2 .le (.int .i64 0) (.var 3)) (.need (.o2 .lt (.var 3) (.o1 .len (.var 0))) (.need (.ite x1 (.o2 .le (.o1 .len x0) (.int .i64 4398046511104)) (.bool true)) (.lets [.ite x1 x0 (.var 2)] (.again 0 [.var 4, .o2 (.add .i64) (.var 3) (.int .i64 1)]))))) (.ret [.own 4 (.var 2)])))
theorem t89_ok : fnO Tryz.prog mdA 89 [.cell (.slice [.int .i64, .int .i64, .int .i64, .int .i64]), .cell (.slice [.int .i64, .int .i64, .int .i64, .int .i64])] = t89 := by kernel_rfl
theorem c89 : callable Tryz.prog 89 = true := by kernel_rfl
noncomputable def t36 : R := let x0 : T := .lcons (.var 1) (.lcons (.var 2) .lnil); .call none (.fn 87) [.lcons (.var 0) x0, .var 3] [.cell (.int .i64), .cell (.int .i64)] (.ite (.o2 .ne (.var 5) (.int .i64 0)) (.ret [.d .nils, .d (.var 5)]) (.call none (.fn 88) [.lcons (.var 0) x0, .var 4] [.cell (.slice [.int .i64, .int .i64, .int .i64, .int .i64])] (.ret [.d (.var 6), .d (.int .i64 0)])))
theorem t36_ok : fnO Tryz.prog mdA 36 [.agg [.int .i64, .int .i64, .slice [.str, .str, .slice [.int .i64, .int .i64, .int .i64, .int .i64, .int .i64], .slice [.int .i64, .int .i64, .int .i64, .int .i64, .int .i64, .int .i64], .bool, .bool, .int .i64, .str, .int .i64]], .cell .str] = t36 := by kernel_rfl
theorem c36 : callable Tryz.prog 36 = true := by kernel_rfl
noncomputable def t37 : R := let x0 : List K := [.int .i64, .int .i64, .int .i64, .int .i64]; let x1 : T := .lcons (.var 1) (.lcons (.var 2) .lnil); .call none (.fn 87) [.lcons (.var 0) x1, .var 3] [.cell (.int .i64), .cell (.int .i64)] (.ite (.o2 .ne (.var 5) (.int .i64 0)) (.ret [.d .nils, .d (.var 5)]) (.call none (.fn 88) [.lcons (.var 0) x1, .o2 (.sub .i64) (.var 4) (.int .i64 1)] [.cell (.slice x0)] (.call none (.fn 88) [.lcons (.var 0) x1, .var 4] [.cell (.slice x0)] (.call none (.fn 89) [.var 6, .var 7] [.cell (.slice x0)] (.ret [.d (.var 8), .d (.int .i64 0)])))))
theorem t37_ok : fnO Tryz.prog mdA 37 [.agg [.int .i64, .int .i64, .slice [.str, .str, .slice [.int .i64, .int .i64, .int .i64, .int .i64, .int .i64], .slice [.int .i64, .int .i64, .int .i64, .int .i64, .int .i64, .int .i64], .bool, .bool, .int .i64, .str, .int .i64]], .cell .str] = t37 := by kernel_rfl
theorem c37 : callable Tryz.prog 37 = true := by kernel_rfl
structure Ent where
 pa : Par
 va : Val
 deriving DecidableEq
def Ent.enc (e : Ent) : List D := [.int .i64 e.pa.ch, .int .i64 e.pa.at_, .int .i64 e.va.pal, .int .i64 e.va.lev]
def Ent.Ok (e : Ent) : Prop := e.pa.Ok ∧ e.va.Ok
def enKs : List K := [.int .i64, .int .i64, .int .i64, .int .i64]
theorem Ent.has {e : Ent} (h : e.Ok) : HasKs enKs e.enc := ⟨i64_has h.1.1, i64_has h.1.2, i64_has h.2.1, i64_has h.2.2, trivial⟩
def lookL (cs : List Cue) (n : Nat) : List Ent := (movedL cs).map fun p => ⟨p, valued cs p n⟩
theorem valued_ok' {l : Lis} (hR : RightT l) (p : Par) (n : Nat) : (valued l.cues p n).Ok := by
 unfold valued lastM
 cases h : (backL l.cues n).findSome? fun c => mfind c.moves p with
 | none => exact ⟨⟨by decide, by decide⟩, ⟨by decide, by decide⟩⟩
 | some m =>
   obtain ⟨c, hc, hm⟩ := List.exists_of_findSome?_eq_some h
   have hcm := backL_mem hc
   exact ((hR.ok.cues c hcm).moves m (List.mem_of_find?_eq_some hm)).2.1
theorem moved_len {l : Lis} (hR : RightT l) : (movedL l.cues).length ≤ 8192 := by
 have h1 := pars_len (cs := l.cues) fun c hc => (hR.moves c hc).len
 have h2 := length_putAll (ps := pars l.cues) (a := [])
 have h3 := hR.len
 simp only [movedL, List.length_nil] at h2 ⊢
 omega
theorem moved_par {l : Lis} (hR : RightT l) : ∀ p ∈ movedL l.cues, p.Ok ∧ param15 p = 0 := fun p hp => pars_ok hR p (mem_movedL.1 hp)
theorem lookL_ok {l : Lis} (hR : RightT l) (n : Nat) : ∀ e ∈ lookL l.cues n, e.Ok := by
 intro e he
 obtain ⟨p, hp, rfl⟩ := List.mem_map.1 he
 exact ⟨(moved_par hR p hp).1, valued_ok' hR p n⟩
theorem has_ln {l : Lis} (hl : l.Ok) {v : Int} (hv : I64 v) : HasKs (liKs ++ [.int .i64]) (l.enc ++ [.int .i64 v]) := (Lis.has hl).append (i64_one hv)
def lookGo (cs : List Cue) (n : Nat) (ps : List Par) (acc : List Ent) : List Ent := acc ++ ps.map fun p => ⟨p, valued cs p n⟩
theorem look_ok : Contract Tryz.prog 88 fun args K => ∃ (l : Lis) (n : Nat), RightT l ∧ n ≤ l.cues.length ∧ args = [.agg l.enc, .int .i64 ((n : Int) - 1)] ∧ K [.own 4 ((lookL l.cues n).map Ent.enc)] := by
 refine .of c88 t88_ok ?_
 rintro _ K ⟨l, n, hR, hn, rfl, hK⟩ hsm
 have hlen := hR.len
 have h64 : I64 ((n : Int) - 1) := ⟨by omega, by omega⟩
 refine ⟨l.enc ++ [.int .i64 ((n : Int) - 1)], rfl, by exact has_ln hR.ok h64, ?_⟩
 refine denR_call footprint_ok ⟨l, hR, by simp only [zz, reduceCtorEq, Lis.enc], _, rfl, ?_⟩
 have hml := moved_len hR
 have hmp := moved_par hR
 generalize hps : movedL l.cues = ps at hml hmp
 have hK' : K [.own 4 ((lookGo l.cues n ps []).map Ent.enc)] := by simpa [lookGo, lookL, hps] using hK
 simp only [zz, reduceCtorEq, Lis.enc, List.length_map]
 intro hcap
 refine loop_goI ps (fun _ ps (acc : List Ent) => lookGo l.cues n ps acc) (fun i acc => [.slice (acc.map Ent.enc), .int .i64 i]) (fun i acc => acc.length = i) [] (lookGo l.cues n ps []) rfl rfl 1 (fun _ _ => rfl) rfl ?_ ?_
 · intro i hi acc hI hgo
   have hpm := hmp _ (List.getElem_mem hi)
   simp only [zz, reduceCtorEq, List.length_map, hi, getD_map hi, Par.enc]
   refine ⟨by omega, ?_⟩
   refine denR_call tvalue_ok ⟨l, n, ps[i], hR, hn, hpm.1, hpm.2, by simp only [zz, reduceCtorEq, Lis.enc, getD_map hi, Par.enc], _, rfl, ?_⟩
   simp only [zz, reduceCtorEq, Lis.enc, getD_map hi, Par.enc, Val.enc, List.length_append, List.length_map]
   refine ⟨by simp; omega, acc ++ [⟨ps[i], valued l.cues ps[i] n⟩], ⟨by simp [Ent.enc], by rw [wr64_eq] <;> omega⟩, by simp [hI], by simp only [lookGo, List.append_assoc, List.singleton_append, List.map_cons, List.map_drop] at hgo ⊢; exact hgo⟩
 · intro acc hI hgo
   simp only [zz, reduceCtorEq, List.length_map, Nat.lt_irrefl]
   rw [← hgo] at hK'
   simpa [lookGo] using hK'
def diffE : List Ent → List Ent → List Ent
 | x :: a, y :: b => if x.va = y.va then diffE a b else y :: diffE a b
 | _, _ => []
def SamePs (a b : List Ent) : Prop := a.map (·.pa) = b.map (·.pa)
theorem look_same (cs : List Cue) (n k : Nat) : SamePs (lookL cs n) (lookL cs k) := by simp [SamePs, lookL]
theorem diffE_drop {a b : List Ent} {i : Nat} (ha : i < a.length) (hb : i < b.length) : diffE (a.drop i) (b.drop i) = if a[i].va = b[i].va then diffE (a.drop (i + 1)) (b.drop (i + 1)) else b[i] :: diffE (a.drop (i + 1)) (b.drop (i + 1)) := by
 rw [List.drop_eq_getElem_cons ha, List.drop_eq_getElem_cons hb]; rfl
theorem SamePs.len {a b : List Ent} (h : SamePs a b) : a.length = b.length := by
 have := congrArg List.length h
 simpa using this
theorem SamePs.get {a b : List Ent} (h : SamePs a b) {i : Nat} (ha : i < a.length) (hb : i < b.length) : a[i].pa = b[i].pa := by
 have h1 : (a.map (·.pa))[i]? = (b.map (·.pa))[i]? := by rw [h]
 simpa [ha, hb] using h1
theorem ents_has {a : List Ent} (h : ∀ e ∈ a, e.Ok) : HasK (.slice enKs) (.slice (a.map Ent.enc)) := slice_has fun e he => Ent.has (h e he)
theorem val_eq (v w : Val) : v = w ↔ v.pal = w.pal ∧ v.lev = w.lev := ⟨fun h => by rw [h]; exact ⟨rfl, rfl⟩, fun h => by cases v; cases w; simp_all⟩
theorem different_ok : Contract Tryz.prog 89 fun args K => ∃ (a b : List Ent), (∀ e ∈ a, e.Ok) ∧ (∀ e ∈ b, e.Ok) ∧ SamePs a b ∧ a.length ≤ 10000 ∧ args = [.slice (a.map Ent.enc), .slice (b.map Ent.enc)] ∧ K [.own 4 ((diffE a b).map Ent.enc)] := by
 refine .of c89 t89_ok ?_
 rintro _ K ⟨a, b, ha, hb, hab, hlen, rfl, hK⟩ hsm
 refine ⟨[.slice (a.map Ent.enc), .slice (b.map Ent.enc)], rfl, ⟨ents_has ha, ents_has hb, trivial⟩, ?_⟩
 have hl := hab.len
 simp only [zz, reduceCtorEq, t89, List.length_map]
 intro hcap
 refine loop_goI b (fun i _ (acc : List Ent) => acc ++ diffE (a.drop i) (b.drop i)) (fun i acc => [.slice (acc.map Ent.enc), .int .i64 i]) (fun i acc => acc.length ≤ i) [] (diffE a b) (by simp) (by simp) 1 (fun _ _ => rfl) rfl ?_ ?_
 · intro i hi acc hI hgo
   have hia : i < a.length := by omega
   rw [diffE_drop hia hi] at hgo
   have hv := val_eq a[i].va b[i].va
   simp only [zz, reduceCtorEq, List.length_map, hi, hia, getD_map hi, getD_map hia, Ent.enc, List.length_append]
   by_cases h : a[i].va = b[i].va
   · rw [if_pos h] at hgo
     have h' := hv.1 h
     have e1 : b[i].va.pal = a[i].va.pal := h'.1.symm
     have e2 : b[i].va.lev = a[i].va.lev := h'.2.symm
     simp only [zz, reduceCtorEq, e1, e2]
     refine ⟨by omega, by simp, acc, ⟨by simp, by rw [wr64_eq] <;> omega⟩, by omega, hgo⟩
   · rw [if_neg h] at hgo
     have h' : ¬ (b[i].va.pal = a[i].va.pal ∧ b[i].va.lev = a[i].va.lev) := fun e => h (hv.2 ⟨e.1.symm, e.2.symm⟩)
     have hc : (¬b[i].va.pal = a[i].va.pal ∨ ¬b[i].va.lev = a[i].va.lev ∨ False) = True := by
       rw [eq_iff_iff]
       refine ⟨fun _ => trivial, fun _ => ?_⟩
       by_cases e : b[i].va.pal = a[i].va.pal
       · exact .inr (.inl fun e2 => h' ⟨e, e2⟩)
       · exact .inl e
     simp only [hc, if_true]
     refine ⟨by omega, by simp; omega, acc ++ [b[i]], ⟨by simp [Ent.enc], by rw [wr64_eq] <;> omega⟩, by simp; omega, by simpa using hgo⟩
 · intro acc hI hgo
   simp only [List.drop_length] at hgo
   have e : diffE (a.drop b.length) [] = [] := by cases a.drop b.length <;> rfl
   rw [e, List.append_nil] at hgo
   simp only [zz, reduceCtorEq, List.length_map, Nat.lt_irrefl]
   rw [← hgo] at hK
   exact hK
def lookR (l : Lis) (s : List UInt8) : List Ent × Int := if cue18 l s ≠ 0 then ([], cue18 l s) else (lookL l.cues (upto l s), 0)
def stepsR (l : Lis) (s : List UInt8) : List Ent × Int := if cue18 l s ≠ 0 then ([], cue18 l s) else (diffE (lookL l.cues (upto l s - 1)) (lookL l.cues (upto l s)), 0)
def changesR (l : Lis) (s t : List UInt8) : List Ent × Int := if cue18 l s ≠ 0 then ([], cue18 l s) else if cue18 l t ≠ 0 then ([], cue18 l t) else (diffE (lookL l.cues (upto l s)) (lookL l.cues (upto l t)), 0)
def footR (l : Lis) : List Par × Int := if checkL order05 l ≠ 0 then ([], checkL order05 l) else (movedL l.cues, 0)
def entRV (r : List Ent × Int) : List RV := [.d (.slice (r.1.map Ent.enc)), .d (.int .i64 r.2)]
theorem lookC_ok : Contract Tryz.prog 36 fun args K => ∃ (l : Lis) (s : List UInt8), l.Ok ∧ args = [.agg l.enc, .str s] ∧ K (entRV (lookR l s)) := by
 refine .of c36 t36_ok ?_
 rintro _ K ⟨l, s, hl, rfl, hK⟩ hsm
 refine ⟨l.enc ++ [.str s], rfl, by exact has_s hl, ?_⟩
 refine denR_call tplace_ok ⟨l, s, hl, by simp only [zz, reduceCtorEq, Lis.enc], _, rfl, ?_⟩
 simp only [zz, reduceCtorEq, Lis.enc]
 unfold lookR at hK
 refine ⟨fun h => ?_, fun h => ?_⟩
 · have h : cue18 l s ≠ 0 := by simpa using h
   rw [if_pos h] at hK; exact hK
 have h : cue18 l s = 0 := by simpa using h
 obtain ⟨hR, h05, hpl, hup, hu0, hul⟩ := cue18_right hl h
 rw [if_neg (by simp [h])] at hK
 have hat : (if cue18 l s ≠ 0 then 0 else place l.cues s) = (upto l s : Int) - 1 := by rw [if_neg (by simp [h])]; exact hup
 refine denR_call look_ok ⟨l, upto l s, hR, hul, by simp only [zz, reduceCtorEq, Lis.enc, hat], _, rfl, ?_⟩
 simp only [zz, reduceCtorEq, Lis.enc]
 exact hK
theorem lookL_len {l : Lis} (hR : RightT l) (n : Nat) : (lookL l.cues n).length ≤ 10000 := by
 have := moved_len hR
 simp only [lookL, List.length_map]; omega
theorem stepsC_ok : Contract Tryz.prog 37 fun args K => ∃ (l : Lis) (s : List UInt8), l.Ok ∧ args = [.agg l.enc, .str s] ∧ K (entRV (stepsR l s)) := by
 refine .of c37 t37_ok ?_
 rintro _ K ⟨l, s, hl, rfl, hK⟩ hsm
 refine ⟨l.enc ++ [.str s], rfl, by exact has_s hl, ?_⟩
 refine denR_call tplace_ok ⟨l, s, hl, by simp only [zz, reduceCtorEq, Lis.enc], _, rfl, ?_⟩
 simp only [zz, reduceCtorEq, Lis.enc]
 unfold stepsR at hK
 refine ⟨fun h => ?_, fun h => ?_⟩
 · have h : cue18 l s ≠ 0 := by simpa using h
   rw [if_pos h] at hK; exact hK
 have h : cue18 l s = 0 := by simpa using h
 obtain ⟨hR, h05, hpl, hup, hu0, hul⟩ := cue18_right hl h
 have hlen := hR.len
 rw [if_neg (by simp [h])] at hK
 have hat : (if cue18 l s ≠ 0 then 0 else place l.cues s) = (upto l s : Int) - 1 := by rw [if_neg (by simp [h])]; exact hup
 have hat1 : wr64 ((upto l s : Int) - 1 - 1) = ((upto l s - 1 : Nat) : Int) - 1 := by rw [wr64_eq (by omega)]; omega
 refine denR_call look_ok ⟨l, upto l s - 1, hR, by omega, by simp only [zz, reduceCtorEq, Lis.enc, hat, hat1], _, rfl, ?_⟩
 refine denR_call look_ok ⟨l, upto l s, hR, hul, by simp only [zz, reduceCtorEq, Lis.enc, hat], _, rfl, ?_⟩
 refine denR_call different_ok ⟨_, _, lookL_ok hR (upto l s - 1), lookL_ok hR (upto l s), look_same _ _ _, lookL_len hR _, by simp only [zz, reduceCtorEq, Lis.enc], _, rfl, ?_⟩
 simp only [zz, reduceCtorEq, Lis.enc]
 exact hK
def parRV (r : List Par × Int) : List RV := [.d (.slice (r.1.map Par.enc)), .d (.int .i64 r.2)]
noncomputable def t17 : R := let x0 : T := .o1 .len (.idx (.var 2) (.var 5) 2 (.slice [.int .i64, .int .i64, .int .i64, .int .i64, .int .i64])); let x1 : T := .lcons (.var 1) (.lcons (.var 2) .lnil); let x2 : T := .o1 .len (.var 2); .call none (.fn 66) [.lcons (.var 0) x1] [.cell .bool] (.ite (.o1 .not (.var 3)) (.ret [.d (.bool false)]) (.fact (.o2 .le x2 (.int .i64 140737488355328)) (.ite (.o2 .gt x2 (.int .i64 10)) (.call none (.fn 67) [.lcons (.var 0) x1] [.cell (.int .i64)] (.ret [.d (.o2 .ne (.var 4) (.int .i64 0))])) (.loop 0 [.int .i64 0, .int .i64 0] [.int .i64, .int .i64] (.ite (.o2 .lt (.var 5) x2) (.need (.o2 .le (.int .i64 0) (.var 5)) (.fact (.o2 .le x0 (.int .i64 140737488355328)) (.ite (.ite (.o2 .gt x0 (.int .i64 20)) (.bool true) (.o2 .gt (.o2 (.add .i64) (.var 4) x0) (.int .i64 30))) (.call none (.fn 67) [.lcons (.var 0) x1] [.cell (.int .i64)] (.ret [.d (.o2 .ne (.var 6) (.int .i64 0))])) (.again 0 [.o2 (.add .i64) (.var 4) x0, .o2 (.add .i64) (.var 5) (.int .i64 1)])))) (.ret [.d (.bool true)]))))))
theorem t17_ok : fnO Tryz.prog mdA 17 [.agg [.int .i64, .int .i64, .slice [.str, .str, .slice [.int .i64, .int .i64, .int .i64, .int .i64, .int .i64], .slice [.int .i64, .int .i64, .int .i64, .int .i64, .int .i64, .int .i64], .bool, .bool, .int .i64, .str, .int .i64]]] = t17 := by kernel_rfl
theorem c17 : callable Tryz.prog 17 = true := by kernel_rfl
noncomputable def t23 : R := let x0 : T := .o1 .len (.var 0); let x1 : T := .o1 .len (.var 1); .fact (.o2 .le x0 (.int .i64 140737488355328)) (.fact (.o2 .le x1 (.int .i64 140737488355328)) (.ite (.o2 .ne x0 x1) (.ret [.d (.bool false)]) (.loop 0 [.int .i64 0] [.int .i64] (.ite (.o2 .lt (.var 2) x0) (.need (.o2 .le (.int .i64 0) (.var 2)) (.need (.o2 .lt (.var 2) x1) (.ite (.o1 .not (.o2 .band (.o2 .band (.o2 .eq (.idx (.var 0) (.var 2) 0 (.int .i64)) (.idx (.var 1) (.var 2) 0 (.int .i64))) (.o2 .band (.o2 .eq (.idx (.var 0) (.var 2) 1 (.int .i64)) (.idx (.var 1) (.var 2) 1 (.int .i64))) (.bool true))) (.o2 .band (.o2 .band (.o2 .eq (.idx (.var 0) (.var 2) 2 (.int .i64)) (.idx (.var 1) (.var 2) 2 (.int .i64))) (.o2 .band (.o2 .eq (.idx (.var 0) (.var 2) 3 (.int .i64)) (.idx (.var 1) (.var 2) 3 (.int .i64))) (.bool true))) (.bool true)))) (.ret [.d (.bool false)]) (.again 0 [.o2 (.add .i64) (.var 2) (.int .i64 1)])))) (.ret [.d (.bool true)])))))
noncomputable def t24 : R := let x0 : T := .o1 .len (.var 0); let x1 : T := .o1 .len (.var 1); .fact (.o2 .le x0 (.int .i64 140737488355328)) (.fact (.o2 .le x1 (.int .i64 140737488355328)) (.ite (.o2 .ne x0 x1) (.ret [.d (.bool false)]) (.loop 0 [.int .i64 0] [.int .i64] (.ite (.o2 .lt (.var 2) x0) (.need (.o2 .le (.int .i64 0) (.var 2)) (.need (.o2 .lt (.var 2) x1) (.ite (.o1 .not (.o2 .band (.o2 .eq (.idx (.var 0) (.var 2) 0 (.int .i64)) (.idx (.var 1) (.var 2) 0 (.int .i64))) (.o2 .band (.o2 .eq (.idx (.var 0) (.var 2) 1 (.int .i64)) (.idx (.var 1) (.var 2) 1 (.int .i64))) (.bool true)))) (.ret [.d (.bool false)]) (.again 0 [.o2 (.add .i64) (.var 2) (.int .i64 1)])))) (.ret [.d (.bool true)])))))
theorem t24_ok : fnO Tryz.prog mdA 24 [.cell (.slice [.int .i64, .int .i64]), .cell (.slice [.int .i64, .int .i64])] = t24 := by kernel_rfl
theorem c24 : callable Tryz.prog 24 = true := by kernel_rfl
noncomputable def t149 : R := .ret [.d (.lcons (.int .i64 0) (.lcons (.var 0) .lnil))]
theorem t149_ok : fnO Tryz.prog mdA 149 [.cell (.int .i64)] = t149 := by kernel_rfl
theorem c149 : callable Tryz.prog 149 = true := by kernel_rfl
theorem few18_ok : Contract Tryz.prog 17 fun args K => ∃ (l : Lis), l.Ok ∧ args = [.agg l.enc] ∧ ∀ b : Bool, K [.d (.bool b)] := by
 refine .of c17 t17_ok ?_
 rintro _ K ⟨l, hl, rfl, hK⟩ hsm
 refine ⟨l.enc, rfl, Lis.has hl, ?_⟩
 refine denR_call few17_ok ⟨l, hl, by simp only [zz, reduceCtorEq, Lis.enc], _, rfl, ?_⟩
 simp only [zz, reduceCtorEq, Lis.enc, List.length_map]
 refine ⟨fun _ => hK false, fun _ hcap => ⟨fun _ => ?_, fun h10 => ?_⟩⟩
 · refine denR_call check17_ok ⟨l, hl, by simp only [zz, reduceCtorEq, Lis.enc], _, rfl, ?_⟩
   simp only [zz, reduceCtorEq]
   exact hK _
 · rw [denR_loop]
   refine ⟨fun c ys => c = none ∧ ∃ (i : Nat) (m : Int), i ≤ l.cues.length ∧ ys = [.int .i64 m, .int .i64 i], fun ys => match ys with | [_, .int _ i] => l.cues.length - i.toNat | _ => 0, ⟨rfl, 0, 0, Nat.zero_le _, rfl⟩, ?_⟩
   rintro _ _ _ ⟨rfl, i, m, hi, rfl⟩
   simp only [zz, reduceCtorEq, List.length_map]
   refine ⟨fun h => ?_, fun _ => hK true⟩
   have h : i < l.cues.length := by omega
   simp only [zz, reduceCtorEq, getD_map h, Cue.enc, List.length_map]
   refine ⟨by omega, fun hcap2 => ⟨fun _ => ?_, fun _ => ?_⟩⟩
   · refine denR_call check17_ok ⟨l, hl, by simp only [zz, reduceCtorEq, Lis.enc], _, rfl, ?_⟩
     simp only [zz, reduceCtorEq]
     exact hK _
   · refine ⟨⟨rfl, i + 1, _, by omega, ⟨rfl, ?_⟩⟩, ?_⟩
     · rw [wr64_eq (by omega)]; rfl
     · rw [wr64_eq (by omega)]
       show l.cues.length - ((i : Int) + 1).toNat < l.cues.length - ((i : Int)).toNat
       omega
theorem samePars_ok : Contract Tryz.prog 24 fun args K => ∃ (a : List Par), (∀ e ∈ a, e.Ok) ∧ args = [.slice (a.map Par.enc), .slice (a.map Par.enc)] ∧ K [.d (.bool true)] := by
 refine .of c24 t24_ok ?_
 rintro _ K ⟨a, ha, rfl, hK⟩ hsm
 refine ⟨[.slice (a.map Par.enc), .slice (a.map Par.enc)], rfl, ⟨pars_has ha, pars_has ha, trivial⟩, ?_⟩
 simp only [zz, reduceCtorEq, t24, List.length_map]
 intro hcap _
 refine loop_go a (fun _ _ (_ : Unit) => ()) (fun i _ => [.int .i64 i]) () () rfl 0 (fun _ _ => rfl) rfl ?_ ?_
 · intro i hi _ _
   simp only [zz, reduceCtorEq, List.length_map, hi, getD_map hi, Par.enc]
   refine ⟨by omega, fun h => by simp at h, ?_⟩
   exact ⟨(), by rw [wr64_eq] <;> omega⟩
 · intro _ _
   simp only [zz, reduceCtorEq, List.length_map, Nat.lt_irrefl]
   exact hK
theorem at15_ok : Contract Tryz.prog 149 fun args K => ∃ v : Int, I64 v ∧ args = [.int .i64 v] ∧ K [.d (.agg (Val.enc ⟨0, v⟩))] := by
 refine .of c149 t149_ok ?_
 rintro _ K ⟨v, hv, rfl, hK⟩ hsm
 refine ⟨[.int .i64 v], rfl, ⟨i64_has hv, trivial⟩, ?_⟩
 simp only [zz, reduceCtorEq, t149]
 exact hK
def mv18 (c a v : Int) : Mov := ⟨⟨c, a⟩, ⟨0, v⟩, 1⟩
def zt : Tim := ⟨0, 0, 0, 0, 0, 0⟩
def cue169 (n : List UInt8) (b : Bool) (ms : List Mov) : Cue := ⟨n, [], ms, [zt], b, false, -1, [], 0⟩
def four : Lis := ⟨1, 0, [cue169 [49] false [mv18 1 0 100, mv18 1 1 7], cue169 [50] false [mv18 1 0 200], cue169 [51] true [mv18 1 1 9], cue169 [52] false [mv18 2 0 50]]⟩
theorem mv18_Ok {c a v : Int} (hc : I64 c) (ha : I64 a) (hv : I64 v) : (mv18 c a v).Ok := ⟨⟨hc, ha⟩, ⟨show I64 0 from ⟨by decide, by decide⟩, hv⟩, show I64 1 from ⟨by decide, by decide⟩⟩
def e10 (v : Val) : Ent := ⟨⟨1, 0⟩, v⟩
def e11 (v : Val) : Ent := ⟨⟨1, 1⟩, v⟩
def e20 (v : Val) : Ent := ⟨⟨2, 0⟩, v⟩
def SmallV (v : Val) : Prop := -1000 ≤ v.pal ∧ v.pal ≤ 1000 ∧ -1000 ≤ v.lev ∧ v.lev ≤ 1000
theorem SmallV.ok {v : Val} (h : SmallV v) : v.Ok := ⟨⟨by have := h.1; omega, by have := h.2.1; omega⟩, ⟨by have := h.2.2.1; omega, by have := h.2.2.2; omega⟩⟩
theorem Par.ofAgg {d : D} (h : HasK (.agg paKs) d) : ∃ p : Par, p.Ok ∧ d = .agg p.enc := by
 cases d <;> simp only [HasK] at h
 rename_i cs
 match cs, h with
 | [a, b], h =>
   simp only [paKs, HasKs, and_true] at h
   obtain ⟨x, rfl, hx⟩ := i64_of h.1
   obtain ⟨y, rfl, hy⟩ := i64_of h.2
   exact ⟨⟨x, y⟩, ⟨hx, hy⟩, rfl⟩
noncomputable def t119 : R := let x0 : T := .lcons (.var 1) (.lcons (.var 2) .lnil); let x1 : List K := [.int .i64, .int .i64, .int .i64, .int .i64]; let x2 : T := .push .nils (.lcons (.var 6) .lnil); .call none (.fn 178) [.lcons (.var 0) x0] [.cell (.int .i64)] (.ite (.o2 .ne (.var 3) (.int .i64 0)) (.ret [.d .nils, .d (.var 3)]) (.fact (.o2 .le (.o1 .len (.var 2)) (.int .i64 140737488355328)) (.loop 0 [.nils, .int .i64 0] [.slice [.slice x1], .int .i64] (.ite (.o2 .lt (.var 5) (.o1 .len (.var 2))) (.call none (.fn 88) [.lcons (.var 0) x0, .var 5] [.cell (.slice x1)] (.need (.o2 .le (.o1 .len (.o2 .app (.var 4) x2)) (.int .i64 5864062014805)) (.again 0 [.o2 .app (.var 4) x2, .o2 (.add .i64) (.var 5) (.int .i64 1)]))) (.ret [.own 1 (.var 4), .d (.int .i64 0)])))))
theorem t119_ok : fnO Tryz.prog mdA 119 [.agg [.int .i64, .int .i64, .slice [.str, .str, .slice [.int .i64, .int .i64, .int .i64, .int .i64, .int .i64], .slice [.int .i64, .int .i64, .int .i64, .int .i64, .int .i64, .int .i64], .bool, .bool, .int .i64, .str, .int .i64]]] = t119 := by kernel_rfl
theorem c119 : callable Tryz.prog 119 = true := by kernel_rfl
def sheetL (cs : List Cue) (n : Nat) : List (List Ent) := (List.range n).map fun k => lookL cs (k + 1)
theorem sheetL_succ (cs : List Cue) (n : Nat) : sheetL cs (n + 1) = sheetL cs n ++ [lookL cs (n + 1)] := by simp [sheetL, List.range_succ]
theorem sheetL_len (cs : List Cue) (n : Nat) : (sheetL cs n).length = n := by simp [sheetL]
def enS (x : List Ent) : List D := [.slice (x.map Ent.enc)]
def sheetR (l : Lis) : List (List Ent) × Int := if checkL order05 l ≠ 0 then ([], checkL order05 l) else (sheetL l.cues l.cues.length, 0)
theorem sheetC_ok : Contract Tryz.prog 119 fun args K => ∃ (l : Lis), l.Ok ∧ args = [.agg l.enc] ∧ ∀ rvs, (rvs = [.d (.slice ((sheetR l).1.map enS)), .d (.int .i64 (sheetR l).2)] ∨ rvs = [.own 1 ((sheetR l).1.map enS), .d (.int .i64 (sheetR l).2)]) → K rvs := by
 refine .of c119 t119_ok ?_
 rintro _ K ⟨l, hl, rfl, hK⟩ hsm
 refine ⟨l.enc, rfl, Lis.has hl, ?_⟩
 refine denR_call clCheck17_ok ⟨l, hl, by simp only [zz, reduceCtorEq, Lis.enc], _, rfl, ?_⟩
 simp only [zz, reduceCtorEq, Lis.enc]
 unfold sheetR at hK
 refine ⟨fun h => ?_, fun h => ?_⟩
 · have h : checkL order05 l ≠ 0 := by simpa using h
   rw [if_pos h] at hK; exact hK _ (.inl rfl)
 have h : checkL order05 l = 0 := by simpa using h
 rw [if_neg (by simp [h])] at hK
 have hR := rightT_of hl h
 have hlen := hR.len
 intro hcap
 refine loop_goI l.cues (fun _ _ (_ : List (List Ent)) => ()) (fun i acc => [.slice (acc.map enS), .int .i64 i]) (fun i acc => acc = sheetL l.cues i) [] () rfl rfl 1 (fun _ _ => rfl) rfl ?_ ?_
 · rintro i hi acc rfl _
   have hat : (((i + 1 : Nat) : Int) - 1) = (i : Int) := by omega
   simp only [zz, reduceCtorEq, List.length_map, hi]
   refine denR_call look_ok ⟨l, i + 1, hR, hi, by simp only [zz, reduceCtorEq, Lis.enc, hat], _, rfl, ?_⟩
   simp only [zz, reduceCtorEq, Lis.enc, List.length_append, List.length_map, sheetL_len]
   refine ⟨by simp; omega, sheetL l.cues (i + 1), ⟨by rw [sheetL_succ]; simp [enS], by rw [wr64_eq] <;> omega⟩, rfl⟩
 · rintro acc rfl _
   simp only [zz, reduceCtorEq, List.length_map, Nat.lt_irrefl]
   exact hK _ (.inr rfl)
theorem sheet_has {a : List (List Ent)} (h : ∀ x ∈ a, ∀ e ∈ x, e.Ok) : HasK (.slice [.slice enKs]) (.slice (a.map enS)) := slice_has fun x hx => ⟨ents_has (h x hx), trivial⟩
noncomputable def t38 : R := let x0 : T := .o1 .len (.var 0); let x1 : T := .o1 .len (.var 1); .fact (.o2 .le x0 (.int .i64 140737488355328)) (.fact (.o2 .le x1 (.int .i64 140737488355328)) (.ite (.o2 .ne x0 x1) (.ret [.d (.bool false)]) (.loop 0 [.int .i64 0] [.int .i64] (.ite (.o2 .lt (.var 2) x0) (.need (.o2 .le (.int .i64 0) (.var 2)) (.need (.o2 .lt (.var 2) x1) (.ite (.o1 .not (.o2 .band (.o2 .band (.o2 .eq (.idx (.var 0) (.var 2) 0 (.int .i64)) (.idx (.var 1) (.var 2) 0 (.int .i64))) (.o2 .band (.o2 .eq (.idx (.var 0) (.var 2) 1 (.int .i64)) (.idx (.var 1) (.var 2) 1 (.int .i64))) (.bool true))) (.o2 .band (.o2 .band (.o2 .eq (.idx (.var 0) (.var 2) 2 (.int .i64)) (.idx (.var 1) (.var 2) 2 (.int .i64))) (.o2 .band (.o2 .eq (.idx (.var 0) (.var 2) 3 (.int .i64)) (.idx (.var 1) (.var 2) 3 (.int .i64))) (.bool true))) (.bool true)))) (.ret [.d (.bool false)]) (.again 0 [.o2 (.add .i64) (.var 2) (.int .i64 1)])))) (.ret [.d (.bool true)])))))
theorem t38_ok : fnO Tryz.prog mdA 38 [.cell (.slice [.int .i64, .int .i64, .int .i64, .int .i64]), .cell (.slice [.int .i64, .int .i64, .int .i64, .int .i64])] = t38 := by kernel_rfl
theorem c38 : callable Tryz.prog 38 = true := by kernel_rfl
noncomputable def t128 : R := .guess (.o2 .eq (.o1 .len (.var 0)) (.int .i64 0)) (.ite (.var 1) (.ret [.own 4 .nils]) (.need (.o2 .le (.o1 .len (.o2 .app .nils (.var 0))) (.int .i64 4398046511104)) (.ret [.own 4 (.o2 .app .nils (.var 0))])))
theorem t128_ok : fnO Tryz.prog mdA 128 [.cell (.slice [.int .i64, .int .i64, .int .i64, .int .i64])] = t128 := by kernel_rfl
theorem c128 : callable Tryz.prog 128 = true := by kernel_rfl
def homesL (ps : List Par) : List Ent := ps.map fun p => ⟨p, hval⟩
def entsOf (ms : List Mov) : List Ent := ms.map fun m => ⟨m.pa, m.va⟩
def put1 (a : List Ent) (x : Ent) : List Ent := a.map fun y => if y.pa = x.pa then x else y
def overL (a es : List Ent) : List Ent := es.foldl put1 a
def pickE (es : List Ent) (y : Ent) : Ent := (es.find? fun x => decide (x.pa = y.pa)).getD y
theorem overL_map : ∀ {es a : List Ent}, (es.map (·.pa)).Nodup → overL a es = a.map (pickE es)
 | [], a, _ => by
   have : pickE [] = id := by funext y; rfl
   rw [this]; simp [overL]
 | x :: es, a, h => by
   simp only [List.map_cons, List.nodup_cons] at h
   show overL (put1 a x) es = _
   rw [overL_map h.2, put1, List.map_map]
   refine List.map_congr_left fun y _ => ?_
   simp only [Function.comp]
   by_cases hy : y.pa = x.pa
   · rw [if_pos hy]
     have h1 : es.find? (fun z => decide (z.pa = x.pa)) = none := by
       rw [List.find?_eq_none]
       intro z hz he
       exact h.1 (List.mem_map.2 ⟨z, hz, by simpa using he⟩)
     simp [pickE, h1, hy]
   · rw [if_neg hy]
     have h2 : ¬ x.pa = y.pa := fun e => hy e.symm
     simp [pickE, List.find?_cons, h2]
theorem nodup_rising {ps : List Par} (h : RisingP ps) : ps.Nodup := h.imp fun {a b} hab e => by subst e; rw [before_irr] at hab; cases hab
theorem nodup_moves {ms : List Mov} (h : RisingM ms) : ((entsOf ms).map (·.pa)).Nodup := by
 simp only [entsOf, List.map_map]
 rw [List.Nodup, List.pairwise_map]
 exact h.imp fun {a b} hab e => by simp only [Function.comp] at e; rw [e, before_irr] at hab; cases hab
theorem pick_ents (ms : List Mov) (p : Par) (v : Val) : pickE (entsOf ms) ⟨p, v⟩ = ⟨p, ((mfind ms p).map (·.va)).getD v⟩ := by
 simp only [pickE, entsOf, List.find?_map, mfind]
 have : ((fun x : Ent => decide (x.pa = p)) ∘ fun m : Mov => (⟨m.pa, m.va⟩ : Ent)) = fun m => decide (m.pa = p) := rfl
 rw [this]
 cases hf : ms.find? fun m => decide (m.pa = p) with
 | none => rfl
 | some m =>
   have := List.find?_some hf
   simp only [decide_eq_true_eq] at this
   simp [← this]
theorem look_zero (cs : List Cue) : lookL cs 0 = homesL (movedL cs) := by simp [lookL, homesL, valued, lastM, backL]
theorem put1_Ok {a : List Ent} {x : Ent} (ha : ∀ e ∈ a, e.Ok) (hx : x.Ok) : ∀ e ∈ put1 a x, e.Ok := by
 intro e he
 obtain ⟨y, hy, rfl⟩ := List.mem_map.1 he
 split
 · exact hx
 · exact ha y hy
theorem cloneE_ok : Contract Tryz.prog 128 fun args K => ∃ (a : List Ent), (∀ e ∈ a, e.Ok) ∧ a.length ≤ 10000 ∧ args = [.slice (a.map Ent.enc)] ∧ K [.own 4 (a.map Ent.enc)] := by
 refine .of c128 t128_ok ?_
 rintro _ K ⟨a, ha, hlen, rfl, hK⟩ hsm
 refine ⟨[.slice (a.map Ent.enc)], rfl, ⟨ents_has ha, trivial⟩, ?_⟩
 unfold t128
 simp only [denR]
 intro b hb
 simp only [zz, reduceCtorEq, List.length_map]
 cases b with
 | true =>
   have := hb rfl
   simp only [zz, reduceCtorEq, List.length_map] at this
   have h0 : a = [] := List.eq_nil_of_length_eq_zero (by omega)
   subst h0
   exact ⟨fun _ => hK, fun h => by simp at h⟩
 | false =>
   exact ⟨fun h => by simp at h, fun _ => ⟨by omega, hK⟩⟩
theorem eqEnts_ok : Contract Tryz.prog 38 fun args K => ∃ (a : List Ent), (∀ e ∈ a, e.Ok) ∧ args = [.slice (a.map Ent.enc), .slice (a.map Ent.enc)] ∧ K [.d (.bool true)] := by
 refine .of c38 t38_ok ?_
 rintro _ K ⟨a, ha, rfl, hK⟩ hsm
 refine ⟨[.slice (a.map Ent.enc), .slice (a.map Ent.enc)], rfl, ⟨ents_has ha, ents_has ha, trivial⟩, ?_⟩
 simp only [zz, reduceCtorEq, t38, List.length_map]
 intro hcap _
 refine loop_go a (fun _ _ (_ : Unit) => ()) (fun i _ => [.int .i64 i]) () () rfl 0 (fun _ _ => rfl) rfl ?_ ?_
 · intro i hi _ _
   simp only [zz, reduceCtorEq, List.length_map, hi, getD_map hi, Ent.enc]
   refine ⟨by omega, fun h => by simp at h, ?_⟩
   exact ⟨(), by rw [wr64_eq] <;> omega⟩
 · intro _ _
   simp only [zz, reduceCtorEq, List.length_map, Nat.lt_irrefl]
   exact hK
theorem cue18_at {l : Lis} (h : checkL order05 l = 0) {i : Nat} (hi : i < l.cues.length) : cue18 l l.cues[i].num = 0 ∧ upto l l.cues[i].num = i + 1 ∧ place l.cues l.cues[i].num = i := by
 have hR := rightL_of h
 have hp : ¬ place l.cues l.cues[i].num < 0 := fun hn => place_neg.1 hn _ (List.getElem_mem hi) rfl
 obtain ⟨j, hj, e1, e2, _⟩ := place_pos hp
 have hij : j = i := by
   rcases Nat.lt_trichotomy j i with h1 | h1 | h1
   · exact absurd (by simp [valOf, e2]) (rising_ne hR.rising hj hi (by omega))
   · exact h1
   · exact absurd (by simp [valOf, e2]) (rising_ne hR.rising hj hi (by omega))
 subst hij
 refine ⟨?_, by simp [upto, e1], e1⟩
 unfold cue18 numbered18
 rw [if_neg (by simp [h]), if_neg (by simp [hR.num _ (List.getElem_mem hi)]), if_neg hp]
theorem lookR_at {l : Lis} (h : checkL order05 l = 0) {i : Nat} (hi : i < l.cues.length) : lookR l l.cues[i].num = (lookL l.cues (i + 1), 0) := by
 obtain ⟨h18, hup, hpl⟩ := cue18_at h hi
 unfold lookR; rw [if_neg (by simp [h18]), hup]
theorem stepsR_at {l : Lis} (h : checkL order05 l = 0) {i : Nat} (hi : i < l.cues.length) : stepsR l l.cues[i].num = (diffE (lookL l.cues i) (lookL l.cues (i + 1)), 0) := by
 obtain ⟨h18, hup, hpl⟩ := cue18_at h hi
 unfold stepsR; rw [if_neg (by simp [h18]), hup]; rfl
theorem sheetR_right {l : Lis} (h : checkL order05 l = 0) : sheetR l = (sheetL l.cues l.cues.length, 0) := by unfold sheetR; rw [if_neg (by simp [h])]
end Go.Sx.La
