/-
 Part 6 of the proof: the executor over the kit's code with its soundness, or contracts of functions.
-/
import Derived.Test.YthlobibofbddeaaGreatDoorNDe
import Derived.Test.YthlobibofbddeaaGreatDoorProg
import Derived.Shelf.Strings.FuncGrows
import Derived.Test.YthlobibofbddeaaGreatDoorShelf
import Derived.Laws.RangeAny
set_option linter.unusedSimpArgs false
set_option linter.unusedVariables false
set_option linter.unusedSectionVars false
set_option linter.defProp false
set_option maxRecDepth 100000
namespace Go.Sx.La
open Go Go.Sx Go.Proofs
abbrev mvKs : List K := [.int .i64, .int .i64, .int .i64, .int .i64, .int .i64]
abbrev tmKs : List K := [.int .i64, .int .i64, .int .i64, .int .i64, .int .i64, .int .i64]
abbrev cueKs : List K := [.str, .str, .slice mvKs, .slice tmKs, .bool, .bool, .int .i64, .str, .int .i64]
abbrev paKs : List K := [.int .i64, .int .i64]
abbrev liKs : List K := [.int .i64, .int .i64, .slice cueKs]
abbrev chKs : List K := [.int .u64, .int .u64, .int .u64, .int .u64, .int .u64, .int .u64, .int .u64, .int .u64, .int .u64, .int .u64, .int .u64, .int .u64, .int .u64, .int .u64, .int .u64, .int .u64]
def mdA : Go.Sx.Mode := { own := [35, 128, 125, 124], x := [(184, [.own paKs, .cell .fn], true), (124, [.own mvKs, .cell .fn], false), (145, [.box chKs, .cell (.int .i64)], true)] }
theorem denR_inv {P : Program} {F : Option Nat → List RV → Prop} : ∀ (r : R) {a a' : Ags} {ρ : List D}, (∀ n c ys, a.inv n c ys → a'.inv n c ys) → (a.exp = a'.exp ∧ a.lim = a'.lim) → a.cnt = a'.cnt → denR P F noK r a ρ → denR P F noK r a' ρ := by
 intro r
 induction r with
 | fail => intro a a' ρ _ _ _ h; exact h
 | need t r ih => intro a a' ρ h1 h2 h3 h; exact ⟨h.1, ih h1 h2 h3 h.2⟩
 | fact t r ih => intro a a' ρ h1 h2 h3 h ht; exact ih h1 h2 h3 (h ht)
 | ite t x y ihx ihy => intro a a' ρ h1 h2 h3 h; exact ⟨fun ht => ihx h1 h2 h3 (h.1 ht), fun ht => ihy h1 h2 h3 (h.2 ht)⟩
 | lets ts r ih => intro a a' ρ h1 h2 h3 h; exact ih h1 h2 h3 h
 | call g f args res r ih =>
   intro a a' ρ h1 h2 h3 h
   cases g with
   | none => exact callSays_mono h fun rs hr => ih h1 h2 h3 hr
   | some c => obtain ⟨J, g1, g2, g3⟩ := h; exact ⟨J, g1, g2, fun rs hk hj => ih h1 h2 h3 (g3 rs hk hj)⟩
 | loop l i ks b ih =>
   intro a a' ρ h1 h2 h3 h
   obtain ⟨Inv, μ, g1, g2⟩ := h
   refine ⟨Inv, μ, by rw [← h3]; exact g1, fun c xs hk hi => ih (a := setAg (a.wc c) l fun c' ys => Inv c' ys ∧ μ c' ys < μ c xs) ?_ ?_ rfl (g2 c xs hk hi)⟩
   · intro n c' ys; simp only [setAg, Ags.wc]; split
     · exact id
     · exact h1 n c' ys
   · exact h2
 | again l ts => intro a a' ρ h1 h2 h3 h; simp only [denR] at h ⊢; rw [← h3]; exact h1 _ _ _ h
 | leaf e xs => intro a a' ρ h1 h2 h3 h; exact h.elim
 | ret rs => intro a a' ρ h1 h2 h3 h; simp only [denR] at h ⊢; rw [← h3]; exact h
 | callX u f args res r ih =>
   intro a a' ρ h1 h2 h3 h
   obtain ⟨pk, s, g1, g2, g3, g4⟩ := h
   exact ⟨pk, s.up, g1.up, g2, g3, _, g4, fun rvs ⟨rs, q1, q2⟩ => ⟨rs, q1, ih h1 h2 h3 q2⟩⟩
 | yield args r ih =>
   intro a a' ρ h1 h2 h3 h
   obtain ⟨c, g1, g2, g3⟩ := h
   exact ⟨c, by rw [← h3]; exact g1, by rw [← h2.1]; exact g2, fun b hb => ih (a := a.wc (if b = true then some (c + 1) else none)) (a' := a'.wc (if b = true then some (c + 1) else none)) h1 h2 rfl (g3 b fun hbt => by rw [h2.2]; exact hb hbt)⟩
 | guess t r ih => intro a a' ρ h1 h2 h3 h b hb; exact ih h1 h2 h3 (h b hb)
 | mix f sz sh r ih => intro a a' ρ h1 h2 h3 h; exact ⟨h.1, ih h1 h2 h3 h.2⟩
 | iter l t i ks pk b d ihb ihd =>
   intro a a' ρ h1 h2 h3 h
   obtain ⟨xs, Inv, g1, g2, g3, g4, g5⟩ := h
   refine ⟨xs, Inv, g1, g2, by rw [← h3]; exact g3, fun i x fx c ys a1 a2 a3 a4 a5 => ihb (a := setAg (a.wc c) l fun c' zs => Inv (i + 1) c' zs) (a' := setAg (a'.wc c) l fun c' zs => Inv (i + 1) c' zs) ?_ h2 rfl (g4 i x fx c ys a1 a2 a3 a4 a5), fun c ys a1 a2 => ihd (a := a.wc c) (a' := a'.wc c) h1 h2 rfl (g5 c ys a1 a2)⟩
   intro n c' ys'; simp only [setAg, Ags.wc]; split
   · exact id
   · exact h1 n c' ys'
theorem denR_loop {P : Program} {F : Option Nat → List RV → Prop} {l : Nat} {inits : List T} {ks : List K} {body : R} {ags : Ags} {ρ : List D} : denR P F noK (.loop l inits ks body) ags ρ =
   (∃ (Inv : Option Nat → List D → Prop) (μ : Option Nat → List D → Nat), Inv ags.cnt (inits.map (den ρ)) ∧ ∀ c xs, HasKs ks xs → Inv c xs → denR P F noK body (setAg (ags.wc c) l fun c' ys => Inv c' ys ∧ μ c' ys < μ c xs) (ρ ++ xs)) := rfl
section
variable {P : Program} {F : Option Nat → List RV → Prop}
theorem D.cond_bool (b : Bool) (x y : D) : D.cond (.bool b) x y = if b then x else y := by cases b <;> rfl
theorem setAg_same (ags : Ags) (l : Nat) (p : Option Nat → List D → Prop) : (setAg ags l p).inv l = p := by simp [setAg]
theorem setAg_ne (ags : Ags) {l l' : Nat} (p : Option Nat → List D → Prop) (h : l' ≠ l) : (setAg ags l p).inv l' = ags.inv l' := by simp [setAg, h]
theorem setAg_cnt (ags : Ags) (l : Nat) (p : Option Nat → List D → Prop) : (setAg ags l p).cnt = ags.cnt := rfl
theorem wc_self (ags : Ags) : ags.wc ags.cnt = ags := rfl
theorem wrap_i64 {n : Int} (h : -9223372036854775808 ≤ n ∧ n ≤ 9223372036854775807) : IntKind.i64.wrap n = n :=
 wrap_id .i64 n (by simp [IntKind.min, IntKind.signed, IntKind.bits]; omega) (by simp [IntKind.max, IntKind.signed, IntKind.bits]; omega)
theorem wrap_u8 {n : Int} (h : 0 ≤ n ∧ n ≤ 255) : IntKind.u8.wrap n = n :=
 wrap_id .u8 n (by simp [IntKind.min, IntKind.signed]; omega) (by simp [IntKind.max, IntKind.signed, IntKind.bits]; omega)
@[irreducible] def wr64 (n : Int) : Int := IntKind.i64.wrap n
@[irreducible] def wr8 (n : Int) : Int := IntKind.u8.wrap n
theorem wrap64 (n : Int) : IntKind.i64.wrap n = wr64 n := by unfold wr64; rfl
theorem wrap8 (n : Int) : IntKind.u8.wrap n = wr8 n := by unfold wr8; rfl
theorem wr64_eq {n : Int} (h : -9223372036854775808 ≤ n ∧ n ≤ 9223372036854775807) : wr64 n = n := by rw [← wrap64]; exact wrap_i64 h
theorem wr8_eq {n : Int} (h : 0 ≤ n ∧ n ≤ 255) : wr8 n = n := by rw [← wrap8]; exact wrap_u8 h
@[irreducible] def byt (c : UInt8) : Nat := c.toNat
theorem toNat_byt (c : UInt8) : c.toNat = byt c := by unfold byt; rfl
@[irreducible] def at8 (s : List UInt8) (i : Nat) : Nat := byt (s.getD i 0)
theorem at8_eq (s : List UInt8) (i : Nat) : (s.getD i 0).toNat = at8 s i := by unfold at8 byt; rfl
theorem at8_at {s : List UInt8} {i : Nat} (h : i < s.length) : at8 s i = byt s[i] := by unfold at8; simp [List.getD_eq_getElem?_getD, h]
theorem int_beq (a b : Int) : (a == b) = decide (a = b) := by rw [Bool.eq_iff_iff]; simp
theorem nat_beq (a b : Nat) : (a == b) = decide (a = b) := by rw [Bool.eq_iff_iff]; simp
theorem ite_bool (p : Prop) [Decidable p] (x y : Bool) : (if p then D.bool x else D.bool y) = D.bool (if p then x else y) := by split <;> rfl
theorem ite_int (p : Prop) [Decidable p] (k : IntKind) (x y : Int) : (if p then D.int k x else D.int k y) = D.int k (if p then x else y) := by split <;> rfl
theorem ite_str (p : Prop) [Decidable p] (x y : List UInt8) : (if p then D.str x else D.str y) = D.str (if p then x else y) := by split <;> rfl
theorem denR_fail (w : String) (ags : Ags) (ρ : List D) : denR P F noK (.fail w) ags ρ = False := rfl
theorem denR_need (t : T) (r : R) (ags : Ags) (ρ : List D) : denR P F noK (.need t r) ags ρ = (den ρ t = .bool true ∧ denR P F noK r ags ρ) := rfl
theorem denR_fact (t : T) (r : R) (ags : Ags) (ρ : List D) : denR P F noK (.fact t r) ags ρ = (den ρ t = .bool true → denR P F noK r ags ρ) := rfl
theorem denR_ite (t : T) (a b : R) (ags : Ags) (ρ : List D) : denR P F noK (.ite t a b) ags ρ = ((den ρ t = .bool true → denR P F noK a ags ρ) ∧ (den ρ t = .bool false → denR P F noK b ags ρ)) := rfl
theorem denR_lets (ts : List T) (r : R) (ags : Ags) (ρ : List D) : denR P F noK (.lets ts r) ags ρ = denR P F noK r ags (ρ ++ ts.map (den ρ)) := rfl
theorem denR_again (l : Nat) (ts : List T) (ags : Ags) (ρ : List D) : denR P F noK (.again l ts) ags ρ = ags.inv l ags.cnt (ts.map (den ρ)) := rfl
theorem denR_ret (rs : List RT) (ags : Ags) (ρ : List D) : denR P F noK (.ret rs) ags ρ = F ags.cnt (rs.map (RT.den ρ)) := rfl
theorem denR_call {f : FuncId} {s : Spec} {args : List T} {res : List RK} {r : R} {ags : Ags} {ρ : List D} (hc : Contract P f s) (h : s (args.map (den ρ)) fun rvs => ∃ rs, RV.all res rvs = some rs ∧ denR P F noK r ags (ρ ++ rs)) :
   denR P F noK (.call none (.fn f) args res r) ags ρ := ⟨s, hc, h⟩
theorem denR_gcall {f : FuncId} {s : Spec} {args : List T} {res : List RK} {r : R} {ags : Ags} {ρ : List D} {c : T} (hc : Contract P f s) (b : Bool) (v : List D) (hb : den ρ c = .bool b) (h1 : b = true → s (args.map (den ρ)) fun rvs => RV.all res rvs = some v) (h2 : b = false → Go.Sx.K.zeros (RK.all res) = v)
   (h3 : denR P F noK r ags (ρ ++ v)) : denR P F noK (.call (some c) (.fn f) args res r) ags ρ :=
 ⟨fun rs => rs = v, fun h => ⟨s.up, hc.up, _, h1 (by rw [hb] at h; exact D.bool.inj h), fun rvs h => ⟨v, h, rfl⟩⟩, fun h => h2 (by rw [hb] at h; exact D.bool.inj h), fun rs _ h => by rw [h]; exact h3⟩
theorem loop_go {X A B : Type} {l : Nat} {inits : List T} {ks : List Go.Sx.K} {body : R} {ags : Ags} {ρ : List D} (xs : List X) (go : Nat → List X → A → B) (enc : Nat → A → List D) (a0 : A) (R0 : B) (hR : go 0 xs a0 = R0) (p : Nat)
   (hp : ∀ i a, (enc i a)[p]? = some (.int .i64 (i : Nat))) (h0 : inits.map (den ρ) = enc 0 a0)
   (round : ∀ i (hi : i < xs.length) a, go i (xs[i] :: xs.drop (i + 1)) a = R0 →
     denR P F noK body (setAg ags l fun c ys => c = ags.cnt ∧ ∃ a', ys = enc (i + 1) a' ∧ go (i + 1) (xs.drop (i + 1)) a' = R0) (ρ ++ enc i a))
   (fin : ∀ a, go xs.length [] a = R0 → denR P F noK body (setAg ags l fun c ys => False) (ρ ++ enc xs.length a)) : denR P F noK (.loop l inits ks body) ags ρ := by
 simp only [denR]
 refine ⟨fun c ys => c = ags.cnt ∧ ∃ i a, i ≤ xs.length ∧ ys = enc i a ∧ go i (xs.drop i) a = R0, fun _ ys => match ys[p]? with | some (.int _ i) => xs.length - i.toNat | _ => 0, ⟨rfl, 0, a0, Nat.zero_le _, h0, by simpa using hR⟩, ?_⟩
 rintro _ _ _ ⟨rfl, i, a, hi, rfl, hgo⟩
 rw [wc_self]
 have mono : ∀ {q q' : Option Nat → List D → Prop}, (∀ c ys, q c ys → q' c ys) → denR P F noK body (setAg ags l q) (ρ ++ enc i a) → denR P F noK body (setAg ags l q') (ρ ++ enc i a) := fun {q q'} h hd => denR_inv _ (a := setAg ags l q) (a' := setAg ags l q') (fun n c ys => by
   simp only [setAg]
   split
   · exact h c ys
   · exact id) ⟨rfl, rfl⟩ rfl hd
 rcases Nat.lt_or_ge i xs.length with hlt | hge
 · rw [List.drop_eq_getElem_cons hlt] at hgo
   refine mono ?_ (round i hlt a hgo)
   rintro c ys ⟨rfl, a', rfl, h'⟩
   refine ⟨⟨rfl, i + 1, a', hlt, rfl, h'⟩, ?_⟩
   simp only [hp]
   omega
 · have : i = xs.length := by omega
   subst this
   rw [List.drop_length] at hgo
   exact mono (fun _ _ h => h.elim) (fin a hgo)
end
theorem ags_none : Ags.none = ⟨fun _ _ _ => False, [], Option.none, fun _ => True⟩ := rfl
def zz := And.intro @RT.den.eq_1 (And.intro @RT.den.eq_2 (And.intro @RT.den.eq_3 (And.intro @den.eq_1 (And.intro @den.eq_2 (And.intro @den.eq_3 (And.intro @den.eq_4 (And.intro @den.eq_5 (And.intro @den.eq_6 (And.intro @den.eq_7 (And.intro @den.eq_8 (And.intro @den.eq_9 (And.intro @den.eq_10 (And.intro @den.eq_11 (And.intro @den.eq_12 (And.intro @den.eq_13 (And.intro @den.eq_14 (And.intro @den.eq_15 (And.intro @den.eq_16 (And.intro @den.eq_17 (And.intro @den.eq_18 (And.intro @den.eq_19 (And.intro @den.eq_20 (And.intro @den.eq_21 (And.intro @O1.eval.eq_1 (And.intro @O1.eval.eq_2 (And.intro @O1.eval.eq_3 (And.intro @O1.eval.eq_4 (And.intro @O1.eval.eq_5 (And.intro @O1.eval.eq_6 (And.intro @O1.eval.eq_7 (And.intro @O1.eval.eq_8 (And.intro @O1.eval.eq_9 (And.intro @O1.eval.eq_10 (And.intro @O1.eval.eq_11 (And.intro @O1.eval.eq_12 (And.intro @O1.eval.eq_13 (And.intro @O2.eval.eq_1 (And.intro @O2.eval.eq_2 (And.intro @O2.eval.eq_3 (And.intro @O2.eval.eq_4 (And.intro @O2.eval.eq_5 (And.intro @O2.eval.eq_6 (And.intro @O2.eval.eq_7 (And.intro @O2.eval.eq_8 (And.intro @O2.eval.eq_9 (And.intro @O2.eval.eq_10 (And.intro @O2.eval.eq_11 (And.intro @O2.eval.eq_12 (And.intro @O2.eval.eq_13 (And.intro @O2.eval.eq_14 (And.intro @O2.eval.eq_15 (And.intro @O2.eval.eq_16 (And.intro @O2.eval.eq_17 (And.intro @O2.eval.eq_18 (And.intro @O2.eval.eq_19 (And.intro @O2.eval.eq_20 (And.intro @O2.eval.eq_21 (And.intro @O2.eval.eq_22 (And.intro @O2.eval.eq_23 (And.intro @O2.eval.eq_24 (And.intro @O2.eval.eq_25 (And.intro @O2.eval.eq_26 (And.intro @O2.eval.eq_27 (And.intro @O2.eval.eq_28 (And.intro @O2.eval.eq_29 (And.intro @O2.eval.eq_30 (And.intro @O2.eval.eq_31 (And.intro @O2.eval.eq_32 (And.intro @O2.eval.eq_33 (And.intro @O2.eval.eq_34 (And.intro @O2.eval.eq_35 (And.intro @O2.eval.eq_36 (And.intro @O2.eval.eq_37 (And.intro @O2.eval.eq_38 (And.intro @O2.eval.eq_39 (And.intro @O2.eval.eq_40 (And.intro @O2.eval.eq_41 (And.intro @O2.eval.eq_42 (And.intro @O2.eval.eq_43 (And.intro @O2.eval.eq_44 (And.intro @O2.eval.eq_45 (And.intro @O2.eval.eq_46 (And.intro @O2.eval.eq_47 (And.intro @O2.eval.eq_48 (And.intro @O2.eval.eq_49 (And.intro @D.eqb.eq_1 (And.intro @D.eqb.eq_2 (And.intro @D.eqb.eq_3 (And.intro @D.eqb.eq_4 (And.intro @D.sub.eq_1 (And.intro @D.sub.eq_2 (And.intro @D.sub.eq_3 (And.intro @D.cell.eq_1 (And.intro @D.elem.eq_1 (And.intro @D.elem.eq_2 (And.intro @D.cells.eq_1 (And.intro @D.cells.eq_2 (And.intro @D.padd.eq_1 (And.intro @D.padd.eq_2 (And.intro @D.list.eq_1 (And.intro @D.list.eq_2 (And.intro @D.push.eq_1 (And.intro @D.push.eq_2 (And.intro (@if_true.{1}) (And.intro (@if_true.{0}) (And.intro (@if_false.{1}) (And.intro (@if_false.{0}) (And.intro (@forall_const.{1}) (And.intro (@forall_const.{0}) (And.intro (ags_none) (And.intro (@denR_fail) (And.intro (@denR_need) (And.intro (@denR_fact) (And.intro (@denR_ite) (And.intro (@denR_lets) (And.intro (@denR_again) (And.intro (@denR_ret) (And.intro (@List.map_cons.{0,0}) (And.intro (@List.map_nil.{0,0}) (And.intro (@List.cons_append.{0}) (And.intro (@List.nil_append.{0}) (And.intro (@List.append_nil.{0}) (And.intro (@D.cond_bool) (And.intro (@setAg_same) (And.intro (@setAg_cnt) (And.intro (@wc_self) (And.intro (@List.getD_cons_zero.{0}) (And.intro (@List.getD_cons_succ.{0}) (And.intro (@List.getD_nil.{0}) (And.intro (@decide_eq_true_eq) (And.intro (@decide_eq_false_iff_not) (And.intro (@D.bool.injEq) (And.intro (@D.int.injEq) (And.intro (@D.str.injEq) (And.intro (@D.slice.injEq) (And.intro (@List.cons.injEq.{0}) (And.intro (@and_true) (And.intro (@true_and) (And.intro (@Bool.true_eq_false) (And.intro (@Bool.false_eq_true) (And.intro (@false_implies) (And.intro (@imp_self) (And.intro (@ite_bool) (And.intro (@ite_int) (And.intro (@ite_str) (And.intro (@Int.toNat_natCast) (And.intro (@Bool.if_true_left) (And.intro (@Bool.if_false_right) (And.intro (@Bool.or_eq_true) (And.intro (@Bool.and_eq_true) (And.intro (@Bool.not_eq_true') (And.intro (@Bool.or_eq_false_iff) (And.intro (@Bool.and_eq_false_iff) (And.intro (@Bool.not_eq_false') (And.intro (@Int.ofNat_lt) (And.intro (@Int.ofNat_le) (And.intro (@gt_iff_lt.{0}) (And.intro (@ge_iff_le.{0}) (And.intro (@Int.natCast_pos) (And.intro (@Nat.lt_irrefl) (And.intro (@not_false_eq_true) (And.intro (@not_true_eq_false) (And.intro (@Bool.not_true) (And.intro (@Bool.not_false) (And.intro (@List.drop_succ_cons.{0}) (And.intro (@Int.toNat_zero) (And.intro (@List.drop_zero.{0}) (And.intro (@List.take_length.{0}) (And.intro (@wrap64) (And.intro (@wrap8) (And.intro (@at8_eq) (And.intro (@int_beq) (And.intro (@nat_beq) (@ne_eq.{1}))))))))))))))))))))))))))))))))))))))))))))))))))))))))))))))))))))))))))))))))))))))))))))))))))))))))))))))))))))))))))))))))))))))))))))))))))))))))))))))))))))))))))))))
end Go.Sx.La
set_option maxRecDepth 1000000
set_option maxHeartbeats 2000000
namespace Go.Proofs
open Go Go.Sx Go.RowKit Go.Lib
theorem below_refl (B : Nat) (w : World) : BelowD B w w := ⟨Below.refl _ _, Nat.le_refl _⟩
theorem below_trans {B : Nat} {a b c : World} (h : BelowD B a b) (k : BelowD B b c) : BelowD B a c := ⟨h.toBelow.trans k.toBelow, Nat.le_trans h.drawn k.drawn⟩
theorem below_less {A B : Nat} {a b : World} (h : BelowD B a b) (hA : A ≤ B) : BelowD A a b := ⟨h.toBelow.mono hA, h.drawn⟩
theorem indexFunc_walk (g : Nat) (lb : Array Value) (eg : ∀ args w, (callFunc g args).run Tryz.prog w = .ok (.enter g args) w) (p : Nat → Bool) (s : ByteArray) (w : World)
   (hp : ∀ (W : World) (x : Nat), x ≤ 1114111 → BelowD w.heap.size w W → Calls Tryz.prog g (#[.int .i32 x] ++ lb) W fun e w' => e = .returned (.bool (p x)) ∧ BelowD W.heap.size W w') :
   Calls Tryz.prog 248 #[.string s, .func (.func g) #[] lb, .bool true] w fun e w' => e = .returned (.int .i64 (Lib.idxFunc p true s)) ∧ BelowD w.heap.size w w' := by
 go_enter Tryz.func248, Tryz.ntmps248
 go_wp2
 go_loopg [] s.size (fun left wx => ∃ pos : Nat, wx.heap[w.heap.size]? = some (.stringIter s pos) ∧ BelowD w.heap.size w wx ∧ Lib.idxFuncFrom p true s left pos = Lib.idxFunc p true s ∧ s.size ≤ pos + left)
 case atStart => exact ⟨0, World.iter_heap w s 0, ⟨(Below.refl _ w).alloc (Nat.le_refl _) _, Nat.le_refl _⟩, rfl, by omega⟩
 case round =>
   obtain ⟨pos, hit, hbw, hleft, hfu⟩ := hrel
   rcases Nat.lt_or_ge pos s.size with hps | hps
   · obtain ⟨left, rfl⟩ : ∃ left, gk = left + 1 := ⟨gk - 1, by omega⟩
     have step : ∀ ty, (Instr.next (.pointer (some ⟨w.heap.size, 0, none⟩)) true ty).run Tryz.prog wr = _ := fun ty => Lib.run_next_any_at wr w.heap.size s pos ty hit hps
     have wide := Lib.width_pos s pos
     have small := Lib.rune_le s pos
     simp only [Lib.idxFuncFrom, hps, if_true] at hleft
     generalize (Utf8.decode s pos).1 = rune at *
     generalize (Utf8.decode s pos).2 = width at *
     have hit2 := Lib.iterAt_heap wr w.heap.size s pos (pos + width) hit
     have hbw2 : BelowD w.heap.size w (wr.iterAt w.heap.size s (pos + width)) := ⟨Lib.below_iterAt hbw.toBelow (k := w.heap.size) (Nat.le_refl _) s (pos + width), hbw.drawn⟩
     generalize wr.iterAt w.heap.size s (pos + width) = W at *
     have inW : w.heap.size < W.heap.size := (Array.getElem?_eq_some_iff.1 hit2).1
     have ask := hp W rune small hbw2
     cases hsays : p rune with
     | false =>
       rw [hsays] at ask
       simp only [hsays, Bool.false_eq_true, if_false] at hleft
       go_wp2_with (go_at_fn g; refine ask.mono ?_; rintro e W' ⟨rfl, later⟩)
       go_roundg left
       case measure => omega
       case rel => exact ⟨pos + width, (later.block _ inW).trans hit2, below_trans hbw2 (below_less later hbw2.size), hleft, by omega⟩
     | true =>
       rw [hsays] at ask
       simp only [hsays, if_true] at hleft
       go_wp2_with (go_at_fn g; refine ask.mono ?_; rintro e W' ⟨rfl, later⟩)
       go_ret
       exact ⟨by rw [← hleft] <;> rfl, below_trans hbw2 (below_less later hbw2.size)⟩
   · have over : ∀ ty, (Instr.next (.pointer (some ⟨w.heap.size, 0, none⟩)) true ty).run Tryz.prog wr = _ := fun ty => Lib.run_next_end_at wr w.heap.size s pos ty hit (by omega)
     rw [Lib.idxFuncFrom_end p true s gk pos (by omega)] at hleft
     go_wp2
     go_ret
     exact ⟨by rw [← hleft] <;> rfl, hbw⟩
end Go.Proofs
namespace Go.Sx.La
open Go Go.Sx Go.RowKit Go.Proofs
theorem callable_enters {P : Program} {f : FuncId} (h : callable P f = true) : ∀ args w, (callFunc f args).run P w = .ok (.enter f args) w := by
 intro args w
 unfold callable at h
 split at h <;> try contradiction
 rename_i fn hfn
 simp only [Bool.and_eq_true, Bool.not_eq_true', Option.isSome_iff_exists] at h
 obtain ⟨⟨body, hb⟩, hname⟩ := h
 have h1 : fn.name ≠ "runtime.NumGoroutine" := by simpa using hname
 simp [callFunc, hfn, h1, hb]
theorem memOk_below {m : Mem} {w W : World} (h : MemOk m w) (hb : BelowD w.heap.size w W) : MemOk m W := fun b o hm => by
 rw [hb.block b (h.lt hm)]; exact h b o hm
theorem fv_calls {P : Program} {g : FuncId} {caps : List D} {sf : Spec} (hf : FvC P (.clo g caps) sf) {w : World} {m : Mem} (hm : MemOk m w) {lb : Array Value} (hsz : lb.size = caps.length) (hlb : ∀ (i : Nat) d v, caps[i]? = some d → lb[i]? = some v → RepD m d v)
   {as_ : List D} {vs : Array Value} (hvs : vs.size = as_.length) (hrep : ∀ (i : Nat) d v, as_[i]? = some d → vs[i]? = some v → RepD m d v) {x : D} (hx : sf as_ fun rs => rs = [.d x]) :
   Calls P g (vs ++ lb) w fun e w' => ∃ v m', e = .returned v ∧ RepD m' x v ∧ BelowD w.heap.size w w' := by
 obtain ⟨hcl, s', hs', hcon⟩ := hf
 obtain ⟨g1, g2⟩ := hcon _ _ hx
 refine (hs'.2 _ _ g1 g2 w m (vs ++ lb) hm (by simp [hvs, hsz]) ?_).mono ?_
 · intro i d v hd hv
   rw [List.getElem?_append] at hd
   rw [Array.getElem?_append] at hv
   rw [hvs] at hv
   split at hd
   · rename_i h; rw [if_pos h] at hv; exact hrep i d v hd hv
   · rename_i h; rw [if_neg h] at hv; exact hlb _ d v hd hv
 · rintro e w' ⟨rs, v, m', rfl, _, rfl, ⟨us, rfl, hr⟩, _, _, _, hb⟩
   have hl : us.length = 1 := hr.len
   match us, hl with
   | [u], _ =>
     have := hr.rep 0 _ _ rfl rfl
     cases this with
     | d h => exact ⟨_, m', rfl, by simpa [packV] using h, hb⟩
theorem RepD.clo_inv {m : Mem} {f : FuncId} {caps : List D} {v : Value} (h : RepD m (.clo f caps) v) : ∃ arr, v = .func (.func f) #[] arr ∧ arr.size = caps.length ∧ ∀ (i : Nat) d u, caps[i]? = some d → arr[i]? = some u → RepD m d u := by
 cases h with
 | clo _ _ arr hsz hv => exact ⟨arr, rfl, hsz, hv⟩
theorem Contract.plain {P : Program} {f : FuncId} {s : Spec} (hcl : callable P f = true)
   (h : ∀ args K, s args K → ArgsTyped P f args → ∀ (w : World) (m : Mem) (vs : Array Value), MemOk m w → vs.size = args.length → (∀ (i : Nat) d v, args[i]? = some d → vs[i]? = some v → RepD m d v) →
     ∃ out : List D, K (out.map .d) ∧ ResTyped P f [] (out.map .d) ∧ Calls P f vs w fun e w' => ∃ us, e = .returned (packV us) ∧ us.length = out.length ∧ (∀ (i : Nat) d u, out[i]? = some d → us[i]? = some u → RepD m d u) ∧ BelowD w.heap.size w w') : Contract P f s := by
 refine ⟨hcl, fun args K hs ht w m vs hm hsz hv => ?_⟩
 obtain ⟨out, hK, hty, hc⟩ := h args K hs ht w m vs hm hsz hv
 refine hc.mono ?_
 rintro e w' ⟨us, rfl, hl, hr, hb⟩
 refine ⟨_, _, m, hK, hty, rfl, ⟨us, rfl, by simp [hl], ?_, ?_⟩, Mem.le_refl m, memOk_below hm hb, fun _ _ => rfl, hb⟩
 · intro i r u h1 h2
   simp only [List.getElem?_map, Option.map_eq_some_iff] at h1
   obtain ⟨d, h1, rfl⟩ := h1
   exact .d (hr i d u h1 h2)
 · intro i j r r' u u' b _ h1 _ _ _ ho
   simp only [List.getElem?_map, Option.map_eq_some_iff] at h1
   obtain ⟨d, h1, rfl⟩ := h1
   cases ho
theorem resTyped_of {P : Program} {f : FuncId} {rk : List RK} {rs : List RV} (hk : resKinds P false (fnTypes P f) = some rk) {ds : List D} (h1 : RV.all rk rs = some ds) (h2 : HasKs (RK.all rk) ds) : ResTyped P f [] rs := by
 intro rk' h
 rw [hk] at h; cases h
 exact ⟨ds, by simpa using h1, by simpa using h2⟩
theorem arr2 {vs : Array Value} {a b : D} {m : Mem} (hsz : vs.size = [a, b].length) (h : ∀ (i : Nat) d v, [a, b][i]? = some d → vs[i]? = some v → RepD m d v) : ∃ x y, vs = #[x, y] ∧ RepD m a x ∧ RepD m b y := by
 match vs, hsz with
 | ⟨[x, y]⟩, _ => exact ⟨x, y, rfl, h 0 _ _ rfl rfl, h 1 _ _ rfl rfl⟩
theorem arr3 {vs : Array Value} {a b c : D} {m : Mem} (hsz : vs.size = [a, b, c].length) (h : ∀ (i : Nat) d v, [a, b, c][i]? = some d → vs[i]? = some v → RepD m d v) : ∃ x y z, vs = #[x, y, z] ∧ RepD m a x ∧ RepD m b y ∧ RepD m c z := by
 match vs, hsz with
 | ⟨[x, y, z]⟩, _ => exact ⟨x, y, z, rfl, h 0 _ _ rfl rfl, h 1 _ _ rfl rfl, h 2 _ _ rfl rfl⟩
def Says (P : Program) (fv : D) (p : Nat → Bool) : Prop := ∃ sf, FvC P fv sf ∧ ∀ x : Nat, x ≤ 1114111 → sf [.int .i32 x] fun rs => rs = [.d (.bool (p x))]
theorem indexFunc_ok : Contract Tryz.prog 248 fun args K => ∃ s g caps p, args = [.str s, .clo g caps, .bool true] ∧ Says Tryz.prog (.clo g caps) p ∧ K [.d (.int .i64 (Lib.idxFunc p true ⟨s.toArray⟩))] := by
 refine Contract.plain (by kernel_rfl) ?_
 rintro _ K ⟨s, g, caps, p, rfl, ⟨sf, hsf, hsays⟩, hK⟩ _ w m vs hm hsz hrep
 obtain ⟨x, y, z, rfl, hx, hy, hz⟩ := arr3 hsz hrep
 obtain ⟨rfl, hcap⟩ := hx.str_inv
 obtain ⟨lb, rfl, hlsz, hlb⟩ := RepD.clo_inv hy
 have := hz.bool_inv
 subst this
 have hr := Lib.idxFunc_range p true ⟨s.toArray⟩
 have hsize : ((⟨s.toArray⟩ : ByteArray).size : Int) ≤ 140737488355328 := by
   simp only [cap] at hcap
   rw [bytes_size]; omega
 refine ⟨[.int .i64 (Lib.idxFunc p true ⟨s.toArray⟩)], hK, resTyped_of (rk := [.cell (.int .i64)]) (by kernel_rfl) rfl ?_, ?_⟩
 · simp only [RK.all, RK.kinds, List.map_cons, List.map_nil, List.flatten_cons, List.flatten_nil, List.append_nil, HasKs, HasK, and_true, true_and]
   simp only [IntKind.min, IntKind.max, IntKind.signed, IntKind.bits]
   constructor <;> (simp; omega)
 · refine (indexFunc_walk g lb (callable_enters hsf.1) p ⟨s.toArray⟩ w ?_).mono ?_
   · intro W x hxle hb
     refine (fv_calls hsf (memOk_below hm hb) hlsz hlb (as_ := [.int .i32 x]) (vs := #[.int .i32 x]) rfl ?_ (hsays x hxle)).mono ?_
     · intro i d v h1 h2
       cases i with
       | zero => simp at h1 h2; subst h1 h2; exact .int _ _
       | succ i => simp at h1
     · rintro e w' ⟨v, m', rfl, hv, hb'⟩
       exact ⟨by rw [hv.bool_inv], hb'⟩
   · rintro e w' ⟨rfl, hb⟩
     exact ⟨[.int .i64 (Lib.idxFunc p true ⟨s.toArray⟩)], rfl, rfl, fun i d u h1 h2 => by
       cases i with
       | zero => simp at h1 h2; subst h1 h2; exact .int _ _
       | succ i => simp at h1, hb⟩
end Go.Sx.La
namespace Go.Sx.La
open Go Go.Sx Go.Proofs
noncomputable def t137 : R := let x0 : T := .o2 (.add .i64) (.var 1) (.int .i64 1); let x1 : T := .o1 .len (.var 0); .loop 0 [.int .i64 0] [.int .i64] (.fact (.o2 .le x1 (.int .i64 140737488355328)) (.ite (.o2 .lt (.var 1) x1) (.need (.o2 .le (.int .i64 0) (.var 1)) (.ite (.o2 .eq (.o2 .sidx (.var 0) (.var 1)) (.int .u8 46)) (.need (.o2 .le (.var 1) x1) (.need (.o2 .le (.int .i64 0) x0) (.need (.o2 .le x0 x1) (.ret [.d (.sub (.var 0) (.int .i64 0) (.var 1)), .d (.sub (.var 0) x0 x1), .d (.bool true)])))) (.again 0 [.o2 (.add .i64) (.var 1) (.int .i64 1)]))) (.ret [.d (.var 0), .d (.str []), .d (.bool false)])))
theorem t137_ok : fnO Tryz.prog mdA 137 [.cell .str] = t137 := by kernel_rfl
theorem c137 : callable Tryz.prog 137 = true := by kernel_rfl
noncomputable def t138 : R := let x0 : T := .o1 .len (.var 0); let x1 : T := .o2 .sidx (.var 0) (.var 1); .loop 0 [.int .i64 0] [.int .i64] (.fact (.o2 .le x0 (.int .i64 140737488355328)) (.ite (.o2 .lt (.var 1) x0) (.need (.o2 .le (.int .i64 0) (.var 1)) (.ite (.ite (.o2 .lt x1 (.int .u8 48)) (.bool true) (.o2 .gt x1 (.int .u8 57))) (.ret [.d (.bool false)]) (.again 0 [.o2 (.add .i64) (.var 1) (.int .i64 1)]))) (.ret [.d (.o2 .gt x0 (.int .i64 0))])))
theorem t138_ok : fnO Tryz.prog mdA 138 [.cell .str] = t138 := by kernel_rfl
theorem c138 : callable Tryz.prog 138 = true := by kernel_rfl
noncomputable def t96 : R := let x1 : T := .o1 .len (.var 1); let x2 : T := .o1 .len (.var 2); let x3 : T := .o2 (.sub .i64) x2 (.int .i64 1); let x4 : T := .o2 .eq (.o2 .sidx (.var 1) (.int .i64 0)) (.int .u8 48); let x5 : T := .o2 .gt x1 (.int .i64 1); let x6 : T := .o2 .le x2 (.int .i64 140737488355328); let x7 : T := .o2 .eq (.var 0) (.str [48]); let x0 : T := .o2 .band (.o1 .not (.ite x5 x4 (.bool false))) (.var 3); .call none (.fn 137) [.var 0] [.cell .str, .cell .str, .cell .bool] (.call none (.fn 138) [.var 1] [.cell .bool] (.call (some (.o2 .band (.o1 .not (.o1 .not (.var 4))) (.var 3))) (.fn 138) [.var 2] [.cell .bool] (.ite (.ite (.o1 .not (.var 4)) (.bool true) (.ite (.var 3) (.o1 .not (.var 5)) (.bool false))) (.ret [.d (.int .i64 3)]) (.fact (.o2 .le x1 (.int .i64 140737488355328)) (.need (.ite x5 (.o2 .lt (.int .i64 0) x1) (.bool true)) (.fact (.ite x0 x6 (.bool true)) (.need (.ite x0 (.o2 .le (.int .i64 0) x3) (.bool true)) (.need (.ite x0 (.o2 .lt x3 x2) (.bool true)) (.ite (.ite (.ite x5 x4 (.bool false)) (.bool true) (.ite (.var 3) (.o2 .eq (.o2 .sidx (.var 2) x3) (.int .u8 48)) (.bool false))) (.ret [.d (.int .i64 3)]) (.fact (.ite (.o1 .not (.ite x7 (.bool true) (.o2 .gt x1 (.int .i64 4)))) x6 (.bool true)) (.ite (.ite (.ite x7 (.bool true) (.o2 .gt x1 (.int .i64 4))) (.bool true) (.o2 .gt x2 (.int .i64 3))) (.ret [.d (.int .i64 2)]) (.ret [.d (.int .i64 0)]))))))))))))
theorem t96_ok : fnO Tryz.prog mdA 96 [.cell .str] = t96 := by kernel_rfl
theorem c96 : callable Tryz.prog 96 = true := by kernel_rfl
noncomputable def t158 : R := let x0 : T := .o2 (.mul .i64) (.int .i64 10) (.var 6); let x1 : T := .o2 .lt (.var 7) (.o1 .len (.var 2)); .call none (.fn 137) [.var 0] [.cell .str, .cell .str, .cell .bool] (.loop 0 [.int .i64 0, .int .i64 0] [.int .i64, .int .i64] (.fact (.o2 .le (.o1 .len (.var 1)) (.int .i64 140737488355328)) (.ite (.o2 .lt (.var 5) (.o1 .len (.var 1))) (.need (.o2 .le (.int .i64 0) (.var 5)) (.again 0 [.o2 (.add .i64) (.o2 (.mul .i64) (.int .i64 10) (.var 4)) (.o1 (.conv .i64) (.o2 (.sub .u8) (.o2 .sidx (.var 1) (.var 5)) (.int .u8 48))), .o2 (.add .i64) (.var 5) (.int .i64 1)])) (.loop 1 [.var 4, .int .i64 0] [.int .i64, .int .i64] (.ite (.o2 .lt (.var 7) (.int .i64 3)) (.fact (.o2 .le (.o1 .len (.var 2)) (.int .i64 140737488355328)) (.need (.ite x1 (.o2 .le (.int .i64 0) (.var 7)) (.bool true)) (.lets [.ite x1 (.o2 (.add .i64) x0 (.o1 (.conv .i64) (.o2 (.sub .u8) (.o2 .sidx (.var 2) (.var 7)) (.int .u8 48)))) x0] (.again 1 [.var 8, .o2 (.add .i64) (.var 7) (.int .i64 1)])))) (.ret [.d (.var 6)]))))))
theorem t158_ok : fnO Tryz.prog mdA 158 [.cell .str] = t158 := by kernel_rfl
theorem c158 : callable Tryz.prog 158 = true := by kernel_rfl
noncomputable def t108 : R := .call none (.fn 158) [.var 0] [.cell (.int .i64)] (.call none (.fn 158) [.var 1] [.cell (.int .i64)] (.ite (.o2 .lt (.var 2) (.var 3)) (.ret [.d (.int .i64 (-1))]) (.ite (.o2 .gt (.var 2) (.var 3)) (.ret [.d (.int .i64 1)]) (.ret [.d (.int .i64 0)]))))
theorem t108_ok : fnO Tryz.prog mdA 108 [.cell .str, .cell .str] = t108 := by kernel_rfl
theorem c108 : callable Tryz.prog 108 = true := by kernel_rfl
def isDig (c : UInt8) : Bool := decide (48 ≤ byt c) && decide (byt c ≤ 57)
def digsGo : List UInt8 → Bool
 | [] => true
 | c :: cs => if isDig c then digsGo cs else false
def digits (s : List UInt8) : Bool := digsGo s && decide (0 < s.length)
theorem digits_ok : Contract Tryz.prog 138 fun args K => ∃ s, args = [.str s] ∧ K [.d (.bool (digits s))] := by
 refine .of c138 t138_ok ?_
 rintro _ K ⟨s, rfl, hK⟩ hsm
 refine ⟨[.str s], rfl, by simp [pkKinds, PK.kinds, HasKs, HasK], ?_⟩
 refine loop_go s (fun _ l (_ : Unit) => digsGo l) (fun i _ => [.int .i64 i]) () _ rfl 0 (fun _ _ => rfl) rfl ?_ ?_
 · intro i hi _ hgo
   simp only [zz, reduceCtorEq, hi, at8_at hi]
   simp only [digsGo, isDig] at hgo
   grind [wr64_eq, digits]
 · intro _ hgo
   simp only [zz, reduceCtorEq]
   grind [digits, digsGo]
def pointGo : Nat → List UInt8 → Option Nat
 | _, [] => none
 | i, c :: cs => if byt c = 46 then some i else pointGo (i + 1) cs
def split (s : List UInt8) : List UInt8 × List UInt8 × Bool := match pointGo 0 s with
 | some i => (s.take i, s.drop (i + 1), true)
 | none => (s, [], false)
theorem split_ok : Contract Tryz.prog 137 fun args K => ∃ s, args = [.str s] ∧ K [.d (.str (split s).1), .d (.str (split s).2.1), .d (.bool (split s).2.2)] := by
 refine .of c137 t137_ok ?_
 rintro _ K ⟨s, rfl, hK⟩ hsm
 refine ⟨[.str s], rfl, by simp [pkKinds, PK.kinds, HasKs, HasK], ?_⟩
 refine loop_go s (fun i l (_ : Unit) => pointGo i l) (fun i _ => [.int .i64 i]) () _ rfl 0 (fun _ _ => rfl) rfl ?_ ?_
 · intro i hi _ hgo
   simp only [zz, reduceCtorEq, hi, at8_at hi]
   simp only [pointGo] at hgo
   intro hcap
   have hw : wr64 (↑i + 1) = ((i + 1 : Nat) : Int) := by rw [wr64_eq] <;> omega
   simp only [hw, Int.toNat_natCast]
   grind [split]
 · intro _ hgo
   simp only [zz, reduceCtorEq]
   grind [split, pointGo]
def check05 (s : List UInt8) : Int :=
 if !digits (split s).1 || ((split s).2.2 && !digits (split s).2.1) then 3
 else if (decide (1 < (split s).1.length) && at8 (split s).1 0 == 48) || ((split s).2.2 && at8 (split s).2.1 ((split s).2.1.length - 1) == 48) then 3
 else if s == [48] || decide (4 < (split s).1.length) || decide (3 < (split s).2.1.length) then 2 else 0
theorem check05_ok : Contract Tryz.prog 96 fun args K => ∃ s, args = [.str s] ∧ K [.d (.int .i64 (check05 s))] := by
 refine .of c96 t96_ok ?_
 rintro _ K ⟨s, rfl, hK⟩ hsm
 refine ⟨[.str s], rfl, by simp [pkKinds, PK.kinds, HasKs, HasK], ?_⟩
 refine denR_call split_ok ⟨s, rfl, _, rfl, ?_⟩
 refine denR_call digits_ok ⟨_, rfl, _, rfl, ?_⟩
 have hK' : ∀ v, check05 s = v → K [.d (.int .i64 v)] := by rintro _ rfl; exact hK
 clear hK
 simp only [check05] at hK'
 generalize hw : (split s).1 = w at *
 generalize hr : (split s).2.1 = r at *
 generalize hp : (split s).2.2 = p at *
 refine denR_gcall digits_ok (digits w && p) [.bool ((digits w && p) && digits r)] (by simp only [zz, reduceCtorEq]; cases digits w <;> rfl) (fun h => ⟨_, rfl, by rw [h]; rfl⟩) (fun h => by rw [h]; rfl) ?_
 have hd : digits r = true → 0 < r.length := by simp [digits]
 simp only [zz, reduceCtorEq]
 generalize (s == [48]) = z at hK' ⊢
 refine ⟨fun h => hK' _ ?_, fun h hcap => ⟨?_, fun hc2 => ⟨?_, ?_, fun h2 => hK' _ ?_, fun h2 _ => ⟨fun h3 => hK' _ ?_, fun h3 => hK' _ ?_⟩⟩⟩⟩ <;> clear hK' <;> (try simp) <;> grind [wr64_eq]
def valStep (n : Int) (c : Int) : Int := wr64 (wr64 (10 * n) + wr64 (wr8 (c - 48)))
def val1 : List UInt8 → Int → Int
 | [], n => n
 | c :: cs, n => val1 cs (valStep n (byt c))
def val2 (r : List UInt8) : List Nat → Int → Int
 | [], n => n
 | i :: is, n => val2 r is (if i < r.length then valStep n (at8 r i) else wr64 (10 * n))
def value05 (s : List UInt8) : Int := val2 (split s).2.1 (List.range 3) (val1 (split s).1 0)
theorem value05_ok : Contract Tryz.prog 158 fun args K => ∃ s, args = [.str s] ∧ K [.d (.int .i64 (value05 s))] := by
 refine .of c158 t158_ok ?_
 rintro _ K ⟨s, rfl, hK⟩ hsm
 refine ⟨[.str s], rfl, by simp [pkKinds, PK.kinds, HasKs, HasK], ?_⟩
 refine denR_call split_ok ⟨s, rfl, _, rfl, ?_⟩
 simp only [value05] at hK
 generalize (split s).1 = w at *
 generalize (split s).2.1 = r at *
 refine loop_go w (fun _ l (n : Int) => val1 l n) (fun i n => [.int .i64 n, .int .i64 i]) 0 _ rfl 1 (fun _ _ => rfl) rfl ?_ ?_
 · intro i hi n hgo
   simp only [zz, reduceCtorEq, hi, at8_at hi]
   simp only [val1, valStep] at hgo
   grind [wr64_eq]
 · intro n hgo
   simp only [val1] at hgo
   simp only [zz, reduceCtorEq]
   intro hcap
   rw [hgo]
   refine loop_go (List.range 3) (fun _ l (n : Int) => val2 r l n) (fun i n => [.int .i64 n, .int .i64 i]) _ _ rfl 1 (fun _ _ => rfl) rfl ?_ ?_
   · intro i hi n hgo
     simp only [List.length_range] at hi
     simp only [zz, reduceCtorEq]
     simp only [val2, List.getElem_range, valStep] at hgo
     grind [wr64_eq]
   · intro n hgo
     simp only [val2] at hgo
     simp only [zz, reduceCtorEq]
     grind
def order05 (a b : List UInt8) : Int := if value05 a < value05 b then -1 else if value05 b < value05 a then 1 else 0
theorem order05_ok : Contract Tryz.prog 108 fun args K => ∃ a b, args = [.str a, .str b] ∧ K [.d (.int .i64 (order05 a b))] := by
 refine .of c108 t108_ok ?_
 rintro _ K ⟨a, b, rfl, hK⟩ hsm
 refine ⟨[.str a, .str b], rfl, by simp [pkKinds, PK.kinds, HasKs, HasK], ?_⟩
 refine denR_call value05_ok ⟨a, rfl, _, rfl, ?_⟩
 refine denR_call value05_ok ⟨b, rfl, _, rfl, ?_⟩
 simp only [zz, reduceCtorEq]
 simp only [order05] at hK
 grind
end Go.Sx.La
namespace Go.Sx.La
open Go Go.Sx Go.RowKit Go.Proofs
noncomputable def t194 : R := let x0 : T := .o2 (.add .i64) (.var 2) (.o1 .len (.var 1)); let x1 : T := .o1 .len (.var 0); .call none (.fn 225) [.var 0, .var 1] [.cell (.int .i64)] (.ite (.o2 .ge (.var 2) (.int .i64 0)) (.need (.o2 .le (.int .i64 0) (.var 2)) (.need (.o2 .le (.var 2) x1) (.fact (.o2 .le (.o1 .len (.var 1)) (.int .i64 140737488355328)) (.need (.o2 .le (.int .i64 0) x0) (.need (.o2 .le x0 x1) (.ret [.d (.sub (.var 0) (.int .i64 0) (.var 2)), .d (.sub (.var 0) x0 x1), .d (.bool true)])))))) (.ret [.d (.var 0), .d (.str []), .d (.bool false)]))
theorem t194_ok : fnO Tryz.prog mdA 194 [.cell .str, .cell .str] = t194 := by kernel_rfl
theorem c194 : callable Tryz.prog 194 = true := by kernel_rfl
noncomputable def t150 : R := .call none (.fn 194) [.var 0, .var 1] [.cell .str, .cell .str, .cell .bool] (.ret [.d (.var 2), .d (.var 3), .d (.var 4)])
theorem t150_ok : fnO Tryz.prog mdA 150 [.cell .str, .cell .str] = t150 := by kernel_rfl
theorem c150 : callable Tryz.prog 150 = true := by kernel_rfl
noncomputable def t197 : R := let x0 : T := .o1 .len (.var 0); let x1 : T := .o1 .len (.var 1); let x2 : T := .o2 (.sub .i64) x0 x1; let x3 : T := .o2 .ge x0 x1; .fact (.o2 .le x0 (.int .i64 140737488355328)) (.fact (.o2 .le x1 (.int .i64 140737488355328)) (.need (.ite x3 (.o2 .le (.int .i64 0) x2) (.bool true)) (.need (.ite x3 (.o2 .le x2 x0) (.bool true)) (.ret [.d (.ite x3 (.o2 .eq (.sub (.var 0) x2 x0) (.var 1)) (.bool false))]))))
theorem t197_ok : fnO Tryz.prog mdA 197 [.cell .str, .cell .str] = t197 := by kernel_rfl
theorem c197 : callable Tryz.prog 197 = true := by kernel_rfl
noncomputable def t154 : R := .call none (.fn 197) [.var 0, .var 1] [.cell .bool] (.ret [.d (.var 2)])
theorem t154_ok : fnO Tryz.prog mdA 154 [.cell .str, .cell .str] = t154 := by kernel_rfl
theorem c154 : callable Tryz.prog 154 = true := by kernel_rfl
noncomputable def t226 : R := .call none (.fn 248) [.var 0, .var 1, .bool true] [.cell (.int .i64)] (.ret [.d (.var 2)])
theorem t226_ok : fnO Tryz.prog mdA 226 [.cell .str, .cell .fn] = t226 := by kernel_rfl
theorem c226 : callable Tryz.prog 226 = true := by kernel_rfl
noncomputable def t195 : R := .call none (.fn 226) [.var 0, .var 1] [.cell (.int .i64)] (.ret [.d (.o2 .ge (.var 2) (.int .i64 0))])
theorem t195_ok : fnO Tryz.prog mdA 195 [.cell .str, .cell .fn] = t195 := by kernel_rfl
theorem c195 : callable Tryz.prog 195 = true := by kernel_rfl
theorem pointGo_shift : ∀ (s : List UInt8) (i : Nat), pointGo i s = (pointGo 0 s).map (· + i)
 | [], _ => rfl
 | c :: cs, i => by
   simp only [pointGo]
   split
   · simp
   · rw [pointGo_shift cs (i + 1), pointGo_shift cs 1, Option.map_map]
     congr 1; funext x; simp; omega
theorem indexByte_point : ∀ (s : List UInt8), Lib.indexByte s 46 = match pointGo 0 s with | some i => (i : Int) | none => -1
 | [] => rfl
 | c :: cs => by
   simp only [Lib.indexByte, pointGo]
   have hc : (c == 46) = decide (byt c = 46) := by
     rw [Bool.eq_iff_iff]
     simp only [beq_iff_eq, decide_eq_true_eq, ← toNat_byt]
     constructor
     · rintro rfl; rfl
     · intro h; exact UInt8.toNat_inj.1 h
   rw [hc, indexByte_point cs, pointGo_shift cs 1]
   by_cases h : byt c = 46
   · simp [h]
   · simp only [h, decide_false, Bool.false_eq_true, if_false]
     cases pointGo 0 cs with
     | none => simp
     | some i =>
       have : ((i : Int) == -1) = false := by simp
       simp [this]
theorem pointGo_lt : ∀ (s : List UInt8) (i k : Nat), pointGo i s = some k → i ≤ k ∧ k < i + s.length
 | [], _, _, h => by simp [pointGo] at h
 | c :: cs, i, k, h => by
   simp only [pointGo] at h
   split at h
   · cases h; simp
   · have := pointGo_lt cs (i + 1) k h
     simp only [List.length_cons]; omega
theorem indexByte_range : ∀ (s : List UInt8) (c : UInt8), -1 ≤ Lib.indexByte s c ∧ Lib.indexByte s c ≤ s.length
 | [], _ => by simp [Lib.indexByte]
 | b :: l, c => by
   have := indexByte_range l c
   simp only [Lib.indexByte, List.length_cons]
   split
   · omega
   · split
     · omega
     · omega
theorem index1_ok : Contract Tryz.prog 225 fun args K => ∃ s c, args = [.str s, .str [c]] ∧ K [.d (.int .i64 (Lib.indexByte s c))] := by
 refine Contract.plain (by kernel_rfl) ?_
 rintro _ K ⟨s, c, rfl, hK⟩ _ w m vs hm hsz hrep
 obtain ⟨x, y, rfl, hx, hy⟩ := arr2 hsz hrep
 obtain ⟨rfl, hcap⟩ := hx.str_inv
 obtain ⟨rfl, _⟩ := hy.str_inv
 have hr : -1 ≤ Lib.indexByte s c ∧ Lib.indexByte s c ≤ s.length := indexByte_range s c
 simp only [cap] at hcap
 refine ⟨[.int .i64 (Lib.indexByte s c)], hK, resTyped_of (rk := [.cell (.int .i64)]) (by kernel_rfl) rfl ?_, ?_⟩
 · simp only [RK.all, RK.kinds, List.map_cons, List.map_nil, List.flatten_cons, List.flatten_nil, List.append_nil, HasKs, HasK, and_true, true_and]
   simp only [IntKind.min, IntKind.max, IntKind.signed, IntKind.bits]
   constructor <;> (simp; omega)
 · refine (Tryz.stringslite_Index_one ⟨s.toArray⟩ c w).mono ?_
   rintro e w' ⟨rfl, rfl⟩
   exact ⟨[.int .i64 (Lib.indexByte s c)], rfl, rfl, fun i d u h1 h2 => by
       cases i with
       | zero => simp at h1 h2; subst h1 h2; exact .int _ _
       | succ i => simp at h1, below_refl _ _⟩
theorem cut204_ok : Contract Tryz.prog 194 fun args K => ∃ s, args = [.str s, .str [46]] ∧ K [.d (.str (split s).1), .d (.str (split s).2.1), .d (.bool (split s).2.2)] := by
 refine .of c194 t194_ok ?_
 rintro _ K ⟨s, rfl, hK⟩ hsm
 refine ⟨[.str s, .str [46]], rfl, by simp [pkKinds, PK.kinds, HasKs, HasK], ?_⟩
 refine denR_call index1_ok ⟨s, 46, rfl, _, rfl, ?_⟩
 rw [indexByte_point]
 have hlt := pointGo_lt s 0
 simp only [split] at hK
 cases hp : pointGo 0 s with
 | none =>
   rw [hp] at hK
   simp only [zz, reduceCtorEq]
   exact ⟨fun h => by simp at h, fun _ => hK⟩
 | some i =>
   rw [hp] at hK
   have := hlt i hp
   simp only [zz, reduceCtorEq]
   simp only [List.length_cons, List.length_nil, Nat.zero_add, Int.cast_ofNat_Int]
   simp only [List.mem_cons, List.not_mem_nil, or_false, forall_eq_or_imp, forall_eq, Small.str_iff] at hsm
   have hw : wr64 ((i : Int) + 1) = ((i + 1 : Nat) : Int) := by rw [wr64_eq] <;> omega
   simp only [hw, Int.toNat_natCast]
   grind
theorem cut_ok : Contract Tryz.prog 150 fun args K => ∃ s, args = [.str s, .str [46]] ∧ K [.d (.str (split s).1), .d (.str (split s).2.1), .d (.bool (split s).2.2)] := by
 refine .of c150 t150_ok ?_
 rintro _ K ⟨s, rfl, hK⟩ hsm
 refine ⟨[.str s, .str [46]], rfl, by simp [pkKinds, PK.kinds, HasKs, HasK], ?_⟩
 refine denR_call cut204_ok ⟨s, rfl, _, rfl, ?_⟩
 simp only [zz, reduceCtorEq]
 exact hK
theorem suffix207_ok : Contract Tryz.prog 197 fun args K => ∃ s t, args = [.str s, .str t] ∧ K [.d (.bool (decide (t.length ≤ s.length) && s.drop (s.length - t.length) == t))] := by
 refine .of c197 t197_ok ?_
 rintro _ K ⟨s, t, rfl, hK⟩ hsm
 refine ⟨[.str s, .str t], rfl, by simp [pkKinds, PK.kinds, HasKs, HasK], ?_⟩
 simp only [List.mem_cons, List.not_mem_nil, or_false, forall_eq_or_imp, forall_eq, Small.str_iff] at hsm
 simp only [zz, reduceCtorEq, t197]
 intro _ _
 have hw : t.length ≤ s.length → wr64 (↑s.length - ↑t.length) = ((s.length - t.length : Nat) : Int) := fun h => by rw [wr64_eq] <;> omega
 by_cases h : t.length ≤ s.length
 · simp only [hw h, Int.toNat_natCast, h, decide_true, Bool.true_and, if_true] at hK ⊢
   exact ⟨by simp, by simp, hK⟩
 · simp only [h, decide_false, Bool.false_and, if_false] at hK ⊢
   exact ⟨trivial, trivial, hK⟩
theorem suffix_ok : Contract Tryz.prog 154 fun args K => ∃ s t, args = [.str s, .str t] ∧ K [.d (.bool (decide (t.length ≤ s.length) && s.drop (s.length - t.length) == t))] := by
 refine .of c154 t154_ok ?_
 rintro _ K ⟨s, t, rfl, hK⟩ hsm
 refine ⟨[.str s, .str t], rfl, by simp [pkKinds, PK.kinds, HasKs, HasK], ?_⟩
 refine denR_call suffix207_ok ⟨s, t, rfl, _, rfl, ?_⟩
 simp only [zz, reduceCtorEq]
 exact hK
theorem idxFunc229_ok : Contract Tryz.prog 226 fun args K => ∃ s g caps p, args = [.str s, .clo g caps] ∧ Says Tryz.prog (.clo g caps) p ∧ K [.d (.int .i64 (Lib.idxFunc p true ⟨s.toArray⟩))] := by
 refine .of c226 t226_ok ?_
 rintro _ K ⟨s, g, caps, p, rfl, hp, hK⟩ hsm
 refine ⟨[.str s, .clo g caps], rfl, by simp [pkKinds, PK.kinds, HasKs, HasK], ?_⟩
 refine denR_call indexFunc_ok ⟨s, g, caps, p, rfl, hp, _, rfl, ?_⟩
 simp only [zz, reduceCtorEq]
 exact hK
theorem containsFunc_ok : Contract Tryz.prog 195 fun args K => ∃ s g caps p, args = [.str s, .clo g caps] ∧ Says Tryz.prog (.clo g caps) p ∧ K [.d (.bool (decide (0 ≤ Lib.idxFunc p true ⟨s.toArray⟩)))] := by
 refine .of c195 t195_ok ?_
 rintro _ K ⟨s, g, caps, p, rfl, hp, hK⟩ hsm
 refine ⟨[.str s, .clo g caps], rfl, by simp [pkKinds, PK.kinds, HasKs, HasK], ?_⟩
 refine denR_call idxFunc229_ok ⟨s, g, caps, p, rfl, hp, _, rfl, ?_⟩
 simp only [zz, reduceCtorEq]
 exact hK
noncomputable def t196 : R := .ret [.d (.ite (.o2 .lt (.var 0) (.int .i32 48)) (.bool true) (.o2 .gt (.var 0) (.int .i32 57)))]
theorem t196_ok : fnO Tryz.prog mdA 196 [.cell (.int .i32)] = t196 := by kernel_rfl
theorem c196 : callable Tryz.prog 196 = true := by kernel_rfl
noncomputable def t152 : R := let x0 : T := .o2 .ne (.var 0) (.str []); .call (some x0) (.fn 195) [.var 0, .fn 196] [.cell .bool] (.ret [.d (.ite x0 (.o1 .not (.var 1)) (.bool false))])
theorem t152_ok : fnO Tryz.prog mdA 152 [.cell .str] = t152 := by kernel_rfl
theorem c152 : callable Tryz.prog 152 = true := by kernel_rfl
noncomputable def t151 : R := .call none (.fn 152) [.fld (.padd (.var 0) 0) 0 .str] [.cell .bool] (.ret [.d (.var 1)])
theorem t151_ok : fnO Tryz.prog mdA 151 [.cell (.ptr [.str, .str, .bool])] = t151 := by kernel_rfl
theorem c151 : callable Tryz.prog 151 = true := by kernel_rfl
noncomputable def t153 : R := let x0 : T := .o1 .not (.fld (.padd (.var 0) 2) 0 .bool); .call (some (.o1 .not x0)) (.fn 152) [.fld (.padd (.var 0) 1) 0 .str] [.cell .bool] (.call (some (.o2 .band (.o1 .not x0) (.var 1))) (.fn 154) [.fld (.padd (.var 0) 1) 0 .str, .str [48]] [.cell .bool] (.ret [.d (.ite x0 (.bool true) (.ite (.var 1) (.o1 .not (.var 2)) (.bool false)))]))
theorem t153_ok : fnO Tryz.prog mdA 153 [.cell (.ptr [.str, .str, .bool])] = t153 := by kernel_rfl
theorem c153 : callable Tryz.prog 153 = true := by kernel_rfl
noncomputable def t155 : R := let x1 : T := .fld (.padd (.var 0) 0) 0 .str; let x0 : T := .o1 .len x1; .fact (.o2 .le x0 (.int .i64 140737488355328)) (.need (.ite (.o1 .not (.o2 .eq x0 (.int .i64 1))) (.o2 .lt (.int .i64 0) x0) (.bool true)) (.ret [.d (.ite (.o2 .eq x0 (.int .i64 1)) (.bool true) (.o2 .ne (.o2 .sidx x1 (.int .i64 0)) (.int .u8 48)))]))
theorem t155_ok : fnO Tryz.prog mdA 155 [.cell (.ptr [.str, .str, .bool])] = t155 := by kernel_rfl
theorem c155 : callable Tryz.prog 155 = true := by kernel_rfl
noncomputable def t104 : R := let x1 : T := .lcons (.ptr (.lcons (.var 1) (.lcons (.var 2) (.lcons (.var 3) .lnil)))) .lnil; let x2 : T := .o2 .eq (.var 0) (.str [48]); let x3 : T := .o2 .gt (.o1 .len (.var 1)) (.int .i64 4); let x0 : T := .push (.push (.push .nils (.lcons (.clo 151 x1) .lnil)) (.lcons (.clo 153 x1) .lnil)) (.lcons (.clo 155 x1) .lnil); .call none (.fn 150) [.var 0, .str [46]] [.cell .str, .cell .str, .cell .bool] (.fact (.o2 .le (.o1 .len x0) (.int .i64 140737488355328)) (.loop 0 [.int .i64 0] [.int .i64] (.ite (.o2 .lt (.var 4) (.o1 .len x0)) (.need (.o2 .le (.int .i64 0) (.var 4)) (.call none (.val (.idx x0 (.var 4) 0 .fn)) [] [.cell .bool] (.ite (.o1 .not (.var 5)) (.ret [.d (.int .i64 3)]) (.again 0 [.o2 (.add .i64) (.var 4) (.int .i64 1)])))) (.fact (.ite (.o1 .not x2) (.o2 .le (.o1 .len (.var 1)) (.int .i64 140737488355328)) (.bool true)) (.fact (.ite (.o1 .not (.ite x2 (.bool true) x3)) (.o2 .le (.o1 .len (.var 2)) (.int .i64 140737488355328)) (.bool true)) (.ite (.ite (.ite x2 (.bool true) x3) (.bool true) (.o2 .gt (.o1 .len (.var 2)) (.int .i64 3))) (.ret [.d (.int .i64 2)]) (.ret [.d (.int .i64 0)])))))))
theorem t104_ok : fnO Tryz.prog mdA 104 [.cell .str] = t104 := by kernel_rfl
theorem c104 : callable Tryz.prog 104 = true := by kernel_rfl
noncomputable def t249 : R := let x0 : T := .o2 .scat (.var 2) (.str [48, 48, 48]); let x1 : T := .sub x0 (.int .i64 0) (.int .i64 3); .call none (.fn 150) [.var 0, .str [46]] [.cell .str, .cell .str, .cell .bool] (.need (.o2 .le (.o1 .len x0) (.int .i64 140737488355328)) (.need (.o2 .le (.int .i64 3) (.o1 .len x0)) (.need (.o2 .le (.o1 .len (.o2 .scat (.var 1) x1)) (.int .i64 140737488355328)) (.call none (.fn 257) [.o2 .scat (.var 1) x1] [.cell (.int .i64), .any] (.ret [.d (.var 4)])))))
theorem t249_ok : fnO Tryz.prog mdA 249 [.cell .str] = t249 := by kernel_rfl
theorem c249 : callable Tryz.prog 249 = true := by kernel_rfl
noncomputable def t227 : R := .call none (.fn 104) [.var 0] [.cell (.int .i64)] (.ite (.o2 .ne (.var 1) (.int .i64 0)) (.ret [.d (.int .i64 0), .d (.var 1)]) (.call none (.fn 249) [.var 0] [.cell (.int .i64)] (.ret [.d (.var 2), .d (.int .i64 0)])))
theorem t227_ok : fnO Tryz.prog mdA 227 [.cell .str] = t227 := by kernel_rfl
theorem c227 : callable Tryz.prog 227 = true := by kernel_rfl
noncomputable def t200 : R := .call none (.fn 227) [.var 0] [.cell (.int .i64), .cell (.int .i64)] (.ite (.o2 .ne (.var 3) (.int .i64 0)) (.ret [.d (.int .i64 0), .d (.int .i64 0), .d (.var 3)]) (.call none (.fn 227) [.var 1] [.cell (.int .i64), .cell (.int .i64)] (.ite (.o2 .ne (.var 5) (.int .i64 0)) (.ret [.d (.int .i64 0), .d (.int .i64 0), .d (.var 5)]) (.ret [.d (.var 2), .d (.var 4), .d (.int .i64 0)]))))
theorem t200_ok : fnO Tryz.prog mdA 200 [.cell .str, .cell .str] = t200 := by kernel_rfl
theorem c200 : callable Tryz.prog 200 = true := by kernel_rfl
noncomputable def t157 : R := .call none (.fn 200) [.var 0, .var 1] [.cell (.int .i64), .cell (.int .i64), .cell (.int .i64)] (.ite (.o2 .lt (.var 2) (.var 3)) (.ret [.d (.int .i64 (-1)), .d (.var 4)]) (.ite (.o2 .gt (.var 2) (.var 3)) (.ret [.d (.int .i64 1), .d (.var 4)]) (.ret [.d (.int .i64 0), .d (.var 4)])))
theorem t157_ok : fnO Tryz.prog mdA 157 [.cell .str, .cell .str] = t157 := by kernel_rfl
theorem c157 : callable Tryz.prog 157 = true := by kernel_rfl
noncomputable def t207 : R := .call none (.fn 157) [.var 0, .var 1] [.cell (.int .i64), .cell (.int .i64)] (.ret [.d (.var 2)])
theorem t207_ok : fnO Tryz.prog mdA 207 [.cell .str, .cell .str] = t207 := by kernel_rfl
theorem c207 : callable Tryz.prog 207 = true := by kernel_rfl
def noDig (x : Nat) : Bool := decide (x < 48) || decide (57 < x)
theorem noDig206_ok : Contract Tryz.prog 196 fun args K => ∃ x : Nat, x ≤ 1114111 ∧ args = [.int .i32 x] ∧ K [.d (.bool (noDig x))] := by
 refine .of c196 t196_ok ?_
 rintro _ K ⟨x, hx, rfl, hK⟩ hsm
 refine ⟨[.int .i32 x], rfl, by simp [pkKinds, PK.kinds, HasKs, HasK, IntKind.min, IntKind.max, IntKind.signed, IntKind.bits]; omega, ?_⟩
 simp only [zz, reduceCtorEq, t196]
 have e : (if (x : Int) < 48 then true else decide (57 < (x : Int))) = noDig x := by
   rw [Bool.eq_iff_iff]; simp [noDig]; omega
 grind [noDig]
theorem argsTyped_of {P : Program} {f : FuncId} {args : List D} (rks : List (Option RK)) (h : (P.funcs[f]?).map (fun fn => fn.params.toList.map (rkOf P)) = some rks) (ha : ∀ (i : Nat) rk d, rks[i]? = some (some rk) → args[i]? = some d → HasK rk.kind d) : ArgsTyped P f args := by
 intro fn hfn
 rw [hfn] at h
 simp only [Option.map_some, Option.some.injEq] at h
 subst h
 have key : ∀ (tys : List TypeId) (args : List D), (∀ (i : Nat) rk d, (tys.map (rkOf P))[i]? = some (some rk) → args[i]? = some d → HasK rk.kind d) → tysHave P tys args := by
   intro tys
   induction tys with
   | nil => intro args _; cases args <;> simp [tysHave]
   | cons t tys ih =>
     intro args h
     cases args with
     | nil => simp [tysHave]
     | cons d args =>
       refine ⟨fun rk hrk => h 0 rk d (by simp [hrk]) rfl, ih args fun i rk d a b => h (i + 1) rk d (by simpa using a) (by simpa using b)⟩
 exact key _ _ ha
theorem noDig_says : Says Tryz.prog (.clo 196 []) noDig := by
 refine ⟨fun as_ K => ∃ x : Nat, x ≤ 1114111 ∧ as_ = [.int .i32 x] ∧ K [.d (.bool (noDig x))], ⟨c196, _, noDig206_ok, ?_⟩, fun x hx => ⟨x, hx, rfl, rfl⟩⟩
 rintro _ K ⟨x, hx, rfl, hK⟩
 refine ⟨⟨x, hx, by simp, hK⟩, argsTyped_of [some (.cell (.int .i32))] (by kernel_rfl) ?_⟩
 intro i rk d h1 h2
 cases i with
 | zero =>
   simp at h1 h2; subst h1 h2
   simp [RK.kind, HasK, IntKind.min, IntKind.max, IntKind.signed, IntKind.bits]; omega
 | succ i => simp at h1
theorem idxFunc_digs (s : List UInt8) : decide (0 ≤ Lib.idxFunc noDig true ⟨s.toArray⟩) = !digsGo s := by
 have key : ∀ (fuel pos : Nat), pos ≤ s.length → s.length ≤ pos + fuel → decide (0 ≤ Lib.idxFuncFrom noDig true ⟨s.toArray⟩ fuel pos) = !digsGo (s.drop pos) := by
   intro fuel
   induction fuel with
   | zero =>
     intro pos h1 h2
     have : pos = s.length := by omega
     subst this
     simp [Lib.idxFuncFrom, digsGo]
   | succ fuel ih =>
     intro pos h1 h2
     have hsz : (⟨s.toArray⟩ : ByteArray).size = s.length := by simp [ByteArray.size]
     by_cases hlt : pos < s.length
     · have hlt' : pos < (⟨s.toArray⟩ : ByteArray).size := by rw [hsz]; exact hlt
       have hget : (⟨s.toArray⟩ : ByteArray)[pos]'hlt' = s[pos] := by
         show (s.toArray)[pos] = s[pos]
         simp
       simp only [Lib.idxFuncFrom, hlt', if_true]
       rw [List.drop_eq_getElem_cons hlt]
       simp only [digsGo]
       by_cases hb : (s[pos]).toNat < 128
       · rw [decode_ascii _ pos hlt' (by rw [hget]; exact hb), hget]
         have hd : noDig (s[pos]).toNat = !isDig s[pos] := by
           rw [Bool.eq_iff_iff]
           simp [noDig, isDig, ← toNat_byt]
         simp only [hd]
         cases hi : isDig s[pos] with
         | true => simp only [Bool.not_true, Bool.false_eq_true, if_false, if_true]; exact ih (pos + 1) (by omega) (by omega)
         | false => simp
       · have hh := (decode_high _ pos hlt' (by rw [hget]; omega)).1
         have hn : noDig (Utf8.decode ⟨s.toArray⟩ pos).1 = true := by simp [noDig]; omega
         have hi : isDig s[pos] = false := by simp [isDig, ← toNat_byt]; omega
         simp [hn, hi]
     · have : pos = s.length := by omega
       subst this
       simp [Lib.idxFuncFrom, hsz, digsGo]
 have := key s.length 0 (Nat.zero_le _) (by omega)
 simpa [Lib.idxFunc, ByteArray.size] using this
theorem digits192_ok : Contract Tryz.prog 152 fun args K => ∃ s, args = [.str s] ∧ K [.d (.bool (digits s))] := by
 refine .of c152 t152_ok ?_
 rintro _ K ⟨s, rfl, hK⟩ hsm
 refine ⟨[.str s], rfl, by simp [pkKinds, PK.kinds, HasKs, HasK], ?_⟩
 refine denR_gcall containsFunc_ok (s != []) [.bool (if s != [] then !digsGo s else false)] ?_ (fun h => ⟨s, 196, [], noDig, rfl, noDig_says, ?_⟩) (fun h => by rw [h]; rfl) ?_
 · simp only [zz, reduceCtorEq]; rfl
 · rw [idxFunc_digs, h]; rfl
 · simp only [zz, reduceCtorEq]
   cases s with
   | nil => simpa [digits] using hK
   | cons c s => simpa [digits] using hK
abbrev txt (w r : List UInt8) (p : Bool) : D := .ptr [.str w, .str r, .bool p]
theorem form1_ok : Contract Tryz.prog 151 fun args K => ∃ w r p, args = [txt w r p] ∧ K [.d (.bool (digits w))] := by
 refine .of c151 t151_ok ?_
 rintro _ K ⟨w, r, p, rfl, hK⟩ hsm
 refine ⟨[txt w r p], rfl, by simp [pkKinds, PK.kinds, HasKs, HasK], ?_⟩
 refine denR_call digits192_ok ⟨w, rfl, _, rfl, ?_⟩
 simp only [zz, reduceCtorEq]
 exact hK
def form2 (r : List UInt8) (p : Bool) : Bool := !p || (digits r && !(decide (1 ≤ r.length) && r.drop (r.length - 1) == [48]))
theorem form2_ok : Contract Tryz.prog 153 fun args K => ∃ w r p, args = [txt w r p] ∧ K [.d (.bool (form2 r p))] := by
 refine .of c153 t153_ok ?_
 rintro _ K ⟨w, r, p, rfl, hK⟩ hsm
 refine ⟨[txt w r p], rfl, by simp [pkKinds, PK.kinds, HasKs, HasK], ?_⟩
 refine denR_gcall digits192_ok p [.bool (p && digits r)] ?_ (fun h => ⟨r, rfl, by rw [h]; rfl⟩) (fun h => by rw [h]; rfl) ?_
 · simp only [zz, reduceCtorEq]; cases p <;> rfl
 · refine denR_gcall suffix_ok (p && digits r) [.bool ((p && digits r) && (decide (1 ≤ r.length) && r.drop (r.length - 1) == [48]))] ?_ (fun h => ⟨r, [48], rfl, by rw [h]; rfl⟩) (fun h => by rw [h]; rfl) ?_
   · simp only [zz, reduceCtorEq]; cases p <;> cases digits r <;> rfl
   · simp only [zz, reduceCtorEq]
     have e : form2 r p = (decide (p = false) || decide (p = true ∧ digits r = true) && !(p && digits r && (decide (1 ≤ r.length) && List.drop (r.length - 1) r == [48]))) := by
       cases p <;> cases hd : digits r <;> simp [form2, hd]
     rw [← e]; exact hK
def form3 (w : List UInt8) : Bool := w.length == 1 || at8 w 0 != 48
theorem form3_ok : Contract Tryz.prog 155 fun args K => ∃ w r p, args = [txt w r p] ∧ 0 < w.length ∧ K [.d (.bool (form3 w))] := by
 refine .of c155 t155_ok ?_
 rintro _ K ⟨w, r, p, rfl, h0, hK⟩ hsm
 refine ⟨[txt w r p], rfl, by simp [pkKinds, PK.kinds, HasKs, HasK], ?_⟩
 simp only [zz, reduceCtorEq, t155]
 have e : form3 w = (decide ((w.length : Int) = 1) || !decide ((at8 w 0 : Int) = 48)) := by
   rw [Bool.eq_iff_iff]; simp [form3]; omega
 rw [← e]
 exact fun _ => ⟨by simp [h0], hK⟩
theorem FvC.of {P : Program} {f : FuncId} {caps : List D} {s s' : Spec} (hcl : callable P f = true) (hc : Contract P f s') (h : ∀ as_ K, s as_ K → s' (as_ ++ caps) K ∧ ArgsTyped P f (as_ ++ caps)) : FvC P (.clo f caps) s := ⟨hcl, s', hc, h⟩
theorem denR_fcall {P : Program} {F : Option Nat → List RV → Prop} {t : T} {s : Spec} {args : List T} {res : List RK} {r : R} {ags : Ags} {ρ : List D} (hc : FvC P (den ρ t) s) (h : s (args.map (den ρ)) fun rvs => ∃ rs, RV.all res rvs = some rs ∧ HasKs (RK.all res) rs ∧ denR P F noK r ags (ρ ++ rs)) :
   denR P F noK (.call none (.val t) args res r) ags ρ := ⟨s, hc, h⟩
def allB : List Bool → Bool
 | [] => true
 | b :: bs => if b then allB bs else false
def check5a (s : List UInt8) : Int :=
 if !allB [digits (split s).1, form2 (split s).2.1 (split s).2.2, form3 (split s).1] then 3
 else if s == [48] || decide (4 < (split s).1.length) || decide (3 < (split s).2.1.length) then 2 else 0
theorem check150_ok : Contract Tryz.prog 104 fun args K => ∃ s, args = [.str s] ∧ K [.d (.int .i64 (check5a s))] := by
 refine .of c104 t104_ok ?_
 rintro _ K ⟨s, rfl, hK⟩ hsm
 refine ⟨[.str s], rfl, by simp [pkKinds, PK.kinds, HasKs, HasK], ?_⟩
 refine denR_call cut_ok ⟨s, rfl, _, rfl, ?_⟩
 simp only [check5a] at hK
 generalize (split s).1 = w at *
 generalize (split s).2.1 = r at *
 generalize (split s).2.2 = p at *
 have f1 : FvC Tryz.prog (.clo 151 [txt w r p]) fun as_ K => as_ = [] ∧ K [.d (.bool (digits w))] := FvC.of c151 form1_ok (by
   rintro _ K ⟨rfl, hK⟩; exact ⟨⟨w, r, p, rfl, hK⟩, argsTyped_of [] (by kernel_rfl) (by simp)⟩)
 have f2 : FvC Tryz.prog (.clo 153 [txt w r p]) fun as_ K => as_ = [] ∧ K [.d (.bool (form2 r p))] := FvC.of c153 form2_ok (by
   rintro _ K ⟨rfl, hK⟩; exact ⟨⟨w, r, p, rfl, hK⟩, argsTyped_of [] (by kernel_rfl) (by simp)⟩)
 have f3 : 0 < w.length → FvC Tryz.prog (.clo 155 [txt w r p]) fun as_ K => as_ = [] ∧ K [.d (.bool (form3 w))] := fun h0 => FvC.of c155 form3_ok (by
   rintro _ K ⟨rfl, hK⟩; exact ⟨⟨w, r, p, rfl, h0, hK⟩, argsTyped_of [] (by kernel_rfl) (by simp)⟩)
 have hd : digits w = true → 0 < w.length := by simp [digits]
 simp only [zz, reduceCtorEq]
 intro _
 refine loop_go [digits w, form2 r p, form3 w] (fun i l (_ : Unit) => if digits w = false ∧ 1 ≤ i then none else some (allB l)) (fun i _ => [.int .i64 i]) () _ rfl 0 (fun _ _ => rfl) rfl ?_ ?_
 · intro i hi _ hgo
   simp only [zz, reduceCtorEq]
   simp only [List.length_cons, List.length_nil] at hi ⊢
   match i, hi with
   | 0, _ =>
     refine ⟨fun _ => ⟨by simp, denR_fcall f1 ⟨rfl, _, rfl, by simp [RK.all, RK.kinds, HasKs, HasK], ?_⟩⟩, fun h => by simp at h⟩
     simp only [zz, reduceCtorEq]
     simp [allB] at hgo hK ⊢
     clear f1 f2 f3; grind [wr64_eq]
   | 1, _ =>
     refine ⟨fun _ => ⟨by simp, denR_fcall f2 ⟨rfl, _, rfl, by simp [RK.all, RK.kinds, HasKs, HasK], ?_⟩⟩, fun h => by simp at h⟩
     simp only [zz, reduceCtorEq]
     simp [allB] at hgo hK ⊢
     clear f1 f2 f3; grind [wr64_eq]
   | 2, _ =>
     simp [allB] at hgo
     refine ⟨fun _ => ⟨by simp, denR_fcall (f3 (hd (by grind))) ⟨rfl, _, rfl, by simp [RK.all, RK.kinds, HasKs, HasK], ?_⟩⟩, fun h => by simp at h⟩
     simp only [zz, reduceCtorEq]
     simp [allB] at hgo hK ⊢
     clear f1 f2 f3; grind [wr64_eq]
 · intro _ hgo
   simp only [zz, reduceCtorEq]
   simp only [List.length_cons, List.length_nil] at hgo ⊢
   simp [allB] at hgo hK ⊢
   clear f1 f2 f3; grind [wr64_eq]
theorem bytesWorld_below (w : World) (e : TypeId) (t : ByteArray) : BelowD w.heap.size w (Go.Lib.bytesWorld w e t) := by
 have hfr : ∀ (w1 : World) (a : Addr) (n : Nat), (w1.freeze a n).os = w1.os ∧ (w1.freeze a n).tape = w1.tape ∧ (w1.freeze a n).output = w1.output ∧ (w1.freeze a n).heap.size = w1.heap.size ∧ (w1.freeze a n).drawn = w1.drawn := by
   intro w1 a n
   unfold World.freeze
   split <;> simp
 obtain ⟨q1, q2, q3, q4, q5⟩ := hfr (w.drew.alloc (.cells (Go.Lib.bytesCells w e t) e)) ⟨w.heap.size, (Go.Lib.bytesCells w e t).size, none⟩ 1
 refine ⟨⟨q1, q2, q3, ?_, fun k hk => Go.Lib.bytesWorld_at_old w e _ k hk⟩, ?_⟩
 · show w.heap.size ≤ ((w.drew.alloc (.cells (Go.Lib.bytesCells w e t) e)).freeze _ 1).heap.size
   rw [q4]; simp [show (w.drew.alloc (Obj.cells (Go.Lib.bytesCells w e t) e)).heap = w.heap.push (.cells (Go.Lib.bytesCells w e t) e) from rfl]
 · show w.drawn ≤ ((w.drew.alloc (.cells (Go.Lib.bytesCells w e t) e)).freeze _ 1).drawn
   rw [q5]; exact Nat.le_succ _
theorem atoi_ok : Contract Tryz.prog 257 fun args K => ∃ (s : List UInt8) (n : Int), args = [.str s] ∧ s.length ≤ 18 ∧ Lib.atoi s = some n ∧ -9223372036854775808 ≤ n ∧ n ≤ 9223372036854775807 ∧ K [.d (.int .i64 n), .any] := by
 refine ⟨by kernel_rfl, ?_⟩
 rintro _ K ⟨s, n, rfl, hl, ha, n1, n2, hK⟩ _ w m vs hm hsz hrep
 obtain ⟨x, rfl, hx⟩ : ∃ x, vs = #[x] ∧ RepD m (.str s) x := by
   match vs, hsz with
   | ⟨[x]⟩, _ => exact ⟨x, rfl, hrep 0 _ _ rfl rfl⟩
 obtain ⟨rfl, _⟩ := hx.str_inv
 refine (Tryz.strconv_Atoi ⟨s.toArray⟩ n (by simpa [ByteArray.size] using hl) (by simpa using ha) w).mono ?_
 rintro e w' ⟨rfl, t, rfl⟩
 have hb := bytesWorld_below w 5 t
 refine ⟨[.d (.int .i64 n), .any], _, m, hK, resTyped_of (rk := [.cell (.int .i64), .any]) (by kernel_rfl) rfl ?_, rfl, ⟨[.int .i64 n, .nilIface], rfl, rfl, ?_, ?_⟩, Mem.le_refl m, memOk_below hm hb, fun _ _ => rfl, hb⟩
 · simp only [RK.all, RK.kinds, List.map_cons, List.map_nil, List.flatten_cons, List.flatten_nil, List.append_nil, HasKs, HasK, and_true, true_and]
   simp only [IntKind.min, IntKind.max, IntKind.signed, IntKind.bits]
   constructor <;> (simp; omega)
 · intro i r u h1 h2
   match i with
   | 0 => simp at h1 h2; subst h1 h2; exact .d (.int _ _)
   | 1 => simp at h1 h2; subst h1 h2; exact .any
   | i + 2 => simp at h1
 · intro i j r r' u u' b _ h1 _ _ _ ho
   match i with
   | 0 => simp at h1; subst h1; cases ho
   | 1 => simp at h1; subst h1; cases ho
   | i + 2 => simp at h1
@[irreducible] def dig (a : Nat) (c : UInt8) : Nat := a * 10 + (byt c - 48)
theorem dig_eq (a : Nat) (c : UInt8) : dig a c = a * 10 + (byt c - 48) := by unfold dig; rfl
def dv (a : Nat) : List UInt8 → Nat
 | [] => a
 | c :: cs => dv (dig a c) cs
theorem digitVal_dig {c : UInt8} (h : isDig c = true) : Lib.digitVal c = some (byt c - 48) := by
 simp only [isDig, ← toNat_byt, Bool.and_eq_true, decide_eq_true_eq] at h
 unfold Lib.digitVal
 rw [if_pos h, toNat_byt]
theorem decFrom_dv : ∀ (l : List UInt8) (a : Nat), digsGo l = true → Lib.decFrom a l = some (dv a l)
 | [], a, _ => rfl
 | c :: cs, a, h => by
   simp only [digsGo] at h
   split at h
   · rename_i hc
     simp only [Lib.decFrom, digitVal_dig hc, dv, ← dig_eq]
     exact decFrom_dv cs _ h
   · cases h
theorem valStep_dig {n : Nat} {c : UInt8} (hn : n < 100000000000) (h : isDig c = true) : valStep n (byt c) = ((dig n c : Nat) : Int) := by
 rw [dig_eq]
 simp [isDig] at h
 have e1 : wr8 ((byt c : Int) - 48) = ((byt c - 48 : Nat) : Int) := by rw [wr8_eq] <;> omega
 have e2 : wr64 (10 * (n : Int)) = 10 * (n : Int) := by rw [wr64_eq]; omega
 unfold valStep
 rw [e1, e2, wr64_eq (n := ((byt c - 48 : Nat) : Int)) (by omega), wr64_eq] <;> omega
theorem val1_dv : ∀ (l : List UInt8) (n k : Nat), digsGo l = true → n < 10 ^ k → k + l.length ≤ 10 → val1 l n = (dv n l : Int) ∧ dv n l < 10 ^ (k + l.length)
 | [], n, k, _, hn, _ => ⟨rfl, by simpa [dv] using hn⟩
 | c :: cs, n, k, h, hn, hk => by
   simp only [digsGo] at h
   split at h
   · rename_i hc
     simp only [List.length_cons] at hk
     have h10 : 10 ^ k ≤ 10 ^ 10 := Nat.pow_le_pow_right (by omega) (by omega)
     have hlt : dig n c < 10 ^ (k + 1) := by
       simp [isDig] at hc
       rw [Nat.pow_succ, dig_eq]; omega
     obtain ⟨e1, e2⟩ := val1_dv cs (dig n c) (k + 1) h hlt (by omega)
     simp only [val1, dv, List.length_cons]
     rw [valStep_dig (by omega) hc]
     exact ⟨e1, by rw [show k + (cs.length + 1) = k + 1 + cs.length by omega]; exact e2⟩
   · cases h
theorem digsGo_append : ∀ (a b : List UInt8), digsGo (a ++ b) = (digsGo a && digsGo b)
 | [], b => by simp [digsGo]
 | c :: cs, b => by
   simp only [List.cons_append, digsGo, digsGo_append cs b]
   split <;> simp
theorem dv_append : ∀ (a b : List UInt8) (n : Nat), dv n (a ++ b) = dv (dv n a) b
 | [], b, n => rfl
 | c :: cs, b, n => by simp only [List.cons_append, dv, dv_append cs b]
theorem isDig48 : isDig 48 = true := by simp [isDig, ← toNat_byt]
def rest3 (r : List UInt8) : List UInt8 := (r ++ [48, 48, 48]).take 3
theorem rest3_digs {r : List UInt8} (h : digsGo r = true) : digsGo (rest3 r) = true := by
 match r, h with
 | [], _ => simp [rest3, digsGo, isDig48]
 | [a], h => simp [rest3, digsGo, isDig48] at h ⊢; exact h
 | [a, b], h => simp [rest3, digsGo, isDig48] at h ⊢; exact h
 | a :: b :: c :: l, h => simp [rest3, digsGo, isDig48] at h ⊢; grind
theorem val2_dv {r : List UInt8} (h : digsGo r = true) (hl : r.length ≤ 3) {n : Nat} (hn : n < 10000) : val2 r (List.range 3) n = (dv n (rest3 r) : Int) := by
 have z : ∀ {m : Nat}, m < 100000000000 → wr64 (10 * (m : Int)) = (dig m 48 : Int) := fun h => by
   have : byt 48 = 48 := by rw [← toNat_byt]; rfl
   rw [wr64_eq (by omega), dig_eq, this]; simp; omega
 have b9 : ∀ {m : Nat} {c : UInt8}, isDig c = true → dig m c ≤ m * 10 + 9 := fun h => by rw [dig_eq]; simp [isDig] at h; omega
 have r3 : List.range 3 = [0, 1, 2] := rfl
 rw [r3]
 match r, h, hl with
 | [], _, _ =>
   simp only [val2, List.length_nil, Nat.not_lt_zero, if_false, rest3, List.nil_append, List.take, dv]
   have h1 := b9 (m := n) isDig48
   have h2 := b9 (m := dig n 48) isDig48
   rw [z (by omega), z (by omega), z (by omega)]
 | [a], h, _ =>
   have ha : isDig a = true := by simp only [digsGo] at h; split at h <;> simp_all
   have e0 : at8 [a] 0 = byt a := at8_at (by simp)
   simp only [val2, List.length_cons, List.length_nil, Nat.zero_add, Nat.lt_irrefl, Nat.zero_lt_one, Nat.not_lt.2 (show 1 ≤ 2 by omega), if_false, if_true, rest3, List.nil_append, List.cons_append, List.take, dv, e0]
   have h1 := b9 (m := n) ha
   have h2 := b9 (m := dig n a) isDig48
   rw [valStep_dig (by omega) ha, z (by omega), z (by omega)]
 | [a, b], h, _ =>
   have ha : isDig a = true ∧ isDig b = true := by simp only [digsGo] at h; split at h <;> (try split at h) <;> simp_all
   have e0 : at8 [a, b] 0 = byt a := at8_at (by simp)
   have e1 : at8 [a, b] 1 = byt b := at8_at (by simp)
   simp only [val2, List.length_cons, List.length_nil, Nat.zero_add, Nat.lt_irrefl, show (0 < 1 + 1) = True by simp, show (1 < 1 + 1) = True by simp, show (2 < 1 + 1) = False by simp, if_false, if_true, rest3, List.nil_append, List.cons_append, List.take, dv, e0, e1]
   have h1 := b9 (m := n) ha.1
   have h2 := b9 (m := dig n a) ha.2
   rw [valStep_dig (by omega) ha.1, valStep_dig (by omega) ha.2, z (by omega)]
 | [a, b, c], h, _ =>
   have ha : isDig a = true ∧ isDig b = true ∧ isDig c = true := by simp only [digsGo] at h; split at h <;> (try split at h) <;> (try split at h) <;> simp_all
   have e0 : at8 [a, b, c] 0 = byt a := at8_at (by simp)
   have e1 : at8 [a, b, c] 1 = byt b := at8_at (by simp)
   have e2 : at8 [a, b, c] 2 = byt c := at8_at (by simp)
   simp only [val2, List.length_cons, List.length_nil, Nat.zero_add, Nat.lt_irrefl, show (0 < 1 + 1 + 1) = True by simp, show (1 < 1 + 1 + 1) = True by simp, show (2 < 1 + 1 + 1) = True by simp, if_false, if_true, rest3, List.nil_append, List.cons_append, List.take, dv, e0, e1, e2]
   have h1 := b9 (m := n) ha.1
   have h2 := b9 (m := dig n a) ha.2.1
   rw [valStep_dig (by omega) ha.1, valStep_dig (by omega) ha.2.1, valStep_dig (by omega) ha.2.2]
structure Right (s : List UInt8) : Prop where
 w : digits (split s).1 = true
 r : digsGo (split s).2.1 = true
 lw : (split s).1.length ≤ 4
 lr : (split s).2.1.length ≤ 3
theorem right_of {s : List UInt8} (h : check05 s = 0) : Right s := by
 have h0 : digsGo [] = true := rfl
 have hs : (split s).2.2 = false → (split s).2.1 = [] := by
   simp only [split]; split <;> simp
 simp only [check05] at h
 split at h
 · cases h
 · rename_i h1
   split at h
   · cases h
   · split at h
     · cases h
     · rename_i h3
       simp only [Bool.or_eq_true, Bool.and_eq_true, Bool.not_eq_true', not_or, not_and, Bool.not_eq_false, decide_eq_true_eq] at h1 h3
       refine ⟨h1.1, ?_, by omega, by omega⟩
       cases hp : (split s).2.2 with
       | false => rw [hs hp]; rfl
       | true => have := h1.2 hp; simp only [digits, Bool.and_eq_true] at this; exact this.1
theorem value05_dv {s : List UInt8} (h : Right s) : value05 s = (dv 0 ((split s).1 ++ rest3 (split s).2.1) : Int) := by
 have hw := h.w
 simp only [digits, Bool.and_eq_true] at hw
 obtain ⟨e1, e2⟩ := val1_dv (split s).1 0 0 hw.1 (by simp) (by have := h.lw; omega)
 have h10 : 10 ^ (0 + (split s).1.length) ≤ 10 ^ 4 := Nat.pow_le_pow_right (by omega) (by have := h.lw; omega)
 simp only [value05]
 rw [show (0 : Int) = ((0 : Nat) : Int) from rfl, e1, val2_dv h.r h.lr (by omega), dv_append]
theorem rest3_len (r : List UInt8) : (rest3 r).length = 3 := by simp [rest3]
theorem dv_lt {s : List UInt8} (h : Right s) : dv 0 ((split s).1 ++ rest3 (split s).2.1) < 10 ^ 7 := by
 have hw := h.w
 simp only [digits, Bool.and_eq_true] at hw
 have hd : digsGo ((split s).1 ++ rest3 (split s).2.1) = true := by rw [digsGo_append, hw.1, rest3_digs h.r]; rfl
 have hlen : ((split s).1 ++ rest3 (split s).2.1).length ≤ 7 := by have := h.lw; rw [List.length_append, rest3_len]; omega
 have := (val1_dv ((split s).1 ++ rest3 (split s).2.1) 0 0 hd (by simp) (by omega)).2
 exact Nat.lt_of_lt_of_le this (Nat.pow_le_pow_right (by omega) (by omega))
theorem atoi_digs {l : List UInt8} (h : digsGo l = true) (h0 : 0 < l.length) : Lib.atoi l = some (dv 0 l : Int) := by
 match l, h, h0 with
 | c :: cs, h, _ =>
   have hc : isDig c = true := by simp only [digsGo] at h; split at h <;> simp_all
   have hn : (c == 45) = false ∧ (c == 43) = false := by
     simp only [isDig, ← toNat_byt, Bool.and_eq_true, decide_eq_true_eq] at hc
     constructor <;> (rw [beq_eq_false_iff_ne]; rintro rfl; simp at hc)
   simp only [Lib.atoi, hn.1, hn.2, Bool.false_eq_true, if_false, Lib.decNat, List.isEmpty_cons, decFrom_dv _ 0 h]
   rfl
theorem value236_ok : Contract Tryz.prog 249 fun args K => ∃ s, args = [.str s] ∧ Right s ∧ K [.d (.int .i64 (value05 s))] := by
 refine .of c249 t249_ok ?_
 rintro _ K ⟨s, rfl, hr, hK⟩ hsm
 refine ⟨[.str s], rfl, by simp [pkKinds, PK.kinds, HasKs, HasK], ?_⟩
 refine denR_call cut_ok ⟨s, rfl, _, rfl, ?_⟩
 have hw := hr.w
 simp only [digits, Bool.and_eq_true, decide_eq_true_eq] at hw
 have hlw := hr.lw
 have hlr := hr.lr
 have hlt := dv_lt hr
 rw [value05_dv hr] at hK
 have hd : digsGo ((split s).1 ++ rest3 (split s).2.1) = true := by rw [digsGo_append, hw.1, rest3_digs hr.r]; rfl
 have hat := atoi_digs hd (by rw [List.length_append]; omega)
 have hlen : ((split s).1 ++ rest3 (split s).2.1).length ≤ 7 := by rw [List.length_append, rest3_len]; omega
 generalize (split s).1 = w at *
 generalize (split s).2.1 = r at *
 simp only [zz, reduceCtorEq]
 have e : ((r ++ [48, 48, 48]).take (Int.toNat 3)).drop (Int.toNat 0) = rest3 r := rfl
 refine ⟨by simp only [List.length_append, List.length_cons, List.length_nil]; omega, by simp only [List.length_append, List.length_cons, List.length_nil]; omega, ?_, ?_⟩
 · have e' : List.take (Int.toNat 3) (r ++ [48, 48, 48]) = rest3 r := rfl
   rw [e']; omega
 · refine denR_call atoi_ok ⟨w ++ rest3 r, _, rfl, by omega, hat, by omega, by omega, _, rfl, ?_⟩
   simp only [zz, reduceCtorEq]
   exact hK
theorem check5_eq (s : List UInt8) : check5a s = check05 s := by
 have hs : (split s).2.2 = false → (split s).2.1 = [] := by
   simp only [split]; split <;> simp
 simp only [check5a, check05]
 generalize (s == [48]) = z
 have hd : ∀ x, digits x = true → 0 < x.length := fun x h => by simp [digits] at h; omega
 have hd1 := hd (split s).1
 have hd2 := hd (split s).2.1
 generalize (split s).1 = w at *
 generalize (split s).2.1 = r at *
 generalize (split s).2.2 = p at *
 have hlast : 0 < r.length → (r.drop (r.length - 1) == [48]) = (at8 r (r.length - 1) == 48) := by
   intro h0
   rw [List.drop_eq_getElem_cons (by omega), at8_at (by omega), show r.length - 1 + 1 = r.length by omega, List.drop_length]
   rw [Bool.eq_iff_iff]
   simp only [beq_iff_eq, List.cons.injEq, and_true, ← toNat_byt]
   constructor
   · intro h; rw [h]; rfl
   · intro h; exact UInt8.toNat_inj.1 h
 simp only [allB, form2, form3]
 cases hw : digits w with
 | false => simp
 | true =>
   have h1 := hd1 hw
   cases p with
   | false =>
     simp only [Bool.not_false, Bool.true_or, Bool.false_and, Bool.or_false, if_true, Bool.not_true, Bool.false_or]
     by_cases h3 : w.length = 1
     · simp [h3]
     · have : decide (1 < w.length) = true := by simp; omega
       simp only [this, Bool.true_and]
       cases h4 : (at8 w 0 == 48) <;> simp [h3, h4, bne]
   | true =>
     rcases Bool.eq_false_or_eq_true (digits r) with hr | hr
     rotate_left
     · simp [hr]
     · have h2 := hd2 hr
       simp only [hr, hlast h2, Bool.not_true, Bool.false_or, Bool.true_and, show decide (1 ≤ r.length) = true by simp; omega, if_true]
       by_cases h3 : w.length = 1
       · cases (at8 r (r.length - 1) == 48) <;> simp [h3]
       · have : decide (1 < w.length) = true := by simp; omega
         simp only [this, Bool.true_and]
         cases h4 : (at8 w 0 == 48) <;> cases (at8 r (r.length - 1) == 48) <;> simp [h3, h4, bne]
theorem nCheck_ok : Contract Tryz.prog 104 fun args K => ∃ s, args = [.str s] ∧ K [.d (.int .i64 (check05 s))] :=
 check150_ok.weaken fun args K _ ⟨s, h1, h2⟩ => ⟨s, h1, by rw [check5_eq]; exact h2⟩
def thou (s : List UInt8) : Int × Int := if check05 s ≠ 0 then (0, check05 s) else (value05 s, 0)
theorem thou_ok : Contract Tryz.prog 227 fun args K => ∃ s, args = [.str s] ∧ K [.d (.int .i64 (thou s).1), .d (.int .i64 (thou s).2)] := by
 refine .of c227 t227_ok ?_
 rintro _ K ⟨s, rfl, hK⟩ hsm
 refine ⟨[.str s], rfl, by simp [pkKinds, PK.kinds, HasKs, HasK], ?_⟩
 refine denR_call nCheck_ok ⟨s, rfl, _, rfl, ?_⟩
 simp only [zz, reduceCtorEq]
 simp only [thou] at hK
 refine ⟨fun h => ?_, fun h => ?_⟩
 · rw [if_pos (by simpa using h)] at hK; exact hK
 · have h : check05 s = 0 := by simpa using h
   rw [if_neg (by simpa using h)] at hK
   refine denR_call value236_ok ⟨s, rfl, right_of h, _, rfl, ?_⟩
   simp only [zz, reduceCtorEq]
   exact hK
def vals (a b : List UInt8) : Int × Int × Int := if check05 a ≠ 0 then (0, 0, check05 a) else if check05 b ≠ 0 then (0, 0, check05 b) else (value05 a, value05 b, 0)
theorem vals_ok : Contract Tryz.prog 200 fun args K => ∃ a b, args = [.str a, .str b] ∧ K [.d (.int .i64 (vals a b).1), .d (.int .i64 (vals a b).2.1), .d (.int .i64 (vals a b).2.2)] := by
 refine .of c200 t200_ok ?_
 rintro _ K ⟨a, b, rfl, hK⟩ hsm
 refine ⟨[.str a, .str b], rfl, by simp [pkKinds, PK.kinds, HasKs, HasK], ?_⟩
 refine denR_call thou_ok ⟨a, rfl, _, rfl, ?_⟩
 simp only [vals] at hK
 simp only [zz, reduceCtorEq]
 simp only [thou]
 by_cases ha : check05 a = 0
 · simp only [ha, ne_eq, not_true_eq_false, if_false] at hK ⊢
   refine ⟨fun h => by simp at h, fun _ => ?_⟩
   refine denR_call thou_ok ⟨b, rfl, _, rfl, ?_⟩
   simp only [zz, reduceCtorEq]
   simp only [thou]
   by_cases hb : check05 b = 0
   · simp only [hb, ne_eq, not_true_eq_false, if_false] at hK ⊢
     exact ⟨fun h => by simp at h, fun _ => hK⟩
   · simp only [hb, ne_eq, not_false_eq_true, if_true] at hK ⊢
     exact ⟨fun _ => hK, fun h => by simp [hb] at h⟩
 · simp only [ha, ne_eq, not_false_eq_true, if_true] at hK ⊢
   exact ⟨fun _ => hK, fun h => by simp [ha] at h⟩
def comp (a b : List UInt8) : Int := if (vals a b).1 < (vals a b).2.1 then -1 else if (vals a b).2.1 < (vals a b).1 then 1 else 0
theorem comp_ok : Contract Tryz.prog 157 fun args K => ∃ a b, args = [.str a, .str b] ∧ K [.d (.int .i64 (comp a b)), .d (.int .i64 (vals a b).2.2)] := by
 refine .of c157 t157_ok ?_
 rintro _ K ⟨a, b, rfl, hK⟩ hsm
 refine ⟨[.str a, .str b], rfl, by simp [pkKinds, PK.kinds, HasKs, HasK], ?_⟩
 refine denR_call vals_ok ⟨a, b, rfl, _, rfl, ?_⟩
 simp only [zz, reduceCtorEq]
 simp only [comp] at hK
 grind
theorem compare_ok : Contract Tryz.prog 207 fun args K => ∃ a b, args = [.str a, .str b] ∧ K [.d (.int .i64 (comp a b))] := by
 refine .of c207 t207_ok ?_
 rintro _ K ⟨a, b, rfl, hK⟩ hsm
 refine ⟨[.str a, .str b], rfl, by simp [pkKinds, PK.kinds, HasKs, HasK], ?_⟩
 refine denR_call comp_ok ⟨a, b, rfl, _, rfl, ?_⟩
 simp only [zz, reduceCtorEq]
 exact hK
theorem comp_order {a b : List UInt8} (ha : check05 a = 0) (hb : check05 b = 0) : comp a b = order05 a b := by simp [comp, vals, ha, hb, order05]
noncomputable def t146 : R := .ite (.ite (.ite (.ite (.o2 .lt (.var 0) (.int .i64 1)) (.bool true) (.o2 .gt (.var 0) (.int .i64 999))) (.bool true) (.o2 .lt (.var 1) (.int .i64 0))) (.bool true) (.o2 .ge (.var 1) (.int .i64 15))) (.ret [.d (.int .i64 2)]) (.ret [.d (.int .i64 0)])
theorem t146_ok : fnO Tryz.prog mdA 146 [.agg [.int .i64, .int .i64]] = t146 := by kernel_rfl
theorem c146 : callable Tryz.prog 146 = true := by kernel_rfl
noncomputable def t147 : R := let x0 : T := .o2 .eq (.var 0) (.int .i64 0); .call (some x0) (.fn 193) [.var 1] [.cell .bool] (.ite (.ite (.ite x0 (.var 2) (.bool false)) (.bool true) (.ite (.ite (.ite (.o2 .ge (.var 0) (.int .i64 (-1))) (.o2 .le (.var 0) (.int .i64 1048576)) (.bool false)) (.o2 .ne (.var 0) (.int .i64 0)) (.bool false)) (.o2 .eq (.var 1) (.int .i64 0)) (.bool false))) (.ret [.d (.int .i64 0)]) (.ret [.d (.int .i64 2)]))
theorem t147_ok : fnO Tryz.prog mdA 147 [.agg [.int .i64, .int .i64]] = t147 := by kernel_rfl
theorem c147 : callable Tryz.prog 147 = true := by kernel_rfl
noncomputable def t193 : R := .ret [.d (.ite (.o2 .ge (.var 0) (.int .i64 0)) (.o2 .le (.var 0) (.int .i64 65535)) (.bool false))]
theorem t193_ok : fnO Tryz.prog mdA 193 [.cell (.int .i64)] = t193 := by kernel_rfl
theorem c193 : callable Tryz.prog 193 = true := by kernel_rfl
noncomputable def t148 : R := .ret [.d (.ite (.o2 .lt (.var 0) (.var 2)) (.bool true) (.ite (.o2 .eq (.var 0) (.var 2)) (.o2 .lt (.var 1) (.var 3)) (.bool false)))]
theorem t148_ok : fnO Tryz.prog mdA 148 [.agg [.int .i64, .int .i64], .agg [.int .i64, .int .i64]] = t148 := by kernel_rfl
theorem c148 : callable Tryz.prog 148 = true := by kernel_rfl
noncomputable def t174 : R := let x0 : T := .o2 .sidx (.var 0) (.var 1); let x1 : T := .o1 .len (.var 0); .fact (.o2 .le x1 (.int .i64 140737488355328)) (.ite (.o2 .gt x1 (.int .i64 24)) (.ret [.d (.int .i64 13)]) (.loop 0 [.int .i64 0] [.int .i64] (.ite (.o2 .lt (.var 1) x1) (.need (.o2 .le (.int .i64 0) (.var 1)) (.ite (.ite (.ite (.o2 .lt x0 (.int .u8 32)) (.bool true) (.o2 .gt x0 (.int .u8 126))) (.bool true) (.o2 .eq x0 (.int .u8 34))) (.ret [.d (.int .i64 3)]) (.again 0 [.o2 (.add .i64) (.var 1) (.int .i64 1)]))) (.ret [.d (.int .i64 0)]))))
theorem t174_ok : fnO Tryz.prog mdA 174 [.cell .str] = t174 := by kernel_rfl
theorem c174 : callable Tryz.prog 174 = true := by kernel_rfl
noncomputable def t206 : R := .ret [.d (.ite (.o2 .ge (.var 0) (.int .i64 0)) (.o2 .le (.var 0) (.int .i64 10000000)) (.bool false))]
theorem t206_ok : fnO Tryz.prog mdA 206 [.cell (.int .i64)] = t206 := by kernel_rfl
theorem c206 : callable Tryz.prog 206 = true := by kernel_rfl
noncomputable def t173 : R := .fact (.o2 .le (.o1 .len (.var 0)) (.int .i64 140737488355328)) (.ret [.d (.o2 .le (.o1 .len (.var 0)) (.int .i64 300))])
theorem t173_ok : fnO Tryz.prog mdA 173 [.cell (.slice [.int .i64, .int .i64, .int .i64, .int .i64, .int .i64])] = t173 := by kernel_rfl
theorem c173 : callable Tryz.prog 173 = true := by kernel_rfl
def I64 (n : Int) : Prop := -9223372036854775808 ≤ n ∧ n ≤ 9223372036854775807
theorem i64_has {n : Int} (h : I64 n) : HasK (.int .i64) (.int .i64 n) := by
 simp only [HasK, IntKind.min, IntKind.max, IntKind.signed, IntKind.bits, true_and]
 obtain ⟨h1, h2⟩ := h
 constructor <;> (simp; omega)
theorem i64_of {d : D} (h : HasK (.int .i64) d) : ∃ n, d = .int .i64 n ∧ I64 n := by
 cases d <;> simp only [HasK] at h
 obtain ⟨rfl, h1, h2⟩ := h
 refine ⟨_, rfl, ?_, ?_⟩
 · simpa [IntKind.min, IntKind.signed, IntKind.bits] using h1
 · simpa [IntKind.max, IntKind.signed, IntKind.bits] using h2
structure Par where
 ch : Int
 at_ : Int
 deriving DecidableEq
structure Val where
 pal : Int
 lev : Int
 deriving DecidableEq
structure Mov where
 pa : Par
 va : Val
 part : Int
 deriving DecidableEq
structure Tim where
 up : Int
 down : Int
 pos : Int
 col : Int
 beam : Int
 delay : Int
 deriving DecidableEq
structure Cue where
 num : List UInt8
 label : List UInt8
 moves : List Mov
 parts : List Tim
 block : Bool
 mark : Bool
 follow : Int
 link : List UInt8
 loops : Int
structure Lis where
 num : Int
 prio : Int
 cues : List Cue
def Par.enc (p : Par) : List D := [.int .i64 p.ch, .int .i64 p.at_]
def Val.enc (v : Val) : List D := [.int .i64 v.pal, .int .i64 v.lev]
def Mov.enc (m : Mov) : List D := [.int .i64 m.pa.ch, .int .i64 m.pa.at_, .int .i64 m.va.pal, .int .i64 m.va.lev, .int .i64 m.part]
def Tim.enc (t : Tim) : List D := [.int .i64 t.up, .int .i64 t.down, .int .i64 t.pos, .int .i64 t.col, .int .i64 t.beam, .int .i64 t.delay]
def Cue.enc (c : Cue) : List D := [.str c.num, .str c.label, .slice (c.moves.map Mov.enc), .slice (c.parts.map Tim.enc), .bool c.block, .bool c.mark, .int .i64 c.follow, .str c.link, .int .i64 c.loops]
def Lis.enc (l : Lis) : List D := [.int .i64 l.num, .int .i64 l.prio, .slice (l.cues.map Cue.enc)]
def Par.Ok (p : Par) : Prop := I64 p.ch ∧ I64 p.at_
def Val.Ok (v : Val) : Prop := I64 v.pal ∧ I64 v.lev
def Mov.Ok (m : Mov) : Prop := m.pa.Ok ∧ m.va.Ok ∧ I64 m.part
def Tim.Ok (t : Tim) : Prop := I64 t.up ∧ I64 t.down ∧ I64 t.pos ∧ I64 t.col ∧ I64 t.beam ∧ I64 t.delay
structure Cue.Ok (c : Cue) : Prop where
 moves : ∀ m ∈ c.moves, m.Ok
 parts : ∀ t ∈ c.parts, t.Ok
 follow : I64 c.follow
 loops : I64 c.loops
structure Lis.Ok (l : Lis) : Prop where
 num : I64 l.num
 prio : I64 l.prio
 cues : ∀ c ∈ l.cues, c.Ok
theorem Par.has {p : Par} (h : p.Ok) : HasKs paKs p.enc := ⟨i64_has h.1, i64_has h.2, trivial⟩
theorem Val.has {v : Val} (h : v.Ok) : HasKs [.int .i64, .int .i64] v.enc := ⟨i64_has h.1, i64_has h.2, trivial⟩
theorem Mov.has {m : Mov} (h : m.Ok) : HasKs mvKs m.enc := ⟨i64_has h.1.1, i64_has h.1.2, i64_has h.2.1.1, i64_has h.2.1.2, i64_has h.2.2, trivial⟩
theorem Tim.has {t : Tim} (h : t.Ok) : HasKs tmKs t.enc := ⟨i64_has h.1, i64_has h.2.1, i64_has h.2.2.1, i64_has h.2.2.2.1, i64_has h.2.2.2.2.1, i64_has h.2.2.2.2.2, trivial⟩
theorem slice_has {X : Type} {l : List X} {enc : X → List D} {ks : List K} (h : ∀ x ∈ l, HasKs ks (enc x)) : HasK (.slice ks) (.slice (l.map enc)) := by
 simp only [HasK]
 intro x hx
 obtain ⟨y, hy, rfl⟩ := List.mem_map.1 hx
 exact h y hy
theorem Cue.has {c : Cue} (h : c.Ok) : HasKs cueKs c.enc :=
 ⟨trivial, trivial, slice_has fun m hm => Mov.has (h.moves m hm), slice_has fun t ht => Tim.has (h.parts t ht), trivial, trivial, i64_has h.follow, trivial, i64_has h.loops, trivial⟩
theorem Lis.has {l : Lis} (h : l.Ok) : HasKs liKs l.enc := ⟨i64_has h.num, i64_has h.prio, slice_has fun c hc => Cue.has (h.cues c hc), trivial⟩
def param15 (p : Par) : Int := if p.ch < 1 ∨ 999 < p.ch ∨ p.at_ < 0 ∨ 15 ≤ p.at_ then 2 else 0
theorem param15_ok : Contract Tryz.prog 146 fun args K => ∃ p : Par, p.Ok ∧ args = [.agg p.enc] ∧ K [.d (.int .i64 (param15 p))] := by
 refine .of c146 t146_ok ?_
 rintro _ K ⟨p, hp, rfl, hK⟩ hsm
 refine ⟨p.enc, rfl, by simpa [pkKinds, PK.kinds] using Par.has hp, ?_⟩
 simp only [param15] at hK
 simp only [zz, reduceCtorEq, t146, Par.enc]
 grind
def isLevel (v : Int) : Bool := decide (0 ≤ v) && decide (v ≤ 65535)
theorem isLevel_ok : Contract Tryz.prog 193 fun args K => ∃ v : Int, I64 v ∧ args = [.int .i64 v] ∧ K [.d (.bool (isLevel v))] := by
 refine .of c193 t193_ok ?_
 rintro _ K ⟨v, hv, rfl, hK⟩ hsm
 refine ⟨[.int .i64 v], rfl, by simp [pkKinds, PK.kinds, HasKs, i64_has hv], ?_⟩
 simp only [isLevel] at hK
 simp only [zz, reduceCtorEq, t193]
 grind
def value15 (v : Val) : Int := if (v.pal = 0 ∧ isLevel v.lev = true) ∨ (-1 ≤ v.pal ∧ v.pal ≤ 1048576 ∧ v.pal ≠ 0 ∧ v.lev = 0) then 0 else 2
theorem value15_ok : Contract Tryz.prog 147 fun args K => ∃ v : Val, v.Ok ∧ args = [.agg v.enc] ∧ K [.d (.int .i64 (value15 v))] := by
 refine .of c147 t147_ok ?_
 rintro _ K ⟨v, hv, rfl, hK⟩ hsm
 refine ⟨v.enc, rfl, by simpa [pkKinds, PK.kinds] using Val.has hv, ?_⟩
 refine denR_gcall isLevel_ok (v.pal == 0) [.bool ((v.pal == 0) && isLevel v.lev)] (by simp only [zz, reduceCtorEq, Val.enc]) (fun h => ⟨v.lev, hv.2, rfl, by rw [h]; rfl⟩) (fun h => by rw [h]; rfl) ?_
 simp only [value15] at hK
 simp only [zz, reduceCtorEq, Val.enc]
 grind
def before15 (p q : Par) : Bool := decide (p.ch < q.ch) || (decide (p.ch = q.ch) && decide (p.at_ < q.at_))
theorem before15_ok : Contract Tryz.prog 148 fun args K => ∃ p q : Par, p.Ok ∧ q.Ok ∧ args = [.agg p.enc, .agg q.enc] ∧ K [.d (.bool (before15 p q))] := by
 refine .of c148 t148_ok ?_
 rintro _ K ⟨p, q, hp, hq, rfl, hK⟩ hsm
 refine ⟨p.enc ++ q.enc, rfl, by simpa [pkKinds, PK.kinds] using (Par.has hp).append (Par.has hq), ?_⟩
 simp only [before15] at hK
 simp only [zz, reduceCtorEq, t148, Par.enc]
 grind
noncomputable def t175 : R := let x0 : T := .o2 (.sub .i64) (.var 1) (.int .i64 1); let x1 : T := .o2 .gt (.var 1) (.int .i64 0); let x2 : T := .o1 .len (.var 0); let x3 : T := .lcons (.idx (.var 0) (.var 1) 1 (.int .i64)) .lnil; let x4 : T := .idx (.var 0) (.var 1) 0 (.int .i64); let x5 : T := .idx (.var 0) (.var 1) 4 (.int .i64); .fact (.o2 .le x2 (.int .i64 140737488355328)) (.ite (.o2 .gt x2 (.int .i64 128)) (.ret [.d (.int .i64 5)]) (.loop 0 [.int .i64 0] [.int .i64] (.ite (.o2 .lt (.var 1) x2) (.need (.o2 .le (.int .i64 0) (.var 1)) (.call none (.fn 146) [.lcons x4 x3] [.cell (.int .i64)] (.ite (.o2 .ne (.var 2) (.int .i64 0)) (.ret [.d (.var 2)]) (.call none (.fn 147) [.lcons (.idx (.var 0) (.var 1) 2 (.int .i64)) (.lcons (.idx (.var 0) (.var 1) 3 (.int .i64)) .lnil)] [.cell (.int .i64)] (.ite (.o2 .ne (.var 3) (.int .i64 0)) (.ret [.d (.var 3)]) (.ite (.ite (.o2 .lt x5 (.int .i64 1)) (.bool true) (.o2 .gt x5 (.int .i64 4))) (.ret [.d (.int .i64 2)]) (.need (.ite x1 (.o2 .le (.int .i64 0) x0) (.bool true)) (.need (.ite x1 (.o2 .lt x0 x2) (.bool true)) (.call (some x1) (.fn 148) [.lcons (.idx (.var 0) x0 0 (.int .i64)) (.lcons (.idx (.var 0) x0 1 (.int .i64)) .lnil), .lcons x4 x3] [.cell .bool] (.ite (.ite x1 (.o1 .not (.var 4)) (.bool false)) (.ret [.d (.int .i64 9)]) (.again 0 [.o2 (.add .i64) (.var 1) (.int .i64 1)]))))))))))) (.ret [.d (.int .i64 0)]))))
theorem t175_ok : fnO Tryz.prog mdA 175 [.cell (.slice [.int .i64, .int .i64, .int .i64, .int .i64, .int .i64])] = t175 := by kernel_rfl
theorem c175 : callable Tryz.prog 175 = true := by kernel_rfl
noncomputable def t176 : R := let x0 : T := .o1 .not (.var 2); let x1 : T := .o1 .not (.var 3); let x2 : T := .o1 .len (.var 0); let x3 : T := .o1 .not (.var 4); let x4 : T := .o1 .not (.var 5); .fact (.o2 .le x2 (.int .i64 140737488355328)) (.ite (.o2 .eq x2 (.int .i64 0)) (.ret [.d (.int .i64 12)]) (.ite (.o2 .gt x2 (.int .i64 4)) (.ret [.d (.int .i64 5)]) (.loop 0 [.int .i64 0] [.int .i64] (.ite (.o2 .lt (.var 1) x2) (.need (.o2 .le (.int .i64 0) (.var 1)) (.call none (.fn 206) [.idx (.var 0) (.var 1) 0 (.int .i64)] [.cell .bool] (.call (some (.o1 .not x0)) (.fn 206) [.idx (.var 0) (.var 1) 1 (.int .i64)] [.cell .bool] (.call (some (.o1 .not (.ite x0 (.bool true) x1))) (.fn 206) [.idx (.var 0) (.var 1) 2 (.int .i64)] [.cell .bool] (.call (some (.o1 .not (.ite (.ite x0 (.bool true) x1) (.bool true) x3))) (.fn 206) [.idx (.var 0) (.var 1) 3 (.int .i64)] [.cell .bool] (.call (some (.o1 .not (.ite (.ite (.ite x0 (.bool true) x1) (.bool true) x3) (.bool true) x4))) (.fn 206) [.idx (.var 0) (.var 1) 4 (.int .i64)] [.cell .bool] (.call (some (.o1 .not (.ite (.ite (.ite (.ite x0 (.bool true) x1) (.bool true) x3) (.bool true) x4) (.bool true) (.o1 .not (.var 6))))) (.fn 206) [.idx (.var 0) (.var 1) 5 (.int .i64)] [.cell .bool] (.ite (.ite (.ite (.ite (.ite (.ite x0 (.bool true) x1) (.bool true) x3) (.bool true) x4) (.bool true) (.o1 .not (.var 6))) (.bool true) (.o1 .not (.var 7))) (.ret [.d (.int .i64 2)]) (.again 0 [.o2 (.add .i64) (.var 1) (.int .i64 1)]))))))))) (.ret [.d (.int .i64 0)])))))
theorem t176_ok : fnO Tryz.prog mdA 176 [.cell (.slice [.int .i64, .int .i64, .int .i64, .int .i64, .int .i64, .int .i64])] = t176 := by kernel_rfl
theorem c176 : callable Tryz.prog 176 = true := by kernel_rfl
noncomputable def t177 : R := let x0 : T := .o2 .gt (.var 8) (.int .i64 100); let x1 : T := .o2 .lt (.var 8) (.int .i64 0); let x2 : T := .o2 .gt (.var 8) (.int .i64 0); let x3 : T := .o2 .eq (.var 7) (.str []); .ite (.ite (.o2 .ne (.var 6) (.int .i64 (-1))) (.ite (.o2 .lt (.var 6) (.int .i64 25)) (.bool true) (.o2 .gt (.var 6) (.int .i64 10000000))) (.bool false)) (.ret [.d (.int .i64 2)]) (.ite (.o2 .ne (.var 7) (.str [])) (.call none (.fn 96) [.var 7] [.cell (.int .i64)] (.ite (.o2 .ne (.var 9) (.int .i64 0)) (.ret [.d (.var 9)]) (.ite (.ite x1 (.bool true) x0) (.ret [.d (.int .i64 2)]) (.ite (.ite x2 x3 (.bool false)) (.ret [.d (.int .i64 11)]) (.ret [.d (.int .i64 0)]))))) (.ite (.ite x1 (.bool true) x0) (.ret [.d (.int .i64 2)]) (.ite (.ite x2 x3 (.bool false)) (.ret [.d (.int .i64 11)]) (.ret [.d (.int .i64 0)]))))
theorem t177_ok : fnO Tryz.prog mdA 177 [.agg [.str, .str, .slice [.int .i64, .int .i64, .int .i64, .int .i64, .int .i64], .slice [.int .i64, .int .i64, .int .i64, .int .i64, .int .i64, .int .i64], .bool, .bool, .int .i64, .str, .int .i64]] = t177 := by kernel_rfl
theorem c177 : callable Tryz.prog 177 = true := by kernel_rfl
noncomputable def t115 : R := .call none (.fn 96) [.var 0] [.cell (.int .i64)] (.ite (.o2 .ne (.var 9) (.int .i64 0)) (.ret [.d (.var 9)]) (.call none (.fn 174) [.var 1] [.cell (.int .i64)] (.ite (.o2 .ne (.var 10) (.int .i64 0)) (.ret [.d (.var 10)]) (.call none (.fn 175) [.var 2] [.cell (.int .i64)] (.ite (.o2 .ne (.var 11) (.int .i64 0)) (.ret [.d (.var 11)]) (.call none (.fn 176) [.var 3] [.cell (.int .i64)] (.ite (.o2 .ne (.var 12) (.int .i64 0)) (.ret [.d (.var 12)]) (.loop 0 [.int .i64 0] [.int .i64] (.fact (.o2 .le (.o1 .len (.var 2)) (.int .i64 140737488355328)) (.ite (.o2 .lt (.var 13) (.o1 .len (.var 2))) (.need (.o2 .le (.int .i64 0) (.var 13)) (.fact (.o2 .le (.o1 .len (.var 3)) (.int .i64 140737488355328)) (.ite (.o2 .gt (.idx (.var 2) (.var 13) 4 (.int .i64)) (.o1 .len (.var 3))) (.ret [.d (.int .i64 6)]) (.again 0 [.o2 (.add .i64) (.var 13) (.int .i64 1)])))) (.call none (.fn 177) [.lcons (.var 0) (.lcons (.var 1) (.lcons (.var 2) (.lcons (.var 3) (.lcons (.var 4) (.lcons (.var 5) (.lcons (.var 6) (.lcons (.var 7) (.lcons (.var 8) .lnil))))))))] [.cell (.int .i64)] (.ret [.d (.var 14)]))))))))))))
theorem t115_ok : fnO Tryz.prog mdA 115 [.agg [.str, .str, .slice [.int .i64, .int .i64, .int .i64, .int .i64, .int .i64], .slice [.int .i64, .int .i64, .int .i64, .int .i64, .int .i64, .int .i64], .bool, .bool, .int .i64, .str, .int .i64]] = t115 := by kernel_rfl
theorem c115 : callable Tryz.prog 115 = true := by kernel_rfl
theorem getD_map {X : Type} {l : List X} {enc : X → List D} {i : Nat} (h : i < l.length) : (l.map enc).getD i [] = enc l[i] := by simp [List.getD_eq_getElem?_getD, h]
def badChar (c : Nat) : Bool := decide (c < 32) || decide (126 < c) || decide (c = 34)
def labelGo : List UInt8 → Int
 | [] => 0
 | c :: cs => if badChar (byt c) then 3 else labelGo cs
def label16 (s : List UInt8) : Int := if 24 < s.length then 13 else labelGo s
theorem label16_ok : Contract Tryz.prog 174 fun args K => ∃ s, args = [.str s] ∧ K [.d (.int .i64 (label16 s))] := by
 refine .of c174 t174_ok ?_
 rintro _ K ⟨s, rfl, hK⟩ hsm
 refine ⟨[.str s], rfl, by simp [pkKinds, PK.kinds, HasKs, HasK], ?_⟩
 simp only [label16] at hK
 simp only [zz, reduceCtorEq, t174]
 refine fun hcap => ⟨fun h => by rw [if_pos (by omega)] at hK; exact hK, fun h => ?_⟩
 rw [if_neg (by omega)] at hK
 refine loop_go s (fun _ l (_ : Unit) => labelGo l) (fun i _ => [.int .i64 i]) () _ rfl 0 (fun _ _ => rfl) rfl ?_ ?_
 · intro i hi _ hgo
   simp only [zz, reduceCtorEq, hi, at8_at hi]
   simp only [labelGo, badChar] at hgo
   grind [wr64_eq]
 · intro _ hgo
   simp only [zz, reduceCtorEq]
   grind [labelGo]
def isTime (v : Int) : Bool := decide (0 ≤ v) && decide (v ≤ 10000000)
theorem isTime_ok : Contract Tryz.prog 206 fun args K => ∃ v : Int, I64 v ∧ args = [.int .i64 v] ∧ K [.d (.bool (isTime v))] := by
 refine .of c206 t206_ok ?_
 rintro _ K ⟨v, hv, rfl, hK⟩ hsm
 refine ⟨[.int .i64 v], rfl, by simp [pkKinds, PK.kinds, HasKs, i64_has hv], ?_⟩
 simp only [isTime] at hK
 simp only [zz, reduceCtorEq, t206]
 grind
def fewMoves (l : List Mov) : Bool := decide (l.length ≤ 300)
theorem fewMoves_ok : Contract Tryz.prog 173 fun args K => ∃ l : List Mov, (∀ m ∈ l, m.Ok) ∧ args = [.slice (l.map Mov.enc)] ∧ K [.d (.bool (fewMoves l))] := by
 refine .of c173 t173_ok ?_
 rintro _ K ⟨l, hl, rfl, hK⟩ hsm
 refine ⟨[.slice (l.map Mov.enc)], rfl, by simp only [pkKinds, PK.kinds, List.map_cons, List.map_nil, List.flatten_cons, List.flatten_nil, List.append_nil]; exact ⟨slice_has fun m hm => Mov.has (hl m hm), trivial⟩, ?_⟩
 simp only [fewMoves] at hK
 simp only [zz, reduceCtorEq, t173, List.length_map]
 have e : decide ((l.length : Int) ≤ 300) = decide (l.length ≤ 300) := by rw [Bool.eq_iff_iff]; simp; omega
 rw [e]; exact fun _ => hK
instance : Inhabited Mov := ⟨⟨⟨0, 0⟩, ⟨0, 0⟩, 0⟩⟩
def movesGo (xs : List Mov) : Nat → List Mov → Int
 | _, [] => 0
 | i, m :: ms => if param15 m.pa ≠ 0 then param15 m.pa else if value15 m.va ≠ 0 then value15 m.va else if m.part < 1 ∨ 4 < m.part then 2
   else if 0 < i ∧ before15 (xs[i - 1]!).pa m.pa = false then 9 else movesGo xs (i + 1) ms
def moves16 (l : List Mov) : Int := if 128 < l.length then 5 else movesGo l 0 l
theorem moves16_ok : Contract Tryz.prog 175 fun args K => ∃ l : List Mov, (∀ m ∈ l, m.Ok) ∧ args = [.slice (l.map Mov.enc)] ∧ K [.d (.int .i64 (moves16 l))] := by
 refine .of c175 t175_ok ?_
 rintro _ K ⟨l, hl, rfl, hK⟩ hsm
 refine ⟨[.slice (l.map Mov.enc)], rfl, by simp only [pkKinds, PK.kinds, List.map_cons, List.map_nil, List.flatten_cons, List.flatten_nil, List.append_nil]; exact ⟨slice_has fun m hm => Mov.has (hl m hm), trivial⟩, ?_⟩
 simp only [moves16] at hK
 simp only [zz, reduceCtorEq, t175, List.length_map]
 refine fun hcap => ⟨fun h => by rw [if_pos (by omega)] at hK; exact hK, fun h => ?_⟩
 rw [if_neg (by omega)] at hK
 refine loop_go l (fun i l' (_ : Unit) => movesGo l i l') (fun i _ => [.int .i64 i]) () _ rfl 0 (fun _ _ => rfl) rfl ?_ ?_
 · intro i hi _ hgo
   simp only [movesGo] at hgo
   have hm := hl l[i] (List.getElem_mem hi)
   simp only [zz, reduceCtorEq, hi, List.length_map]
   refine ⟨by omega, denR_call param15_ok ⟨(l[i]).pa, hm.1, ?_, _, rfl, ?_⟩⟩
   · simp only [zz, reduceCtorEq, getD_map hi, Mov.enc, Par.enc]
   simp only [zz, reduceCtorEq]
   by_cases h1 : param15 (l[i]).pa = 0
   · simp only [h1, ne_eq, not_true_eq_false, if_false] at hgo ⊢
     refine ⟨fun h => by simp at h, fun _ => denR_call value15_ok ⟨(l[i]).va, hm.2.1, ?_, _, rfl, ?_⟩⟩
     · simp only [zz, reduceCtorEq, getD_map hi, Mov.enc, Val.enc]
     simp only [zz, reduceCtorEq, getD_map hi, Mov.enc]
     have hw : 0 < i → wr64 (↑i - 1) = ((i - 1 : Nat) : Int) := fun h => by rw [wr64_eq] <;> omega
     by_cases h2 : value15 (l[i]).va = 0
     · simp only [h2, ne_eq, not_true_eq_false, if_false, List.length_map] at hgo ⊢
       refine ⟨fun h => by simp at h, fun _ => ⟨fun h3 => ?_, fun h3 => ⟨?_, ?_, ?_⟩⟩⟩
       · rw [if_pos h3] at hgo; rw [← hgo] at hK; exact hK
       · split
         · rename_i h0; rw [hw h0]; simp
         · rfl
       · split
         · rename_i h0; rw [hw h0]; simp; omega
         · rfl
       · rw [if_neg (by omega)] at hgo
         have hp : 0 < i → l[i - 1]! = l[i - 1]'(by omega) := fun h => getElem!_pos l (i - 1) (by omega)
         refine denR_gcall before15_ok (decide (0 < i)) [.bool (decide (0 < i) && before15 (l[i - 1]!).pa (l[i]).pa)] ?_ (fun h => ⟨(l[i - 1]!).pa, (l[i]).pa, ?_, hm.1, ?_, by rw [h]; rfl⟩) (fun h => by rw [h]; rfl) ?_
         · simp only [zz, reduceCtorEq]
         · have h : 0 < i := by simpa using h
           rw [hp h]; exact (hl _ (List.getElem_mem _)).1
         · have h : 0 < i := by simpa using h
           rw [hp h]
           simp only [zz, reduceCtorEq, hw h, getD_map hi, getD_map (show i - 1 < l.length by omega), Mov.enc, Par.enc]
         · simp only [zz, reduceCtorEq]
           grind [wr64_eq]
     · simp only [h2, ne_eq, not_false_eq_true, if_true] at hgo ⊢
       rw [← hgo] at hK
       exact ⟨fun _ => hK, fun h => by simp [h2] at h⟩
   · simp only [h1, ne_eq, not_false_eq_true, if_true] at hgo ⊢
     rw [← hgo] at hK
     exact ⟨fun _ => hK, fun h => by simp [h1] at h⟩
 · intro _ hgo
   simp only [zz, reduceCtorEq, List.length_map]
   grind [movesGo]
def timOk (t : Tim) : Bool := isTime t.up && isTime t.down && isTime t.pos && isTime t.col && isTime t.beam && isTime t.delay
def partsGo : List Tim → Int
 | [] => 0
 | t :: ts => if timOk t then partsGo ts else 2
def parts16 (l : List Tim) : Int := if l.length = 0 then 12 else if 4 < l.length then 5 else partsGo l
theorem parts16_ok : Contract Tryz.prog 176 fun args K => ∃ l : List Tim, (∀ m ∈ l, m.Ok) ∧ args = [.slice (l.map Tim.enc)] ∧ K [.d (.int .i64 (parts16 l))] := by
 refine .of c176 t176_ok ?_
 rintro _ K ⟨l, hl, rfl, hK⟩ hsm
 refine ⟨[.slice (l.map Tim.enc)], rfl, by simp only [pkKinds, PK.kinds, List.map_cons, List.map_nil, List.flatten_cons, List.flatten_nil, List.append_nil]; exact ⟨slice_has fun m hm => Tim.has (hl m hm), trivial⟩, ?_⟩
 simp only [parts16] at hK
 simp only [zz, reduceCtorEq, t176, List.length_map]
 refine fun hcap => ⟨fun h => by rw [if_pos (by omega)] at hK; exact hK, fun h => ⟨fun h' => by rw [if_neg (by omega), if_pos (by omega)] at hK; exact hK, fun h' => ?_⟩⟩
 rw [if_neg (by omega), if_neg (by omega)] at hK
 refine loop_go l (fun i l' (_ : Unit) => partsGo l') (fun i _ => [.int .i64 i]) () _ rfl 0 (fun _ _ => rfl) rfl ?_ ?_
 · intro i hi _ hgo
   simp only [partsGo] at hgo
   have ht : timOk l[i] = (isTime (l[i]).up && isTime (l[i]).down && isTime (l[i]).pos && isTime (l[i]).col && isTime (l[i]).beam && isTime (l[i]).delay) := rfl
   generalize timOk l[i] = tb at hgo ht
   obtain ⟨m1, m2, m3, m4, m5, m6⟩ := hl l[i] (List.getElem_mem hi)
   simp only [zz, reduceCtorEq, hi, List.length_map]
   refine ⟨by omega, denR_call isTime_ok ⟨_, m1, by simp only [zz, reduceCtorEq, getD_map hi, Tim.enc], _, rfl, ?_⟩⟩
   generalize isTime (l[i]).up = b1 at ht ⊢
   refine denR_gcall isTime_ok b1 [.bool (b1 && isTime (l[i]).down)] (by simp only [zz, reduceCtorEq]; cases b1 <;> rfl) (fun h => ⟨_, m2, by simp only [zz, reduceCtorEq, getD_map hi, Tim.enc], by rw [h]; rfl⟩) (fun h => by rw [h]; rfl) ?_
   generalize isTime (l[i]).down = b2 at ht ⊢
   refine denR_gcall isTime_ok (b1 && b2) [.bool ((b1 && b2) && isTime (l[i]).pos)] (by simp only [zz, reduceCtorEq]; cases b1 <;> cases b2 <;> rfl) (fun h => ⟨_, m3, by simp only [zz, reduceCtorEq, getD_map hi, Tim.enc], by rw [h]; rfl⟩) (fun h => by rw [h]; rfl) ?_
   generalize isTime (l[i]).pos = b3 at ht ⊢
   refine denR_gcall isTime_ok (b1 && b2 && b3) [.bool ((b1 && b2 && b3) && isTime (l[i]).col)] (by simp only [zz, reduceCtorEq]; cases b1 <;> cases b2 <;> cases b3 <;> rfl) (fun h => ⟨_, m4, by simp only [zz, reduceCtorEq, getD_map hi, Tim.enc], by rw [h]; rfl⟩) (fun h => by rw [h]; rfl) ?_
   generalize isTime (l[i]).col = b4 at ht ⊢
   refine denR_gcall isTime_ok (b1 && b2 && b3 && b4) [.bool ((b1 && b2 && b3 && b4) && isTime (l[i]).beam)] (by simp only [zz, reduceCtorEq]; cases b1 <;> cases b2 <;> cases b3 <;> cases b4 <;> rfl) (fun h => ⟨_, m5, by simp only [zz, reduceCtorEq, getD_map hi, Tim.enc], by rw [h]; rfl⟩) (fun h => by rw [h]; rfl) ?_
   generalize isTime (l[i]).beam = b5 at ht ⊢
   refine denR_gcall isTime_ok (b1 && b2 && b3 && b4 && b5) [.bool ((b1 && b2 && b3 && b4 && b5) && isTime (l[i]).delay)] (by simp only [zz, reduceCtorEq]; cases b1 <;> cases b2 <;> cases b3 <;> cases b4 <;> cases b5 <;> rfl) (fun h => ⟨_, m6, by simp only [zz, reduceCtorEq, getD_map hi, Tim.enc], by rw [h]; rfl⟩) (fun h => by rw [h]; rfl) ?_
   generalize isTime (l[i]).delay = b6 at ht ⊢
   have hw : wr64 ((i : Int) + 1) = ((i + 1 : Nat) : Int) := by rw [wr64_eq] <;> omega
   simp only [zz, reduceCtorEq]
   cases b1 <;> cases b2 <;> cases b3 <;> cases b4 <;> cases b5 <;> cases b6 <;> simp at ht <;> subst ht <;> simp at hgo ⊢ <;> grind
 · intro _ hgo
   simp only [zz, reduceCtorEq, List.length_map]
   grind [partsGo]
def next16 (c : Cue) : Int := if c.follow ≠ -1 ∧ (c.follow < 25 ∨ 10000000 < c.follow) then 2
 else if c.link ≠ [] ∧ check05 c.link ≠ 0 then check05 c.link else if c.loops < 0 ∨ 100 < c.loops then 2 else if 0 < c.loops ∧ c.link = [] then 11 else 0
theorem next16_ok : Contract Tryz.prog 177 fun args K => ∃ c : Cue, c.Ok ∧ args = [.agg c.enc] ∧ K [.d (.int .i64 (next16 c))] := by
 refine .of c177 t177_ok ?_
 rintro _ K ⟨c, hc, rfl, hK⟩ hsm
 refine ⟨c.enc, rfl, by simpa [pkKinds, PK.kinds] using Cue.has hc, ?_⟩
 have hK' : ∀ v, next16 c = v → K [.d (.int .i64 v)] := by rintro _ rfl; exact hK
 clear hK
 simp only [next16] at hK'
 have hl : (c.link == []) = decide (c.link = []) := by rw [Bool.eq_iff_iff]; simp
 simp only [zz, reduceCtorEq, t177, Cue.enc, hl]
 refine ⟨fun h => hK' _ (by grind), fun h => ⟨fun h1 => denR_call check05_ok ⟨c.link, rfl, _, rfl, ?_⟩, fun h1 => ⟨fun h2 => hK' _ (by grind), fun h2 => ⟨fun h3 => hK' _ (by grind), fun h3 => hK' _ (by grind)⟩⟩⟩⟩
 simp only [zz, reduceCtorEq, hl]
 generalize check05 c.link = n at hK' ⊢
 refine ⟨fun h2 => hK' _ (by grind), fun h2 => ⟨fun h3 => hK' _ (by grind), fun h3 => ⟨fun h4 => hK' _ (by grind), fun h4 => hK' _ (by grind)⟩⟩⟩
def partIn (n : Nat) : List Mov → Bool
 | [] => true
 | m :: ms => if (n : Int) < m.part then false else partIn n ms
def check16 (c : Cue) : Int :=
 if check05 c.num ≠ 0 then check05 c.num else if label16 c.label ≠ 0 then label16 c.label else if moves16 c.moves ≠ 0 then moves16 c.moves
 else if parts16 c.parts ≠ 0 then parts16 c.parts else if partIn c.parts.length c.moves = false then 6 else next16 c
theorem check16_ok : Contract Tryz.prog 115 fun args K => ∃ c : Cue, c.Ok ∧ args = [.agg c.enc] ∧ K [.d (.int .i64 (check16 c))] := by
 refine .of c115 t115_ok ?_
 rintro _ K ⟨c, hc, rfl, hK⟩ hsm
 refine ⟨c.enc, rfl, by simpa [pkKinds, PK.kinds] using Cue.has hc, ?_⟩
 have hK' : ∀ v, check16 c = v → K [.d (.int .i64 v)] := by rintro _ rfl; exact hK
 clear hK
 simp only [check16] at hK'
 refine denR_call check05_ok ⟨c.num, rfl, _, rfl, ?_⟩
 simp only [zz, reduceCtorEq, Cue.enc]
 refine ⟨fun h => hK' _ (by rw [if_pos h]), fun h1 => denR_call label16_ok ⟨c.label, rfl, _, rfl, ?_⟩⟩
 simp only [zz, reduceCtorEq]
 refine ⟨fun h => hK' _ (by rw [if_neg (by simpa using h1), if_pos h]), fun h2 => denR_call moves16_ok ⟨c.moves, hc.moves, rfl, _, rfl, ?_⟩⟩
 simp only [zz, reduceCtorEq]
 refine ⟨fun h => hK' _ (by rw [if_neg (by simpa using h1), if_neg (by simpa using h2), if_pos h]), fun h3 => denR_call parts16_ok ⟨c.parts, hc.parts, rfl, _, rfl, ?_⟩⟩
 simp only [zz, reduceCtorEq]
 refine ⟨fun h => hK' _ (by rw [if_neg (by simpa using h1), if_neg (by simpa using h2), if_neg (by simpa using h3), if_pos h]), fun h4 => ?_⟩
 have hK2 : ∀ v, (if partIn c.parts.length c.moves = false then 6 else next16 c) = v → K [.d (.int .i64 v)] := fun v hv => hK' v (by rw [if_neg (by simpa using h1), if_neg (by simpa using h2), if_neg (by simpa using h3), if_neg (by simpa using h4)]; exact hv)
 clear hK'
 refine loop_go c.moves (fun i l (_ : Unit) => partIn c.parts.length l) (fun i _ => [.int .i64 i]) () _ rfl 0 (fun _ _ => rfl) rfl ?_ ?_
 · intro i hi _ hgo
   simp only [partIn] at hgo
   simp only [zz, reduceCtorEq, hi, List.length_map, getD_map hi, Mov.enc]
   refine fun _ => ⟨by omega, fun _ => ⟨fun h => hK2 _ (by rw [if_pos h] at hgo; rw [← hgo]; simp), fun h => ⟨(), by rw [wr64_eq] <;> omega, by rw [if_neg h] at hgo; exact hgo⟩⟩⟩
 · intro _ hgo
   simp only [partIn] at hgo
   simp only [zz, reduceCtorEq, List.length_map]
   intro _
   refine denR_call next16_ok ⟨c, hc, rfl, _, rfl, ?_⟩
   simp only [zz, reduceCtorEq]
   exact hK2 _ (by rw [← hgo]; simp)
noncomputable def t110 : R := .ite (.ite (.ite (.ite (.o2 .lt (.var 0) (.int .i64 1)) (.bool true) (.o2 .gt (.var 0) (.int .i64 999))) (.bool true) (.o2 .lt (.var 1) (.int .i64 0))) (.bool true) (.o2 .ge (.var 1) (.int .i64 15))) (.ret [.d (.int .i64 2)]) (.ret [.d (.int .i64 0)])
theorem t110_ok : fnO Tryz.prog mdA 110 [.agg [.int .i64, .int .i64]] = t110 := by kernel_rfl
theorem c110 : callable Tryz.prog 110 = true := by kernel_rfl
noncomputable def t168 : R := .ite (.o2 .ne (.var 0) (.var 2)) (.ret [.d (.o2 (.sub .i64) (.var 0) (.var 2))]) (.ret [.d (.o2 (.sub .i64) (.var 1) (.var 3))])
theorem t168_ok : fnO Tryz.prog mdA 168 [.agg [.int .i64, .int .i64], .agg [.int .i64, .int .i64]] = t168 := by kernel_rfl
theorem c168 : callable Tryz.prog 168 = true := by kernel_rfl
noncomputable def t161 : R := let x1 : T := .o1 .bytes (.var 0); let x0 : T := .idx x1 (.var 1) 0 (.int .u8); .fact (.o2 .le (.o1 .len (.var 0)) (.int .i64 140737488355328)) (.ite (.o2 .gt (.o1 .len (.var 0)) (.int .i64 24)) (.ret [.d (.int .i64 13)]) (.fact (.o2 .le (.o1 .len x1) (.int .i64 140737488355328)) (.loop 0 [.int .i64 0] [.int .i64] (.ite (.o2 .lt (.var 1) (.o1 .len x1)) (.need (.o2 .le (.int .i64 0) (.var 1)) (.ite (.ite (.ite (.o2 .lt x0 (.int .u8 32)) (.bool true) (.o2 .gt x0 (.int .u8 126))) (.bool true) (.o2 .eq x0 (.int .u8 34))) (.ret [.d (.int .i64 3)]) (.again 0 [.o2 (.add .i64) (.var 1) (.int .i64 1)]))) (.ret [.d (.int .i64 0)])))))
theorem t161_ok : fnO Tryz.prog mdA 161 [.cell .str] = t161 := by kernel_rfl
theorem c161 : callable Tryz.prog 161 = true := by kernel_rfl
noncomputable def t141 : R := let x0 : T := .o2 .eq (.var 0) (.int .i64 0); .call (some x0) (.fn 192) [.var 1] [.cell .bool] (.ite (.ite x0 (.var 2) (.bool false)) (.ret [.d (.int .i64 0)]) (.ite (.ite (.ite (.ite (.o2 .ge (.var 0) (.int .i64 (-1))) (.o2 .ne (.var 0) (.int .i64 0)) (.bool false)) (.o2 .le (.var 0) (.int .i64 1048576)) (.bool false)) (.o2 .eq (.var 1) (.int .i64 0)) (.bool false)) (.ret [.d (.int .i64 0)]) (.ret [.d (.int .i64 2)])))
theorem t141_ok : fnO Tryz.prog mdA 141 [.agg [.int .i64, .int .i64]] = t141 := by kernel_rfl
theorem c141 : callable Tryz.prog 141 = true := by kernel_rfl
noncomputable def t192 : R := .ret [.d (.ite (.o2 .ge (.var 0) (.int .i64 0)) (.o2 .le (.var 0) (.int .i64 65535)) (.bool false))]
theorem t192_ok : fnO Tryz.prog mdA 192 [.cell (.int .i64)] = t192 := by kernel_rfl
theorem c192 : callable Tryz.prog 192 = true := by kernel_rfl
noncomputable def t201 : R := let x0 : T := .o1 .len (.var 5); let x1 : T := .o2 (.sub .i64) x0 (.int .i64 1); let x2 : T := .o2 .gt x0 (.int .i64 0); .call none (.fn 110) [.lcons (.var 0) (.lcons (.var 1) .lnil)] [.cell (.int .i64)] (.ite (.o2 .ne (.var 6) (.int .i64 0)) (.ret [.d (.var 6)]) (.call none (.fn 141) [.lcons (.var 2) (.lcons (.var 3) .lnil)] [.cell (.int .i64)] (.ite (.o2 .ne (.var 7) (.int .i64 0)) (.ret [.d (.var 7)]) (.ite (.ite (.o2 .lt (.var 4) (.int .i64 1)) (.bool true) (.o2 .gt (.var 4) (.int .i64 4))) (.ret [.d (.int .i64 2)]) (.fact (.o2 .le x0 (.int .i64 140737488355328)) (.need (.ite x2 (.o2 .le (.int .i64 0) x1) (.bool true)) (.need (.ite x2 (.o2 .lt x1 x0) (.bool true)) (.call (some x2) (.fn 168) [.lcons (.idx (.var 5) x1 0 (.int .i64)) (.lcons (.idx (.var 5) x1 1 (.int .i64)) .lnil), .lcons (.var 0) (.lcons (.var 1) .lnil)] [.cell (.int .i64)] (.ite (.ite x2 (.o2 .ge (.var 8) (.int .i64 0)) (.bool false)) (.ret [.d (.int .i64 9)]) (.ret [.d (.int .i64 0)]))))))))))
theorem t201_ok : fnO Tryz.prog mdA 201 [.agg [.int .i64, .int .i64, .int .i64, .int .i64, .int .i64], .cell (.slice [.int .i64, .int .i64, .int .i64, .int .i64, .int .i64])] = t201 := by kernel_rfl
theorem c201 : callable Tryz.prog 201 = true := by kernel_rfl
noncomputable def t163 : R := let x0 : T := .o1 .len (.var 0); .fact (.o2 .le x0 (.int .i64 140737488355328)) (.ite (.o2 .gt x0 (.int .i64 128)) (.ret [.d (.int .i64 5)]) (.loop 0 [.int .i64 0] [.int .i64] (.ite (.o2 .lt (.var 1) x0) (.need (.o2 .le (.int .i64 0) (.var 1)) (.need (.o2 .le (.var 1) x0) (.call none (.fn 201) [.lcons (.idx (.var 0) (.var 1) 0 (.int .i64)) (.lcons (.idx (.var 0) (.var 1) 1 (.int .i64)) (.lcons (.idx (.var 0) (.var 1) 2 (.int .i64)) (.lcons (.idx (.var 0) (.var 1) 3 (.int .i64)) (.lcons (.idx (.var 0) (.var 1) 4 (.int .i64)) .lnil)))), .sub (.var 0) (.int .i64 0) (.var 1)] [.cell (.int .i64)] (.ite (.o2 .ne (.var 2) (.int .i64 0)) (.ret [.d (.var 2)]) (.again 0 [.o2 (.add .i64) (.var 1) (.int .i64 1)]))))) (.ret [.d (.int .i64 0)]))))
theorem t163_ok : fnO Tryz.prog mdA 163 [.cell (.slice [.int .i64, .int .i64, .int .i64, .int .i64, .int .i64])] = t163 := by kernel_rfl
theorem c163 : callable Tryz.prog 163 = true := by kernel_rfl
theorem cparam_ok : Contract Tryz.prog 110 fun args K => ∃ p : Par, p.Ok ∧ args = [.agg p.enc] ∧ K [.d (.int .i64 (param15 p))] := by
 refine .of c110 t110_ok ?_
 rintro _ K ⟨p, hp, rfl, hK⟩ hsm
 refine ⟨p.enc, rfl, by simpa [pkKinds, PK.kinds] using Par.has hp, ?_⟩
 simp only [param15] at hK
 simp only [zz, reduceCtorEq, t110, Par.enc]
 grind
def pcmp (p q : Par) : Int := if p.ch ≠ q.ch then wr64 (p.ch - q.ch) else wr64 (p.at_ - q.at_)
theorem pcmp_ok : Contract Tryz.prog 168 fun args K => ∃ p q : Par, p.Ok ∧ q.Ok ∧ args = [.agg p.enc, .agg q.enc] ∧ K [.d (.int .i64 (pcmp p q))] := by
 refine .of c168 t168_ok ?_
 rintro _ K ⟨p, q, hp, hq, rfl, hK⟩ hsm
 refine ⟨p.enc ++ q.enc, rfl, by simpa [pkKinds, PK.kinds] using (Par.has hp).append (Par.has hq), ?_⟩
 simp only [pcmp] at hK
 simp only [zz, reduceCtorEq, t168, Par.enc]
 grind
theorem clabel_ok : Contract Tryz.prog 161 fun args K => ∃ s, args = [.str s] ∧ K [.d (.int .i64 (label16 s))] := by
 refine .of c161 t161_ok ?_
 rintro _ K ⟨s, rfl, hK⟩ hsm
 refine ⟨[.str s], rfl, by simp [pkKinds, PK.kinds, HasKs, HasK], ?_⟩
 simp only [label16] at hK
 simp only [zz, reduceCtorEq, t161, List.length_map]
 refine fun hcap => ⟨fun h => by rw [if_pos (by omega)] at hK; exact hK, fun h _ => ?_⟩
 rw [if_neg (by omega)] at hK
 refine loop_go s (fun _ l (_ : Unit) => labelGo l) (fun i _ => [.int .i64 i]) () _ rfl 0 (fun _ _ => rfl) rfl ?_ ?_
 · intro i hi _ hgo
   simp only [zz, reduceCtorEq, hi, List.length_map, getD_map hi, toNat_byt]
   simp only [labelGo, badChar] at hgo
   grind [wr64_eq]
 · intro _ hgo
   simp only [zz, reduceCtorEq, List.length_map]
   grind [labelGo]
theorem plevel_ok : Contract Tryz.prog 192 fun args K => ∃ v : Int, I64 v ∧ args = [.int .i64 v] ∧ K [.d (.bool (isLevel v))] := by
 refine .of c192 t192_ok ?_
 rintro _ K ⟨v, hv, rfl, hK⟩ hsm
 refine ⟨[.int .i64 v], rfl, by simp [pkKinds, PK.kinds, HasKs, i64_has hv], ?_⟩
 simp only [isLevel] at hK
 simp only [zz, reduceCtorEq, t192]
 grind
theorem pvalue_ok : Contract Tryz.prog 141 fun args K => ∃ v : Val, v.Ok ∧ args = [.agg v.enc] ∧ K [.d (.int .i64 (value15 v))] := by
 refine .of c141 t141_ok ?_
 rintro _ K ⟨v, hv, rfl, hK⟩ hsm
 refine ⟨v.enc, rfl, by simpa [pkKinds, PK.kinds] using Val.has hv, ?_⟩
 refine denR_gcall plevel_ok (v.pal == 0) [.bool ((v.pal == 0) && isLevel v.lev)] (by simp only [zz, reduceCtorEq, Val.enc]) (fun h => ⟨v.lev, hv.2, rfl, by rw [h]; rfl⟩) (fun h => by rw [h]; rfl) ?_
 simp only [value15] at hK
 simp only [zz, reduceCtorEq, Val.enc]
 grind
def move16 (m : Mov) (bs : List Mov) : Int := if param15 m.pa ≠ 0 then param15 m.pa else if value15 m.va ≠ 0 then value15 m.va else if m.part < 1 ∨ 4 < m.part then 2
 else if 0 < bs.length ∧ 0 ≤ pcmp (bs[bs.length - 1]!).pa m.pa then 9 else 0
theorem cmove_ok : Contract Tryz.prog 201 fun args K => ∃ (m : Mov) (bs : List Mov), m.Ok ∧ (∀ b ∈ bs, b.Ok) ∧ args = [.agg m.enc, .slice (bs.map Mov.enc)] ∧ K [.d (.int .i64 (move16 m bs))] := by
 refine .of c201 t201_ok ?_
 rintro _ K ⟨m, bs, hm, hb, rfl, hK⟩ hsm
 refine ⟨m.enc ++ [.slice (bs.map Mov.enc)], rfl, by simpa [pkKinds, PK.kinds] using (Mov.has hm).append (show HasKs [.slice mvKs] [.slice (bs.map Mov.enc)] from ⟨slice_has fun x hx => Mov.has (hb x hx), trivial⟩), ?_⟩
 have hK' : ∀ v, move16 m bs = v → K [.d (.int .i64 v)] := by rintro _ rfl; exact hK
 clear hK
 simp only [move16] at hK'
 refine denR_call cparam_ok ⟨m.pa, hm.1, rfl, _, rfl, ?_⟩
 simp only [zz, reduceCtorEq, Mov.enc]
 refine ⟨fun h => hK' _ (by rw [if_pos h]), fun h1 => denR_call pvalue_ok ⟨m.va, hm.2.1, rfl, _, rfl, ?_⟩⟩
 simp only [zz, reduceCtorEq]
 refine ⟨fun h => hK' _ (by rw [if_neg (by simpa using h1), if_pos h]), fun h2 => ⟨fun h => hK' _ (by rw [if_neg (by simpa using h1), if_neg (by simpa using h2), if_pos h]), fun h3 hcap => ⟨?_, ?_, ?_⟩⟩⟩
 all_goals (simp only [List.length_map] at hcap ⊢)
 all_goals (have hw : 0 < bs.length → wr64 (↑bs.length - 1) = ((bs.length - 1 : Nat) : Int) := fun h => by rw [wr64_eq] <;> omega)
 · split
   · rename_i h0; rw [hw h0]; simp
   · rfl
 · split
   · rename_i h0; rw [hw h0]; simp; omega
   · rfl
 · have hp : ∀ h : 0 < bs.length, bs[bs.length - 1]! = bs[bs.length - 1]'(by omega) := fun h => getElem!_pos bs _ (by omega)
   refine denR_gcall pcmp_ok (decide (0 < bs.length)) [.int .i64 (if 0 < bs.length then pcmp (bs[bs.length - 1]!).pa m.pa else 0)] ?_ (fun h => ⟨(bs[bs.length - 1]!).pa, m.pa, ?_, hm.1, ?_, ?_⟩) (fun h => ?_) ?_
   · simp only [zz, reduceCtorEq, List.length_map]
   · have h : 0 < bs.length := by simpa using h
     rw [hp h]; exact (hb _ (List.getElem_mem _)).1
   · have h : 0 < bs.length := by simpa using h
     rw [hp h]
     simp only [zz, reduceCtorEq, List.length_map, hw h, getD_map (show bs.length - 1 < bs.length by omega), Mov.enc, Par.enc]
   · have h : 0 < bs.length := by simpa using h
     rw [if_pos h]; rfl
   · have h : ¬ 0 < bs.length := by simpa using h
     rw [if_neg h]; rfl
   · simp only [zz, reduceCtorEq, List.length_map]
     refine ⟨fun h => hK' _ ?_, fun h => hK' _ ?_⟩
     · rw [if_neg (by simpa using h1), if_neg (by simpa using h2), if_neg (show ¬(m.part < 1 ∨ 4 < m.part) by omega), if_pos (by grind)]
     · rw [if_neg (by simpa using h1), if_neg (by simpa using h2), if_neg (show ¬(m.part < 1 ∨ 4 < m.part) by omega), if_neg (by grind)]
theorem pcmp_before {p q : Par} (hp : param15 p = 0) (hq : param15 q = 0) : (0 ≤ pcmp p q) = (before15 p q = false) := by
 simp only [param15] at hp hq
 split at hp
 · cases hp
 · split at hq
   · cases hq
   · simp only [pcmp, before15]
     have e1 : wr64 (p.ch - q.ch) = p.ch - q.ch := wr64_eq (by omega)
     have e2 : wr64 (p.at_ - q.at_) = p.at_ - q.at_ := wr64_eq (by omega)
     rw [e1, e2]
     simp
     split <;> omega
theorem cmoves_ok : Contract Tryz.prog 163 fun args K => ∃ l : List Mov, (∀ m ∈ l, m.Ok) ∧ args = [.slice (l.map Mov.enc)] ∧ K [.d (.int .i64 (moves16 l))] := by
 refine .of c163 t163_ok ?_
 rintro _ K ⟨l, hl, rfl, hK⟩ hsm
 refine ⟨[.slice (l.map Mov.enc)], rfl, by simp only [pkKinds, PK.kinds, List.map_cons, List.map_nil, List.flatten_cons, List.flatten_nil, List.append_nil]; exact ⟨slice_has fun m hm => Mov.has (hl m hm), trivial⟩, ?_⟩
 simp only [moves16] at hK
 simp only [zz, reduceCtorEq, t163, List.length_map]
 refine fun hcap => ⟨fun h => by rw [if_pos (by omega)] at hK; exact hK, fun h => ?_⟩
 rw [if_neg (by omega)] at hK
 refine loop_go l (fun i l' (_ : Unit) => if 0 < i ∧ param15 (l[i - 1]!).pa ≠ 0 then none else some (movesGo l i l')) (fun i _ => [.int .i64 i]) () (some (movesGo l 0 l)) (by simp) 0 (fun _ _ => rfl) rfl ?_ ?_
 · intro i hi _ hgo
   split at hgo
   · cases hgo
   · rename_i hprev
     simp only [movesGo, Option.some.injEq] at hgo
     have hm := hl l[i] (List.getElem_mem hi)
     have ht : (l.take i).length = i := by simp; omega
     simp only [zz, reduceCtorEq, hi, List.length_map]
     refine ⟨by omega, by omega, denR_call cmove_ok ⟨l[i], l.take i, hm, fun b hb => hl b (List.mem_of_mem_take hb), ?_, _, rfl, ?_⟩⟩
     · simp only [zz, reduceCtorEq, getD_map hi, Mov.enc, List.map_take]
     · have hpr : ∀ h : 0 < i, (l.take i)[(l.take i).length - 1]! = l[i - 1]! := fun h => by
         rw [getElem!_pos _ _ (by omega), getElem!_pos _ _ (by omega)]
         simp [ht]
       have hnx : param15 (l[i]).pa = 0 → ¬ (0 < i + 1 ∧ param15 (l[i + 1 - 1]!).pa ≠ 0) := fun h => by
         rw [Nat.add_sub_cancel, getElem!_pos l i hi]; simp [h]
       have hb : param15 (l[i]).pa = 0 → (0 < (l.take i).length ∧ 0 ≤ pcmp ((l.take i)[(l.take i).length - 1]!).pa (l[i]).pa) = (0 < i ∧ before15 (l[i - 1]!).pa (l[i]).pa = false) := fun h0 => by
         rw [ht]
         by_cases h : 0 < i
         · have := hpr h
           rw [ht] at this
           rw [this, pcmp_before (Classical.byContradiction fun hn => hprev ⟨h, hn⟩) h0]
         · simp [h]
       have key : (move16 l[i] (l.take i) ≠ 0 → movesGo l 0 l = move16 l[i] (l.take i)) ∧ (move16 l[i] (l.take i) = 0 → param15 (l[i]).pa = 0 ∧ movesGo l (i + 1) (l.drop (i + 1)) = movesGo l 0 l) := by
         rw [← hgo]
         unfold move16
         by_cases h0 : param15 (l[i]).pa = 0
         · simp only [hb h0]
           simp only [h0, ne_eq, not_true_eq_false, if_false, true_and]
           by_cases h1 : value15 (l[i]).va = 0
           · simp only [h1, not_true_eq_false, if_false]
             by_cases h2 : (l[i]).part < 1 ∨ 4 < (l[i]).part
             · simp [h2]
             · simp only [h2, if_false]
               by_cases h3 : 0 < i ∧ before15 (l[i - 1]!).pa (l[i]).pa = false
               · rw [if_pos h3, if_pos h3]; simp
               · rw [if_neg h3, if_neg h3]; simp
           · simp [h1]
         · simp [h0]
       generalize move16 l[i] (l.take i) = r at key ⊢
       simp only [zz, reduceCtorEq]
       refine ⟨fun h => by rw [← key.1 h]; exact hK, fun h => ⟨(), by rw [wr64_eq] <;> omega, ?_⟩⟩
       obtain ⟨k1, k2⟩ := key.2 h
       have := hnx k1
       rw [if_neg (by simpa using this), k2]
 · intro _ hgo
   simp only [zz, reduceCtorEq, List.length_map]
   split at hgo
   · cases hgo
   · simp only [movesGo, Option.some.injEq] at hgo
     rw [← hgo] at hK; exact hK
noncomputable def t165 : R := let x0 : T := .o2 .gt (.var 8) (.int .i64 100); let x1 : T := .o2 .lt (.var 8) (.int .i64 0); let x2 : T := .o2 .gt (.var 8) (.int .i64 0); let x3 : T := .o2 .eq (.var 7) (.str []); .ite (.ite (.o2 .ne (.var 6) (.int .i64 (-1))) (.ite (.o2 .lt (.var 6) (.int .i64 25)) (.bool true) (.o2 .gt (.var 6) (.int .i64 10000000))) (.bool false)) (.ret [.d (.int .i64 2)]) (.ite (.o2 .ne (.var 7) (.str [])) (.call none (.fn 104) [.var 7] [.cell (.int .i64)] (.ite (.o2 .ne (.var 9) (.int .i64 0)) (.ret [.d (.var 9)]) (.ite (.ite x1 (.bool true) x0) (.ret [.d (.int .i64 2)]) (.ite (.ite x2 x3 (.bool false)) (.ret [.d (.int .i64 11)]) (.ret [.d (.int .i64 0)]))))) (.ite (.ite x1 (.bool true) x0) (.ret [.d (.int .i64 2)]) (.ite (.ite x2 x3 (.bool false)) (.ret [.d (.int .i64 11)]) (.ret [.d (.int .i64 0)]))))
theorem t165_ok : fnO Tryz.prog mdA 165 [.agg [.str, .str, .slice [.int .i64, .int .i64, .int .i64, .int .i64, .int .i64], .slice [.int .i64, .int .i64, .int .i64, .int .i64, .int .i64, .int .i64], .bool, .bool, .int .i64, .str, .int .i64]] = t165 := by kernel_rfl
theorem c165 : callable Tryz.prog 165 = true := by kernel_rfl
noncomputable def t181 : R := .fact (.o2 .le (.o1 .len (.var 0)) (.int .i64 140737488355328)) (.loop 0 [.int .i64 0] [.int .i64] (.ite (.o2 .lt (.var 2) (.o1 .len (.var 0))) (.need (.o2 .le (.int .i64 0) (.var 2)) (.call none (.val (.var 1)) [.lcons (.idx (.var 0) (.var 2) 0 (.int .i64)) (.lcons (.idx (.var 0) (.var 2) 1 (.int .i64)) (.lcons (.idx (.var 0) (.var 2) 2 (.int .i64)) (.lcons (.idx (.var 0) (.var 2) 3 (.int .i64)) (.lcons (.idx (.var 0) (.var 2) 4 (.int .i64)) .lnil))))] [.cell .bool] (.ite (.var 3) (.ret [.d (.var 2)]) (.again 0 [.o2 (.add .i64) (.var 2) (.int .i64 1)])))) (.ret [.d (.int .i64 (-1))])))
theorem t181_ok : fnO Tryz.prog mdA 181 [.cell (.slice [.int .i64, .int .i64, .int .i64, .int .i64, .int .i64]), .cell .fn] = t181 := by kernel_rfl
theorem c181 : callable Tryz.prog 181 = true := by kernel_rfl
noncomputable def t202 : R := .call none (.fn 181) [.var 0, .var 1] [.cell (.int .i64)] (.ret [.d (.o2 .ge (.var 2) (.int .i64 0))])
theorem t202_ok : fnO Tryz.prog mdA 202 [.cell (.slice [.int .i64, .int .i64, .int .i64, .int .i64, .int .i64]), .cell .fn] = t202 := by kernel_rfl
theorem c202 : callable Tryz.prog 202 = true := by kernel_rfl
noncomputable def t203 : R := let x0 : T := .o1 .len (.fld (.padd (.var 5) 3) 0 (.slice [.int .i64, .int .i64, .int .i64, .int .i64, .int .i64, .int .i64])); .fact (.o2 .le x0 (.int .i64 140737488355328)) (.ret [.d (.o2 .gt (.var 4) x0)])
theorem t203_ok : fnO Tryz.prog mdA 203 ([.agg [.int .i64, .int .i64, .int .i64, .int .i64, .int .i64]] ++ [.cell (.ptr cueKs)]) = t203 := by kernel_rfl
theorem c203 : callable Tryz.prog 203 = true := by kernel_rfl
theorem cnext_ok : Contract Tryz.prog 165 fun args K => ∃ c : Cue, c.Ok ∧ args = [.agg c.enc] ∧ K [.d (.int .i64 (next16 c))] := by
 refine .of c165 t165_ok ?_
 rintro _ K ⟨c, hc, rfl, hK⟩ hsm
 refine ⟨c.enc, rfl, by simpa [pkKinds, PK.kinds] using Cue.has hc, ?_⟩
 have hK' : ∀ v, next16 c = v → K [.d (.int .i64 v)] := by rintro _ rfl; exact hK
 clear hK
 simp only [next16] at hK'
 have hl : (c.link == []) = decide (c.link = []) := by rw [Bool.eq_iff_iff]; simp
 simp only [zz, reduceCtorEq, t165, Cue.enc, hl]
 refine ⟨fun h => hK' _ (by grind), fun h => ⟨fun h1 => denR_call nCheck_ok ⟨c.link, rfl, _, rfl, ?_⟩, fun h1 => ⟨fun h2 => hK' _ (by grind), fun h2 => ⟨fun h3 => hK' _ (by grind), fun h3 => hK' _ (by grind)⟩⟩⟩⟩
 simp only [zz, reduceCtorEq, hl]
 generalize check05 c.link = n at hK' ⊢
 refine ⟨fun h2 => hK' _ (by grind), fun h2 => ⟨fun h3 => hK' _ (by grind), fun h3 => ⟨fun h4 => hK' _ (by grind), fun h4 => hK' _ (by grind)⟩⟩⟩
def idxGo {X : Type} (p : X → Bool) : Nat → List X → Int
 | _, [] => -1
 | i, x :: xs => if p x then i else idxGo p (i + 1) xs
def SaysOf {X : Type} (P : Program) (fv : D) (enc : X → List D) (l : List X) (p : X → Bool) : Prop := ∃ sf, FvC P fv sf ∧ ∀ x ∈ l, sf [.agg (enc x)] fun rs => rs = [.d (.bool (p x))]
theorem FvC.up' {P : Program} {fv : D} {s : Spec} (h : FvC P fv s) : FvC P fv s.up := by
 unfold FvC at h ⊢
 split at h
 · obtain ⟨h0, s', hs', hc⟩ := h
   refine ⟨h0, s'.up, hs'.up, ?_⟩
   rintro as_ K ⟨K0, h3, h4⟩
   obtain ⟨g1, g2⟩ := hc _ _ h3
   exact ⟨⟨K0, g1, h4⟩, g2⟩
 · exact h
theorem indexMov_ok : Contract Tryz.prog 181 fun args K => ∃ (l : List Mov) (p : Mov → Bool) (f : FuncId) (caps : List D), (∀ m ∈ l, m.Ok) ∧ args = [.slice (l.map Mov.enc), .clo f caps] ∧ SaysOf Tryz.prog (.clo f caps) Mov.enc l p ∧ K [.d (.int .i64 (idxGo p 0 l))] := by
 refine .of c181 t181_ok ?_
 rintro _ K ⟨l, p, f, caps, hl, rfl, ⟨sf, hf, hs⟩, hK⟩ hsm
 refine ⟨[.slice (l.map Mov.enc), .clo f caps], rfl, by simp only [pkKinds, PK.kinds, List.map_cons, List.map_nil, List.flatten_cons, List.flatten_nil, List.append_nil]; exact ⟨slice_has fun m hm => Mov.has (hl m hm), trivial, trivial⟩, ?_⟩
 simp only [zz, reduceCtorEq, t181, List.length_map]
 intro hcap
 refine loop_go l (fun i l' (_ : Unit) => idxGo p i l') (fun i _ => [.int .i64 i]) () _ rfl 0 (fun _ _ => rfl) rfl ?_ ?_
 · intro i hi _ hgo
   simp only [idxGo] at hgo
   simp only [zz, reduceCtorEq, hi, List.length_map]
   refine ⟨by omega, denR_fcall (FvC.up' (s := sf) (fv := .clo f caps) hf) ⟨fun rs => rs = [.d (.bool (p l[i]))], ?_, fun rs h => ⟨[.bool (p l[i])], by rw [h]; rfl, by simp [RK.all, RK.kinds, HasKs, HasK], ?_⟩⟩⟩
   · simp only [zz, reduceCtorEq, getD_map hi, Mov.enc]
     exact hs l[i] (List.getElem_mem hi)
   · simp only [zz, reduceCtorEq]
     grind [wr64_eq]
 · intro _ hgo
   simp only [idxGo] at hgo
   simp only [zz, reduceCtorEq, List.length_map]
   rw [← hgo] at hK; exact hK
theorem containsMov_ok : Contract Tryz.prog 202 fun args K => ∃ (l : List Mov) (p : Mov → Bool) (f : FuncId) (caps : List D), (∀ m ∈ l, m.Ok) ∧ args = [.slice (l.map Mov.enc), .clo f caps] ∧ SaysOf Tryz.prog (.clo f caps) Mov.enc l p ∧ K [.d (.bool (l.any p))] := by
 refine .of c202 t202_ok ?_
 rintro _ K ⟨l, p, f, caps, hl, rfl, hs, hK⟩ hsm
 refine ⟨[.slice (l.map Mov.enc), .clo f caps], rfl, by simp only [pkKinds, PK.kinds, List.map_cons, List.map_nil, List.flatten_cons, List.flatten_nil, List.append_nil]; exact ⟨slice_has fun m hm => Mov.has (hl m hm), trivial, trivial⟩, ?_⟩
 refine denR_call indexMov_ok ⟨l, p, f, caps, hl, rfl, hs, _, rfl, ?_⟩
 have key : ∀ (xs : List Mov) (i : Nat), decide (0 ≤ idxGo p i xs) = xs.any p := by
   intro xs
   induction xs with
   | nil => intro i; simp [idxGo]
   | cons x xs ih =>
     intro i
     simp only [idxGo, List.any_cons]
     by_cases hx : p x = true
     · simp [hx]
     · simp only [hx, if_false, Bool.false_or]; simpa [hx] using ih (i + 1)
 simp only [zz, reduceCtorEq]
 rw [key]
 exact hK
theorem partOver_ok : Contract Tryz.prog 203 fun args K => ∃ (m : Mov) (c : Cue), m.Ok ∧ c.Ok ∧ args = [.agg m.enc, .ptr c.enc] ∧ K [.d (.bool (decide ((c.parts.length : Int) < m.part)))] := by
 refine .of c203 t203_ok ?_
 rintro _ K ⟨m, c, hm, hc, rfl, hK⟩ hsm
 refine ⟨m.enc ++ [.ptr c.enc], rfl, by simpa [pkKinds, PK.kinds] using (Mov.has hm).append (show HasKs [.ptr cueKs] [.ptr c.enc] from ⟨Cue.has hc, trivial⟩), ?_⟩
 simp only [zz, reduceCtorEq, t203, Mov.enc, Cue.enc, List.length_map]
 exact fun _ => hK
noncomputable def t164 : R := let x0 : T := .sel (.lcons (.idx (.var 3) (.var 9) 0 (.int .i64)) (.lcons (.idx (.var 3) (.var 9) 1 (.int .i64)) (.lcons (.idx (.var 3) (.var 9) 2 (.int .i64)) (.lcons (.idx (.var 3) (.var 9) 3 (.int .i64)) (.lcons (.idx (.var 3) (.var 9) 4 (.int .i64)) (.lcons (.idx (.var 3) (.var 9) 5 (.int .i64)) .lnil)))))) (.var 10) (.int .i64); let x1 : T := .o1 .len (.var 3); .fact (.o2 .le x1 (.int .i64 140737488355328)) (.ite (.o2 .eq x1 (.int .i64 0)) (.ret [.d (.int .i64 12)]) (.ite (.o2 .gt x1 (.int .i64 4)) (.ret [.d (.int .i64 5)]) (.loop 0 [.int .i64 0] [.int .i64] (.ite (.o2 .lt (.var 9) x1) (.need (.o2 .le (.int .i64 0) (.var 9)) (.loop 1 [.int .i64 0] [.int .i64] (.ite (.o2 .lt (.var 10) (.int .i64 6)) (.need (.o2 .le (.int .i64 0) (.var 10)) (.ite (.ite (.o2 .lt x0 (.int .i64 0)) (.bool true) (.o2 .gt x0 (.int .i64 10000000))) (.ret [.d (.int .i64 2)]) (.again 1 [.o2 (.add .i64) (.var 10) (.int .i64 1)]))) (.again 0 [.o2 (.add .i64) (.var 9) (.int .i64 1)])))) (.call none (.fn 202) [.var 2, .clo 203 (.lcons (.ptr (.lcons (.var 0) (.lcons (.var 1) (.lcons (.var 2) (.lcons (.var 3) (.lcons (.var 4) (.lcons (.var 5) (.lcons (.var 6) (.lcons (.var 7) (.lcons (.var 8) .lnil)))))))))) .lnil)] [.cell .bool] (.ite (.var 10) (.ret [.d (.int .i64 6)]) (.ret [.d (.int .i64 0)])))))))
theorem t164_ok : fnO Tryz.prog mdA 164 [.agg [.str, .str, .slice [.int .i64, .int .i64, .int .i64, .int .i64, .int .i64], .slice [.int .i64, .int .i64, .int .i64, .int .i64, .int .i64, .int .i64], .bool, .bool, .int .i64, .str, .int .i64]] = t164 := by kernel_rfl
theorem c164 : callable Tryz.prog 164 = true := by kernel_rfl
noncomputable def t159 : R := .call none (.fn 104) [.var 0] [.cell (.int .i64)] (.ret [.d (.var 9)])
theorem t159_ok : fnO Tryz.prog mdA 159 [.agg [.str, .str, .slice [.int .i64, .int .i64, .int .i64, .int .i64, .int .i64], .slice [.int .i64, .int .i64, .int .i64, .int .i64, .int .i64, .int .i64], .bool, .bool, .int .i64, .str, .int .i64]] = t159 := by kernel_rfl
theorem c159 : callable Tryz.prog 159 = true := by kernel_rfl
noncomputable def t160 : R := .call none (.fn 161) [.var 1] [.cell (.int .i64)] (.ret [.d (.var 9)])
theorem t160_ok : fnO Tryz.prog mdA 160 [.agg [.str, .str, .slice [.int .i64, .int .i64, .int .i64, .int .i64, .int .i64], .slice [.int .i64, .int .i64, .int .i64, .int .i64, .int .i64, .int .i64], .bool, .bool, .int .i64, .str, .int .i64]] = t160 := by kernel_rfl
theorem c160 : callable Tryz.prog 160 = true := by kernel_rfl
noncomputable def t162 : R := .call none (.fn 163) [.var 2] [.cell (.int .i64)] (.ret [.d (.var 9)])
theorem t162_ok : fnO Tryz.prog mdA 162 [.agg [.str, .str, .slice [.int .i64, .int .i64, .int .i64, .int .i64, .int .i64], .slice [.int .i64, .int .i64, .int .i64, .int .i64, .int .i64, .int .i64], .bool, .bool, .int .i64, .str, .int .i64]] = t162 := by kernel_rfl
theorem c162 : callable Tryz.prog 162 = true := by kernel_rfl
noncomputable def t109 : R := let x0 : T := .push (.push (.push (.push (.push .nils (.lcons (.fn 159) .lnil)) (.lcons (.fn 160) .lnil)) (.lcons (.fn 162) .lnil)) (.lcons (.fn 164) .lnil)) (.lcons (.fn 165) .lnil); .fact (.o2 .le (.o1 .len x0) (.int .i64 140737488355328)) (.loop 0 [.int .i64 0] [.int .i64] (.ite (.o2 .lt (.var 9) (.o1 .len x0)) (.need (.o2 .le (.int .i64 0) (.var 9)) (.call none (.val (.idx x0 (.var 9) 0 .fn)) [.lcons (.var 0) (.lcons (.var 1) (.lcons (.var 2) (.lcons (.var 3) (.lcons (.var 4) (.lcons (.var 5) (.lcons (.var 6) (.lcons (.var 7) (.lcons (.var 8) .lnil))))))))] [.cell (.int .i64)] (.ite (.o2 .ne (.var 10) (.int .i64 0)) (.ret [.d (.var 10)]) (.again 0 [.o2 (.add .i64) (.var 9) (.int .i64 1)])))) (.ret [.d (.int .i64 0)])))
theorem t109_ok : fnO Tryz.prog mdA 109 [.agg [.str, .str, .slice [.int .i64, .int .i64, .int .i64, .int .i64, .int .i64], .slice [.int .i64, .int .i64, .int .i64, .int .i64, .int .i64, .int .i64], .bool, .bool, .int .i64, .str, .int .i64]] = t109 := by kernel_rfl
theorem c109 : callable Tryz.prog 109 = true := by kernel_rfl
def Tim.all (t : Tim) : List Int := [t.up, t.down, t.pos, t.col, t.beam, t.delay]
def timesGo : List Int → Bool
 | [] => true
 | x :: xs => if isTime x then timesGo xs else false
theorem timesGo_ok (t : Tim) : timesGo t.all = timOk t := by
 simp only [Tim.all, timesGo, timOk]
 cases isTime t.up <;> cases isTime t.down <;> cases isTime t.pos <;> cases isTime t.col <;> cases isTime t.beam <;> cases isTime t.delay <;> rfl
def partsC (c : Cue) : Int := if parts16 c.parts ≠ 0 then parts16 c.parts else if c.moves.any (fun m => decide ((c.parts.length : Int) < m.part)) then 6 else 0
theorem cparts_ok : Contract Tryz.prog 164 fun args K => ∃ c : Cue, c.Ok ∧ args = [.agg c.enc] ∧ K [.d (.int .i64 (partsC c))] := by
 refine .of c164 t164_ok ?_
 rintro _ K ⟨c, hc, rfl, hK⟩ hsm
 refine ⟨c.enc, rfl, by simpa [pkKinds, PK.kinds] using Cue.has hc, ?_⟩
 have hK' : ∀ v, partsC c = v → K [.d (.int .i64 v)] := by rintro _ rfl; exact hK
 clear hK
 have hK2 : ∀ n v : Int, parts16 c.parts = n → (if n ≠ 0 then n else if c.moves.any (fun m => decide ((c.parts.length : Int) < m.part)) then 6 else 0) = v → K [.d (.int .i64 v)] := by rintro _ _ rfl rfl; exact hK' _ rfl
 clear hK'
 simp only [zz, reduceCtorEq, t164, Cue.enc, List.length_map]
 refine fun hcap => ⟨fun h => hK2 12 _ (by unfold parts16; rw [if_pos (by omega)]) rfl, fun h => ⟨fun h' => hK2 5 _ (by unfold parts16; rw [if_neg (by omega), if_pos (by omega)]) rfl, fun h' => ?_⟩⟩
 have hp : parts16 c.parts = partsGo c.parts := by unfold parts16; rw [if_neg (by omega), if_neg (by omega)]
 rw [hp] at hK2
 refine loop_go c.parts (fun i l' (_ : Unit) => partsGo l') (fun i _ => [.int .i64 i]) () _ rfl 0 (fun _ _ => rfl) rfl ?_ ?_
 · intro i hi _ hgo
   simp only [partsGo] at hgo
   rw [← timesGo_ok] at hgo
   simp only [zz, reduceCtorEq, hi, List.length_map]
   refine ⟨by omega, ?_⟩
   refine loop_go (c.parts[i]).all (fun _ l (_ : Unit) => timesGo l) (fun i _ => [.int .i64 i]) () _ rfl 0 (fun _ _ => rfl) rfl ?_ ?_
   · intro j hj _ hg
     have hj6 : j < 6 := hj
     have e : ∀ k : Go.Sx.K, ([D.int .i64 (c.parts[i]).up, .int .i64 (c.parts[i]).down, .int .i64 (c.parts[i]).pos, .int .i64 (c.parts[i]).col, .int .i64 (c.parts[i]).beam, .int .i64 (c.parts[i]).delay]).getD j k.zero = .int .i64 (c.parts[i]).all[j] := by
       intro k
       match j, hj6 with
       | 0, _ => rfl
       | 1, _ => rfl
       | 2, _ => rfl
       | 3, _ => rfl
       | 4, _ => rfl
       | 5, _ => rfl
     simp only [timesGo] at hg
     simp only [zz, reduceCtorEq, D.cellAt, getD_map hi, Tim.enc, e]
     generalize (c.parts[i]).all[j] = x at hg ⊢
     refine ⟨fun _ => ⟨by omega, fun hx => ?_, fun hx => ⟨(), by rw [wr64_eq] <;> omega, ?_⟩⟩, fun hn => absurd hj6 (by omega)⟩
     · have hx' : ¬ isTime x = true := by simp [isTime]; omega
       rw [if_neg hx'] at hg
       rw [← hg] at hgo
       simp at hgo
       exact hK2 2 _ hgo.symm rfl
     · have hx' : isTime x = true := by simp [isTime]; omega
       rw [if_pos hx'] at hg
       exact hg
   · intro _ hg
     simp only [timesGo] at hg
     rw [← hg] at hgo
     have h6 : (c.parts[i]).all.length = 6 := rfl
     simp only [zz, reduceCtorEq, h6, setAg_ne _ _ (show (0 : Nat) ≠ 1 by decide)]
     refine ⟨fun h => absurd h (by simp), fun _ => ⟨(), by rw [wr64_eq] <;> omega, by simpa using hgo⟩⟩
 · intro _ hgo
   simp only [partsGo] at hgo
   simp only [zz, reduceCtorEq, List.length_map]
   have hs : SaysOf Tryz.prog (.clo 203 [.ptr c.enc]) Mov.enc c.moves (fun m => decide ((c.parts.length : Int) < m.part)) := by
     refine ⟨fun as_ K => ∃ m : Mov, m.Ok ∧ as_ = [.agg m.enc] ∧ K [.d (.bool (decide ((c.parts.length : Int) < m.part)))], FvC.of c203 partOver_ok ?_, fun m hm => ⟨m, hc.moves m hm, rfl, rfl⟩⟩
     rintro _ K ⟨m, hm, rfl, hK⟩
     refine ⟨⟨m, c, hm, hc, rfl, hK⟩, argsTyped_of [some (.agg mvKs)] (by kernel_rfl) ?_⟩
     intro i rk d h1 h2
     cases i with
     | zero => simp at h1 h2; subst h1 h2; exact Mov.has hm
     | succ i => simp at h1
   refine denR_call containsMov_ok ⟨c.moves, _, 203, [.ptr c.enc], hc.moves, rfl, hs, _, rfl, ?_⟩
   simp only [zz, reduceCtorEq]
   refine ⟨fun h => hK2 0 _ hgo.symm (by simp [h]), fun h => hK2 0 _ hgo.symm (by simp [h])⟩
abbrev OfCue (f : FuncId) (e : Cue → Int) : Prop := Contract Tryz.prog f fun args K => ∃ c : Cue, c.Ok ∧ args = [.agg c.enc] ∧ K [.d (.int .i64 (e c))]
theorem chk1_ok : OfCue 159 fun c => check05 c.num := by
 refine .of c159 t159_ok ?_
 rintro _ K ⟨c, hc, rfl, hK⟩ hsm
 refine ⟨c.enc, rfl, by simpa [pkKinds, PK.kinds] using Cue.has hc, ?_⟩
 refine denR_call nCheck_ok ⟨c.num, rfl, _, rfl, ?_⟩
 simp only [zz, reduceCtorEq, Cue.enc]
 exact hK
theorem chk2_ok : OfCue 160 fun c => label16 c.label := by
 refine .of c160 t160_ok ?_
 rintro _ K ⟨c, hc, rfl, hK⟩ hsm
 refine ⟨c.enc, rfl, by simpa [pkKinds, PK.kinds] using Cue.has hc, ?_⟩
 refine denR_call clabel_ok ⟨c.label, rfl, _, rfl, ?_⟩
 simp only [zz, reduceCtorEq, Cue.enc]
 exact hK
theorem chk3_ok : OfCue 162 fun c => moves16 c.moves := by
 refine .of c162 t162_ok ?_
 rintro _ K ⟨c, hc, rfl, hK⟩ hsm
 refine ⟨c.enc, rfl, by simpa [pkKinds, PK.kinds] using Cue.has hc, ?_⟩
 refine denR_call cmoves_ok ⟨c.moves, hc.moves, rfl, _, rfl, ?_⟩
 simp only [zz, reduceCtorEq, Cue.enc]
 exact hK
theorem ofCue_fv {f : FuncId} {e : Cue → Int} (h : OfCue f e) (hp : (Tryz.prog.funcs[f]?).map (fun fn => fn.params.toList.map (rkOf Tryz.prog)) = some [some (.agg cueKs)]) {c : Cue} (hc : c.Ok) :
   FvC Tryz.prog (.clo f []) fun as_ K => as_ = [.agg c.enc] ∧ K [.d (.int .i64 (e c))] := by
 refine ⟨h.1, _, h, ?_⟩
 rintro _ K ⟨rfl, hK⟩
 refine ⟨⟨c, hc, by simp, hK⟩, argsTyped_of _ hp ?_⟩
 intro i rk d h1 h2
 cases i with
 | zero => simp at h1 h2; subst h1 h2; exact Cue.has hc
 | succ i => simp at h1
def firstE : List Int → Int
 | [] => 0
 | e :: es => if e ≠ 0 then e else firstE es
def checkC (c : Cue) : Int := firstE [check05 c.num, label16 c.label, moves16 c.moves, partsC c, next16 c]
theorem partIn_any (n : Nat) : ∀ l : List Mov, partIn n l = !l.any (fun m => decide ((n : Int) < m.part))
 | [] => rfl
 | m :: ms => by
   simp only [partIn, List.any_cons, partIn_any n ms]
   by_cases h : (n : Int) < m.part <;> simp [h]
theorem checkC_eq (c : Cue) : checkC c = check16 c := by
 simp only [checkC, firstE, check16, partsC, partIn_any]
 by_cases h1 : check05 c.num = 0 <;> by_cases h2 : label16 c.label = 0 <;> by_cases h3 : moves16 c.moves = 0 <;> by_cases h4 : parts16 c.parts = 0 <;> simp [h1, h2, h3, h4]
 by_cases hn : next16 c = 0
 · rw [hn]; simp
 · simp only [hn, if_false]; split <;> rfl
theorem i64_small {n : Int} (h : 0 ≤ n ∧ n ≤ 100) : I64 n := ⟨by omega, by omega⟩
theorem check05_small (s : List UInt8) : 0 ≤ check05 s ∧ check05 s ≤ 100 := by unfold check05; (repeat' split) <;> simp
theorem param15_small (p : Par) : 0 ≤ param15 p ∧ param15 p ≤ 100 := by unfold param15; split <;> simp
theorem value15_small (p : Val) : 0 ≤ value15 p ∧ value15 p ≤ 100 := by unfold value15; split <;> simp
theorem labelGo_small : ∀ s, 0 ≤ labelGo s ∧ labelGo s ≤ 100
 | [] => by simp [labelGo]
 | c :: cs => by
   have := labelGo_small cs
   simp only [labelGo]
   split <;> omega
theorem label16_small (s : List UInt8) : 0 ≤ label16 s ∧ label16 s ≤ 100 := by
 have := labelGo_small s
 unfold label16
 split <;> omega
theorem movesGo_small (xs : List Mov) : ∀ (l : List Mov) (i : Nat), 0 ≤ movesGo xs i l ∧ movesGo xs i l ≤ 100
 | [], _ => by simp [movesGo]
 | m :: ms, i => by
   have h1 := movesGo_small xs ms (i + 1)
   have h2 := param15_small m.pa
   have h3 := value15_small m.va
   simp only [movesGo]
   (repeat' split) <;> omega
theorem moves16_small (l : List Mov) : 0 ≤ moves16 l ∧ moves16 l ≤ 100 := by
 have := movesGo_small l l 0
 unfold moves16
 split <;> omega
theorem partsGo_small : ∀ l, 0 ≤ partsGo l ∧ partsGo l ≤ 100
 | [] => by simp [partsGo]
 | c :: cs => by
   have := partsGo_small cs
   simp only [partsGo]
   split <;> omega
theorem partsC_small (c : Cue) : 0 ≤ partsC c ∧ partsC c ≤ 100 := by
 have := partsGo_small c.parts
 unfold partsC parts16
 (repeat' split) <;> omega
theorem next16_small (c : Cue) : 0 ≤ next16 c ∧ next16 c ≤ 100 := by
 have := check05_small c.link
 unfold next16
 (repeat' split) <;> omega
theorem ccheck_ok : OfCue 109 check16 := by
 refine .of c109 t109_ok ?_
 rintro _ K ⟨c, hc, rfl, hK⟩ hsm
 refine ⟨c.enc, rfl, by simpa [pkKinds, PK.kinds] using Cue.has hc, ?_⟩
 rw [← checkC_eq] at hK
 have f1 := ofCue_fv chk1_ok (by kernel_rfl) hc
 have f2 := ofCue_fv chk2_ok (by kernel_rfl) hc
 have f3 := ofCue_fv chk3_ok (by kernel_rfl) hc
 have f4 := ofCue_fv cparts_ok (by kernel_rfl) hc
 have f5 := ofCue_fv cnext_ok (by kernel_rfl) hc
 simp only [checkC] at hK
 simp only [zz, reduceCtorEq, t109, Cue.enc]
 intro _
 refine loop_go [check05 c.num, label16 c.label, moves16 c.moves, partsC c, next16 c] (fun _ l (_ : Unit) => firstE l) (fun i _ => [.int .i64 i]) () _ rfl 0 (fun _ _ => rfl) rfl ?_ ?_
 · intro i hi _ hgo
   simp only [zz, reduceCtorEq]
   simp only [List.length_cons, List.length_nil] at hi ⊢
   have hI : ∀ {n : Int}, (0 ≤ n ∧ n ≤ 100) → HasKs (RK.all [.cell (.int .i64)]) [.int .i64 n] := fun h => ⟨i64_has (i64_small h), trivial⟩
   match i, hi with
   | 0, _ =>
     refine ⟨fun _ => ⟨by simp, denR_fcall f1 ⟨rfl, _, rfl, hI (check05_small _), ?_⟩⟩, fun h => by simp at h⟩
     simp only [zz, reduceCtorEq]
     simp only [List.getElem_cons_zero, Nat.zero_add, List.drop_succ_cons, List.drop_zero, firstE] at hgo hK ⊢
     grind [wr64_eq]
   | 1, _ =>
     refine ⟨fun _ => ⟨by simp, denR_fcall f2 ⟨rfl, _, rfl, hI (label16_small _), ?_⟩⟩, fun h => by simp at h⟩
     simp only [zz, reduceCtorEq]
     simp only [List.getElem_cons_succ, List.getElem_cons_zero, Nat.zero_add, List.drop_succ_cons, List.drop_zero, List.drop_nil, firstE] at hgo hK ⊢
     grind [wr64_eq]
   | 2, _ =>
     refine ⟨fun _ => ⟨by simp, denR_fcall f3 ⟨rfl, _, rfl, hI (moves16_small _), ?_⟩⟩, fun h => by simp at h⟩
     simp only [zz, reduceCtorEq]
     simp only [List.getElem_cons_succ, List.getElem_cons_zero, Nat.zero_add, List.drop_succ_cons, List.drop_zero, List.drop_nil, firstE] at hgo hK ⊢
     grind [wr64_eq]
   | 3, _ =>
     refine ⟨fun _ => ⟨by simp, denR_fcall f4 ⟨rfl, _, rfl, hI (partsC_small _), ?_⟩⟩, fun h => by simp at h⟩
     simp only [zz, reduceCtorEq]
     simp only [List.getElem_cons_succ, List.getElem_cons_zero, Nat.zero_add, List.drop_succ_cons, List.drop_zero, List.drop_nil, firstE] at hgo hK ⊢
     grind [wr64_eq]
   | 4, _ =>
     refine ⟨fun _ => ⟨by simp, denR_fcall f5 ⟨rfl, _, rfl, hI (next16_small _), ?_⟩⟩, fun h => by simp at h⟩
     simp only [zz, reduceCtorEq]
     simp only [List.getElem_cons_succ, List.getElem_cons_zero, Nat.zero_add, List.drop_succ_cons, List.drop_zero, List.drop_nil, firstE] at hgo hK ⊢
     grind [wr64_eq]
 · intro _ hgo
   simp only [zz, reduceCtorEq]
   simp only [List.length_cons, List.length_nil, firstE] at hgo hK ⊢
   refine ⟨fun h => by simp at h, fun _ => ?_⟩
   rw [← hgo] at hK
   exact hK
noncomputable def t67 : R := let x0 : T := .o2 .gt (.var 3) (.int .i64 0); let x1 : T := .o2 (.sub .i64) (.var 3) (.int .i64 1); let x2 : T := .o1 .len (.var 2); .ite (.ite (.ite (.ite (.o2 .lt (.var 0) (.int .i64 1)) (.bool true) (.o2 .gt (.var 0) (.int .i64 1048576))) (.bool true) (.o2 .lt (.var 1) (.int .i64 0))) (.bool true) (.o2 .gt (.var 1) (.int .i64 9))) (.ret [.d (.int .i64 2)]) (.fact (.o2 .le x2 (.int .i64 140737488355328)) (.ite (.o2 .gt x2 (.int .i64 64)) (.ret [.d (.int .i64 5)]) (.loop 0 [.int .i64 0] [.int .i64] (.ite (.o2 .lt (.var 3) x2) (.need (.o2 .le (.int .i64 0) (.var 3)) (.call none (.fn 115) [.lcons (.idx (.var 2) (.var 3) 0 .str) (.lcons (.idx (.var 2) (.var 3) 1 .str) (.lcons (.idx (.var 2) (.var 3) 2 (.slice [.int .i64, .int .i64, .int .i64, .int .i64, .int .i64])) (.lcons (.idx (.var 2) (.var 3) 3 (.slice [.int .i64, .int .i64, .int .i64, .int .i64, .int .i64, .int .i64])) (.lcons (.idx (.var 2) (.var 3) 4 .bool) (.lcons (.idx (.var 2) (.var 3) 5 .bool) (.lcons (.idx (.var 2) (.var 3) 6 (.int .i64)) (.lcons (.idx (.var 2) (.var 3) 7 .str) (.lcons (.idx (.var 2) (.var 3) 8 (.int .i64)) .lnil))))))))] [.cell (.int .i64)] (.ite (.o2 .ne (.var 4) (.int .i64 0)) (.ret [.d (.var 4)]) (.need (.ite x0 (.o2 .le (.int .i64 0) x1) (.bool true)) (.need (.ite x0 (.o2 .lt x1 x2) (.bool true)) (.call (some x0) (.fn 108) [.idx (.var 2) x1 0 .str, .idx (.var 2) (.var 3) 0 .str] [.cell (.int .i64)] (.ite (.ite x0 (.o2 .ge (.var 5) (.int .i64 0)) (.bool false)) (.ret [.d (.int .i64 9)]) (.again 0 [.o2 (.add .i64) (.var 3) (.int .i64 1)])))))))) (.ret [.d (.int .i64 0)])))))
theorem t67_ok : fnO Tryz.prog mdA 67 [.agg [.int .i64, .int .i64, .slice [.str, .str, .slice [.int .i64, .int .i64, .int .i64, .int .i64, .int .i64], .slice [.int .i64, .int .i64, .int .i64, .int .i64, .int .i64, .int .i64], .bool, .bool, .int .i64, .str, .int .i64]]] = t67 := by kernel_rfl
theorem c67 : callable Tryz.prog 67 = true := by kernel_rfl
noncomputable def t178 : R := let x0 : T := .o2 .gt (.var 3) (.int .i64 0); let x1 : T := .o2 (.sub .i64) (.var 3) (.int .i64 1); let x2 : T := .o1 .len (.var 2); .ite (.ite (.ite (.ite (.o2 .lt (.var 0) (.int .i64 1)) (.bool true) (.o2 .gt (.var 0) (.int .i64 1048576))) (.bool true) (.o2 .lt (.var 1) (.int .i64 0))) (.bool true) (.o2 .gt (.var 1) (.int .i64 9))) (.ret [.d (.int .i64 2)]) (.fact (.o2 .le x2 (.int .i64 140737488355328)) (.ite (.o2 .gt x2 (.int .i64 64)) (.ret [.d (.int .i64 5)]) (.loop 0 [.int .i64 0] [.int .i64] (.ite (.o2 .lt (.var 3) x2) (.need (.o2 .le (.int .i64 0) (.var 3)) (.call none (.fn 109) [.lcons (.idx (.var 2) (.var 3) 0 .str) (.lcons (.idx (.var 2) (.var 3) 1 .str) (.lcons (.idx (.var 2) (.var 3) 2 (.slice [.int .i64, .int .i64, .int .i64, .int .i64, .int .i64])) (.lcons (.idx (.var 2) (.var 3) 3 (.slice [.int .i64, .int .i64, .int .i64, .int .i64, .int .i64, .int .i64])) (.lcons (.idx (.var 2) (.var 3) 4 .bool) (.lcons (.idx (.var 2) (.var 3) 5 .bool) (.lcons (.idx (.var 2) (.var 3) 6 (.int .i64)) (.lcons (.idx (.var 2) (.var 3) 7 .str) (.lcons (.idx (.var 2) (.var 3) 8 (.int .i64)) .lnil))))))))] [.cell (.int .i64)] (.ite (.o2 .ne (.var 4) (.int .i64 0)) (.ret [.d (.var 4)]) (.need (.ite x0 (.o2 .le (.int .i64 0) x1) (.bool true)) (.need (.ite x0 (.o2 .lt x1 x2) (.bool true)) (.call (some x0) (.fn 207) [.idx (.var 2) x1 0 .str, .idx (.var 2) (.var 3) 0 .str] [.cell (.int .i64)] (.ite (.ite x0 (.o2 .ge (.var 5) (.int .i64 0)) (.bool false)) (.ret [.d (.int .i64 9)]) (.again 0 [.o2 (.add .i64) (.var 3) (.int .i64 1)])))))))) (.ret [.d (.int .i64 0)])))))
theorem t178_ok : fnO Tryz.prog mdA 178 [.agg [.int .i64, .int .i64, .slice [.str, .str, .slice [.int .i64, .int .i64, .int .i64, .int .i64, .int .i64], .slice [.int .i64, .int .i64, .int .i64, .int .i64, .int .i64, .int .i64], .bool, .bool, .int .i64, .str, .int .i64]]] = t178 := by kernel_rfl
theorem c178 : callable Tryz.prog 178 = true := by kernel_rfl
noncomputable def t50 : R := .loop 0 [.int .i64 0] [.int .i64] (.fact (.o2 .le (.o1 .len (.var 2)) (.int .i64 140737488355328)) (.ite (.o2 .lt (.var 4) (.o1 .len (.var 2))) (.need (.o2 .le (.int .i64 0) (.var 4)) (.ite (.o2 .eq (.idx (.var 2) (.var 4) 0 .str) (.var 3)) (.ret [.d (.var 4)]) (.again 0 [.o2 (.add .i64) (.var 4) (.int .i64 1)]))) (.ret [.d (.int .i64 (-1))])))
theorem t50_ok : fnO Tryz.prog mdA 50 [.agg [.int .i64, .int .i64, .slice [.str, .str, .slice [.int .i64, .int .i64, .int .i64, .int .i64, .int .i64], .slice [.int .i64, .int .i64, .int .i64, .int .i64, .int .i64, .int .i64], .bool, .bool, .int .i64, .str, .int .i64]], .cell .str] = t50 := by kernel_rfl
theorem c50 : callable Tryz.prog 50 = true := by kernel_rfl
noncomputable def t182 : R := .call none (.fn 178) [.lcons (.var 0) (.lcons (.var 1) (.lcons (.var 2) .lnil))] [.cell (.int .i64)] (.ite (.o2 .ne (.var 4) (.int .i64 0)) (.ret [.d (.var 4)]) (.fact (.o2 .le (.o1 .len (.var 3)) (.int .i64 140737488355328)) (.loop 0 [.int .i64 0] [.int .i64] (.ite (.o2 .lt (.var 5) (.o1 .len (.var 3))) (.need (.o2 .le (.int .i64 0) (.var 5)) (.call none (.fn 104) [.idx (.var 3) (.var 5) 0 .str] [.cell (.int .i64)] (.ite (.o2 .ne (.var 6) (.int .i64 0)) (.ret [.d (.var 6)]) (.again 0 [.o2 (.add .i64) (.var 5) (.int .i64 1)])))) (.ret [.d (.int .i64 0)])))))
theorem t182_ok : fnO Tryz.prog mdA 182 [.agg [.int .i64, .int .i64, .slice [.str, .str, .slice [.int .i64, .int .i64, .int .i64, .int .i64, .int .i64], .slice [.int .i64, .int .i64, .int .i64, .int .i64, .int .i64, .int .i64], .bool, .bool, .int .i64, .str, .int .i64]], .cell (.slice [.str])] = t182 := by kernel_rfl
theorem c182 : callable Tryz.prog 182 = true := by kernel_rfl
instance : Inhabited Cue := ⟨⟨[], [], [], [], false, false, 0, [], 0⟩⟩
def cuesGo (ord : List UInt8 → List UInt8 → Int) (xs : List Cue) : Nat → List Cue → Int
 | _, [] => 0
 | i, c :: cs => if check16 c ≠ 0 then check16 c else if 0 < i ∧ 0 ≤ ord (xs[i - 1]!).num c.num then 9 else cuesGo ord xs (i + 1) cs
def checkL (ord : List UInt8 → List UInt8 → Int) (l : Lis) : Int :=
 if l.num < 1 ∨ 1048576 < l.num ∨ l.prio < 0 ∨ 9 < l.prio then 2 else if 64 < l.cues.length then 5 else cuesGo ord l.cues 0 l.cues
theorem check17_ok : Contract Tryz.prog 67 fun args K => ∃ l : Lis, l.Ok ∧ args = [.agg l.enc] ∧ K [.d (.int .i64 (checkL order05 l))] := by
 refine .of c67 t67_ok ?_
 rintro _ K ⟨l, hl, rfl, hK⟩ hsm
 refine ⟨l.enc, rfl, by simpa [pkKinds, PK.kinds] using Lis.has hl, ?_⟩
 simp only [checkL] at hK
 simp only [zz, reduceCtorEq, t67, Lis.enc, List.length_map]
 refine ⟨fun h => by rw [if_pos (by omega)] at hK; exact hK, fun h0 hcap => ⟨fun h => by rw [if_neg (by omega), if_pos (by omega)] at hK; exact hK, fun h => ?_⟩⟩
 rw [if_neg (by omega), if_neg (by omega)] at hK
 refine loop_go l.cues (fun i l' (_ : Unit) => cuesGo order05 l.cues i l') (fun i _ => [.int .i64 i]) () _ rfl 0 (fun _ _ => rfl) rfl ?_ ?_
 · intro i hi _ hgo
   simp only [cuesGo] at hgo
   have hc := hl.cues l.cues[i] (List.getElem_mem hi)
   have hw : 0 < i → wr64 (↑i - 1) = ((i - 1 : Nat) : Int) := fun h => by rw [wr64_eq] <;> omega
   simp only [zz, reduceCtorEq, hi, List.length_map]
   refine ⟨by omega, denR_call check16_ok ⟨l.cues[i], hc, by simp only [zz, reduceCtorEq, getD_map hi, Cue.enc], _, rfl, ?_⟩⟩
   simp only [zz, reduceCtorEq, List.length_map]
   by_cases h1 : check16 l.cues[i] = 0
   · simp only [h1, ne_eq, not_true_eq_false, if_false] at hgo ⊢
     refine ⟨fun h => by simp at h, fun _ => ⟨?_, ?_, ?_⟩⟩
     · split
       · rename_i h0; rw [hw h0]; simp
       · rfl
     · split
       · rename_i h0; rw [hw h0]; simp; omega
       · rfl
     · have hp : ∀ h : 0 < i, l.cues[i - 1]! = l.cues[i - 1]'(by omega) := fun h => getElem!_pos l.cues (i - 1) (by omega)
       refine denR_gcall order05_ok (decide (0 < i)) [.int .i64 (if 0 < i then order05 (l.cues[i - 1]!).num (l.cues[i]).num else 0)] ?_ (fun h => ⟨(l.cues[i - 1]!).num, (l.cues[i]).num, ?_, ?_⟩) (fun h => ?_) ?_
       · simp only [zz, reduceCtorEq]
       · have h : 0 < i := by simpa using h
         rw [hp h]
         simp only [zz, reduceCtorEq, hw h, getD_map hi, getD_map (show i - 1 < l.cues.length by omega), Cue.enc]
       · have h : 0 < i := by simpa using h
         rw [if_pos h]; rfl
       · have h : ¬ 0 < i := by simpa using h
         rw [if_neg h]; rfl
       · simp only [zz, reduceCtorEq]
         grind [wr64_eq]
   · simp only [h1, ne_eq, not_false_eq_true, if_true] at hgo ⊢
     rw [← hgo] at hK
     exact ⟨fun _ => hK, fun h => by simp [h1] at h⟩
 · intro _ hgo
   simp only [cuesGo] at hgo
   simp only [zz, reduceCtorEq, List.length_map]
   rw [← hgo] at hK; exact hK
theorem clCheck_ok : Contract Tryz.prog 178 fun args K => ∃ l : Lis, l.Ok ∧ args = [.agg l.enc] ∧ K [.d (.int .i64 (checkL comp l))] := by
 refine .of c178 t178_ok ?_
 rintro _ K ⟨l, hl, rfl, hK⟩ hsm
 refine ⟨l.enc, rfl, by simpa [pkKinds, PK.kinds] using Lis.has hl, ?_⟩
 simp only [checkL] at hK
 simp only [zz, reduceCtorEq, t178, Lis.enc, List.length_map]
 refine ⟨fun h => by rw [if_pos (by omega)] at hK; exact hK, fun h0 hcap => ⟨fun h => by rw [if_neg (by omega), if_pos (by omega)] at hK; exact hK, fun h => ?_⟩⟩
 rw [if_neg (by omega), if_neg (by omega)] at hK
 refine loop_go l.cues (fun i l' (_ : Unit) => cuesGo comp l.cues i l') (fun i _ => [.int .i64 i]) () _ rfl 0 (fun _ _ => rfl) rfl ?_ ?_
 · intro i hi _ hgo
   simp only [cuesGo] at hgo
   have hc := hl.cues l.cues[i] (List.getElem_mem hi)
   have hw : 0 < i → wr64 (↑i - 1) = ((i - 1 : Nat) : Int) := fun h => by rw [wr64_eq] <;> omega
   simp only [zz, reduceCtorEq, hi, List.length_map]
   refine ⟨by omega, denR_call ccheck_ok ⟨l.cues[i], hc, by simp only [zz, reduceCtorEq, getD_map hi, Cue.enc], _, rfl, ?_⟩⟩
   simp only [zz, reduceCtorEq, List.length_map]
   by_cases h1 : check16 l.cues[i] = 0
   · simp only [h1, ne_eq, not_true_eq_false, if_false] at hgo ⊢
     refine ⟨fun h => by simp at h, fun _ => ⟨?_, ?_, ?_⟩⟩
     · split
       · rename_i h0; rw [hw h0]; simp
       · rfl
     · split
       · rename_i h0; rw [hw h0]; simp; omega
       · rfl
     · have hp : ∀ h : 0 < i, l.cues[i - 1]! = l.cues[i - 1]'(by omega) := fun h => getElem!_pos l.cues (i - 1) (by omega)
       refine denR_gcall compare_ok (decide (0 < i)) [.int .i64 (if 0 < i then comp (l.cues[i - 1]!).num (l.cues[i]).num else 0)] ?_ (fun h => ⟨(l.cues[i - 1]!).num, (l.cues[i]).num, ?_, ?_⟩) (fun h => ?_) ?_
       · simp only [zz, reduceCtorEq]
       · have h : 0 < i := by simpa using h
         rw [hp h]
         simp only [zz, reduceCtorEq, hw h, getD_map hi, getD_map (show i - 1 < l.cues.length by omega), Cue.enc]
       · have h : 0 < i := by simpa using h
         rw [if_pos h]; rfl
       · have h : ¬ 0 < i := by simpa using h
         rw [if_neg h]; rfl
       · simp only [zz, reduceCtorEq]
         grind [wr64_eq]
   · simp only [h1, ne_eq, not_false_eq_true, if_true] at hgo ⊢
     rw [← hgo] at hK
     exact ⟨fun _ => hK, fun h => by simp [h1] at h⟩
 · intro _ hgo
   simp only [cuesGo] at hgo
   simp only [zz, reduceCtorEq, List.length_map]
   rw [← hgo] at hK; exact hK
noncomputable def t210 : R := .ret [.d (.o2 .eq (.var 0) (.fld (.var 9) 0 .str))]
theorem t210_ok : fnO Tryz.prog mdA 210 ([.agg [.str, .str, .slice [.int .i64, .int .i64, .int .i64, .int .i64, .int .i64], .slice [.int .i64, .int .i64, .int .i64, .int .i64, .int .i64, .int .i64], .bool, .bool, .int .i64, .str, .int .i64]] ++ [.cell (.ptr [.str])]) = t210 := by kernel_rfl
theorem c210 : callable Tryz.prog 210 = true := by kernel_rfl
noncomputable def t97 : R := .fact (.o2 .le (.o1 .len (.var 0)) (.int .i64 140737488355328)) (.loop 0 [.int .i64 0] [.int .i64] (.ite (.o2 .lt (.var 2) (.o1 .len (.var 0))) (.need (.o2 .le (.int .i64 0) (.var 2)) (.call none (.val (.var 1)) [.lcons (.idx (.var 0) (.var 2) 0 .str) (.lcons (.idx (.var 0) (.var 2) 1 .str) (.lcons (.idx (.var 0) (.var 2) 2 (.slice [.int .i64, .int .i64, .int .i64, .int .i64, .int .i64])) (.lcons (.idx (.var 0) (.var 2) 3 (.slice [.int .i64, .int .i64, .int .i64, .int .i64, .int .i64, .int .i64])) (.lcons (.idx (.var 0) (.var 2) 4 .bool) (.lcons (.idx (.var 0) (.var 2) 5 .bool) (.lcons (.idx (.var 0) (.var 2) 6 (.int .i64)) (.lcons (.idx (.var 0) (.var 2) 7 .str) (.lcons (.idx (.var 0) (.var 2) 8 (.int .i64)) .lnil))))))))] [.cell .bool] (.ite (.var 3) (.ret [.d (.var 2)]) (.again 0 [.o2 (.add .i64) (.var 2) (.int .i64 1)])))) (.ret [.d (.int .i64 (-1))])))
theorem t97_ok : fnO Tryz.prog mdA 97 [.cell (.slice [.str, .str, .slice [.int .i64, .int .i64, .int .i64, .int .i64, .int .i64], .slice [.int .i64, .int .i64, .int .i64, .int .i64, .int .i64, .int .i64], .bool, .bool, .int .i64, .str, .int .i64]), .cell .fn] = t97 := by kernel_rfl
theorem c97 : callable Tryz.prog 97 = true := by kernel_rfl
noncomputable def t183 : R := .call none (.fn 97) [.var 2, .clo 210 (.lcons (.ptr (.lcons (.var 3) .lnil)) .lnil)] [.cell (.int .i64)] (.ret [.d (.var 4)])
theorem t183_ok : fnO Tryz.prog mdA 183 [.agg [.int .i64, .int .i64, .slice [.str, .str, .slice [.int .i64, .int .i64, .int .i64, .int .i64, .int .i64], .slice [.int .i64, .int .i64, .int .i64, .int .i64, .int .i64, .int .i64], .bool, .bool, .int .i64, .str, .int .i64]], .cell .str] = t183 := by kernel_rfl
theorem c183 : callable Tryz.prog 183 = true := by kernel_rfl
theorem check16_num {c : Cue} (h : check16 c = 0) : check05 c.num = 0 := by
 simp only [check16] at h
 split at h
 · exact h
 · rename_i h1; simpa using h1
theorem checkL_eq (l : Lis) : checkL comp l = checkL order05 l := by
 have key : ∀ (cs : List Cue) (i : Nat) (xs : List Cue), (∀ j, j < i → check16 (xs[j]!) = 0) → cs = xs.drop i → cuesGo comp xs i cs = cuesGo order05 xs i cs := by
   intro cs
   induction cs with
   | nil => intro i xs _ _; rfl
   | cons c cs ih =>
     intro i xs hx he
     have hlt : i < xs.length := by
       rcases Nat.lt_or_ge i xs.length with h | h
       · exact h
       · rw [List.drop_eq_nil_of_le h] at he; cases he
     rw [List.drop_eq_getElem_cons hlt] at he
     obtain ⟨rfl, rfl⟩ := List.cons.inj he
     simp only [cuesGo]
     by_cases h : check16 xs[i] = 0
     · have hnext := ih (i + 1) xs (fun j hj => by
         rcases Nat.lt_succ_iff_lt_or_eq.1 hj with hj | rfl
         · exact hx j hj
         · rw [getElem!_pos xs j hlt]; exact h) rfl
       have hc : 0 < i → comp (xs[i - 1]!).num (xs[i]).num = order05 (xs[i - 1]!).num (xs[i]).num := fun h0 => comp_order (check16_num (hx (i - 1) (by omega))) (check16_num h)
       by_cases h0 : 0 < i
       · rw [hc h0, hnext]
       · simp only [h0, false_and, if_false, hnext]
     · rw [if_pos (by simpa using h), if_pos (by simpa using h)]
 simp only [checkL, key l.cues 0 l.cues (by simp) rfl]
theorem loop_goI {P : Program} {F : Option Nat → List RV → Prop} {X A B : Type} {l : Nat} {inits : List T} {ks : List Go.Sx.K} {body : R} {ags : Ags} {ρ : List D} (xs : List X) (go : Nat → List X → A → B) (enc : Nat → A → List D) (I : Nat → A → Prop) (a0 : A) (R0 : B) (hR : go 0 xs a0 = R0) (hI : I 0 a0) (p : Nat)
   (hp : ∀ i a, (enc i a)[p]? = some (.int .i64 (i : Nat))) (h0 : inits.map (den ρ) = enc 0 a0)
   (round : ∀ i (hi : i < xs.length) a, I i a → go i (xs[i] :: xs.drop (i + 1)) a = R0 →
     denR P F noK body (setAg ags l fun c ys => c = ags.cnt ∧ ∃ a', ys = enc (i + 1) a' ∧ I (i + 1) a' ∧ go (i + 1) (xs.drop (i + 1)) a' = R0) (ρ ++ enc i a))
   (fin : ∀ a, I xs.length a → go xs.length [] a = R0 → denR P F noK body (setAg ags l fun c ys => False) (ρ ++ enc xs.length a)) : denR P F noK (.loop l inits ks body) ags ρ := by
 simp only [denR]
 refine ⟨fun c ys => c = ags.cnt ∧ ∃ i a, i ≤ xs.length ∧ ys = enc i a ∧ I i a ∧ go i (xs.drop i) a = R0, fun _ ys => match ys[p]? with | some (.int _ i) => xs.length - i.toNat | _ => 0, ⟨rfl, 0, a0, Nat.zero_le _, h0, hI, by simpa using hR⟩, ?_⟩
 rintro _ _ _ ⟨rfl, i, a, hi, rfl, hIi, hgo⟩
 rw [wc_self]
 have mono : ∀ {q q' : Option Nat → List D → Prop}, (∀ c ys, q c ys → q' c ys) → denR P F noK body (setAg ags l q) (ρ ++ enc i a) → denR P F noK body (setAg ags l q') (ρ ++ enc i a) := fun {q q'} h hd => denR_inv _ (a := setAg ags l q) (a' := setAg ags l q') (fun n c ys => by
   simp only [setAg]
   split
   · exact h c ys
   · exact id) ⟨rfl, rfl⟩ rfl hd
 rcases Nat.lt_or_ge i xs.length with hlt | hge
 · rw [List.drop_eq_getElem_cons hlt] at hgo
   refine mono ?_ (round i hlt a hIi hgo)
   rintro c ys ⟨rfl, a', rfl, h2, h'⟩
   refine ⟨⟨rfl, i + 1, a', hlt, rfl, h2, h'⟩, ?_⟩
   simp only [hp]
   omega
 · have : i = xs.length := by omega
   subst this
   rw [List.drop_length] at hgo
   exact mono (fun _ _ h => h.elim) (fin a hIi hgo)
theorem has_li {l : Lis} (hl : l.Ok) {ks : List K} {ds : List D} (h : HasKs ks ds) : HasKs (liKs ++ ks) (l.enc ++ ds) := (Lis.has hl).append h
theorem has_s {l : Lis} (hl : l.Ok) {s : List UInt8} : HasKs (liKs ++ [.str]) (l.enc ++ [.str s]) := (Lis.has hl).append (show HasKs [.str] [.str s] from ⟨trivial, trivial⟩)
theorem cues_has {cs : List Cue} (h : ∀ c ∈ cs, c.Ok) : HasK (.slice cueKs) (.slice (cs.map Cue.enc)) := slice_has fun c hc => Cue.has (h c hc)
def given17 (l : Lis) (s : List UInt8) : Int := if checkL order05 l ≠ 0 then checkL order05 l else check05 s
def place (cs : List Cue) (s : List UInt8) : Int := idxGo (fun c => c.num == s) 0 cs
theorem place17_ok : Contract Tryz.prog 50 fun args K => ∃ (l : Lis) (s : List UInt8), l.Ok ∧ args = [.agg l.enc, .str s] ∧ K [.d (.int .i64 (place l.cues s))] := by
 refine .of c50 t50_ok ?_
 rintro _ K ⟨l, s, hl, rfl, hK⟩ hsm
 refine ⟨l.enc ++ [.str s], rfl, by exact has_s hl, ?_⟩
 simp only [place] at hK
 refine loop_go l.cues (fun i l' (_ : Unit) => idxGo (fun c : Cue => c.num == s) i l') (fun i _ => [.int .i64 i]) () _ rfl 0 (fun _ _ => rfl) rfl ?_ ?_
 · intro i hi _ hgo
   simp only [idxGo] at hgo
   simp only [zz, reduceCtorEq, Lis.enc, List.length_map, hi, getD_map hi, Cue.enc]
   refine fun hcap => ⟨by omega, fun h => ?_, fun h => ⟨(), by rw [wr64_eq] <;> omega, ?_⟩⟩
   · rw [if_pos (by simpa using h)] at hgo; rw [← hgo] at hK; exact hK
   · rw [if_neg (by simpa using h)] at hgo; exact hgo
 · intro _ hgo
   simp only [idxGo] at hgo
   simp only [zz, reduceCtorEq, Lis.enc, List.length_map]
   rw [← hgo] at hK
   exact fun _ => hK
def without (cs : List Cue) (s : List UInt8) : List Cue := cs.filter fun c => !(c.num == s)
def placedGo (c : Cue) : List Cue → List Cue × Bool → List Cue × Bool
 | [], a => a
 | x :: xs, a =>
   let a1 := if !a.2 && decide (0 ≤ order05 x.num c.num) then (a.1 ++ [c], true) else a
   placedGo c xs (if order05 x.num c.num = 0 then a1 else (a1.1 ++ [x], a1.2))
def placed (cs : List Cue) (c : Cue) : List Cue := let r := placedGo c cs ([], false); if r.2 then r.1 else r.1 ++ [c]
theorem clCheck17_ok : Contract Tryz.prog 178 fun args K => ∃ l : Lis, l.Ok ∧ args = [.agg l.enc] ∧ K [.d (.int .i64 (checkL order05 l))] :=
 clCheck_ok.weaken fun args K _ ⟨l, h1, h2, h3⟩ => ⟨l, h1, h2, by rw [checkL_eq]; exact h3⟩
def txts (ss : List (List UInt8)) : List (List D) := ss.map fun s => [D.str s]
theorem txts_has (ss : List (List UInt8)) : HasK (.slice [.str]) (.slice (txts ss)) := slice_has (enc := fun s => [D.str s]) fun s _ => ⟨trivial, trivial⟩
theorem txts_len (ss : List (List UInt8)) : (txts ss).length = ss.length := by simp [txts]
def checkedGo : List (List UInt8) → Int
 | [] => 0
 | s :: ss => if check05 s ≠ 0 then check05 s else checkedGo ss
def checkedL (l : Lis) (ss : List (List UInt8)) : Int := if checkL order05 l ≠ 0 then checkL order05 l else checkedGo ss
theorem checked_ok : Contract Tryz.prog 182 fun args K => ∃ (l : Lis) (ss : List (List UInt8)), l.Ok ∧ args = [.agg l.enc, .slice (txts ss)] ∧ K [.d (.int .i64 (checkedL l ss))] := by
 refine .of c182 t182_ok ?_
 rintro _ K ⟨l, ss, hl, rfl, hK⟩ hsm
 refine ⟨l.enc ++ [.slice (txts ss)], rfl, by exact has_li hl ⟨txts_has ss, trivial⟩, ?_⟩
 refine denR_call clCheck17_ok ⟨l, hl, rfl, _, rfl, ?_⟩
 simp only [checkedL] at hK
 simp only [zz, reduceCtorEq, Lis.enc]
 refine ⟨fun h => ?_, fun h => ?_⟩
 · rw [if_pos (by simpa using h)] at hK; exact hK
 · rw [if_neg (by simpa using h)] at hK
   intro hcap
   simp only [txts_len] at hcap
   refine loop_go ss (fun i l' (_ : Unit) => checkedGo l') (fun i _ => [.int .i64 i]) () _ rfl 0 (fun _ _ => rfl) rfl ?_ ?_
   · intro i hi _ hgo
     simp only [checkedGo] at hgo
     simp only [zz, reduceCtorEq, txts, List.length_map, hi]
     refine ⟨by omega, denR_call nCheck_ok ⟨ss[i], by simp only [zz, reduceCtorEq, getD_map hi], _, rfl, ?_⟩⟩
     simp only [zz, reduceCtorEq]
     refine ⟨fun h => ?_, fun h => ⟨(), by rw [wr64_eq] <;> omega, ?_⟩⟩
     · rw [if_pos (by simpa using h)] at hgo; rw [← hgo] at hK; exact hK
     · rw [if_neg (by simpa using h)] at hgo; exact hgo
   · intro _ hgo
     simp only [checkedGo] at hgo
     simp only [zz, reduceCtorEq, txts, List.length_map]
     rw [← hgo] at hK
     exact hK
theorem indexCue_ok : Contract Tryz.prog 97 fun args K => ∃ (l : List Cue) (p : Cue → Bool) (f : FuncId) (caps : List D), (∀ m ∈ l, m.Ok) ∧ args = [.slice (l.map Cue.enc), .clo f caps] ∧ SaysOf Tryz.prog (.clo f caps) Cue.enc l p ∧ K [.d (.int .i64 (idxGo p 0 l))] := by
 refine .of c97 t97_ok ?_
 rintro _ K ⟨l, p, f, caps, hl, rfl, ⟨sf, hf, hs⟩, hK⟩ hsm
 refine ⟨[.slice (l.map Cue.enc), .clo f caps], rfl, by simp only [pkKinds, PK.kinds, List.map_cons, List.map_nil, List.flatten_cons, List.flatten_nil, List.append_nil]; exact ⟨slice_has fun m hm => Cue.has (hl m hm), trivial, trivial⟩, ?_⟩
 simp only [zz, reduceCtorEq, t97, List.length_map]
 intro hcap
 refine loop_go l (fun i l' (_ : Unit) => idxGo p i l') (fun i _ => [.int .i64 i]) () _ rfl 0 (fun _ _ => rfl) rfl ?_ ?_
 · intro i hi _ hgo
   simp only [idxGo] at hgo
   simp only [zz, reduceCtorEq, hi, List.length_map]
   refine ⟨by omega, denR_fcall (FvC.up' (s := sf) (fv := .clo f caps) hf) ⟨fun rs => rs = [.d (.bool (p l[i]))], ?_, fun rs h => ⟨[.bool (p l[i])], by rw [h]; rfl, by simp [RK.all, RK.kinds, HasKs, HasK], ?_⟩⟩⟩
   · simp only [zz, reduceCtorEq, getD_map hi, Cue.enc]
     exact hs l[i] (List.getElem_mem hi)
   · simp only [zz, reduceCtorEq]
     grind [wr64_eq]
 · intro _ hgo
   simp only [idxGo] at hgo
   simp only [zz, reduceCtorEq, List.length_map]
   rw [← hgo] at hK; exact hK
theorem isPlace_ok : Contract Tryz.prog 210 fun args K => ∃ (c : Cue) (s : List UInt8), c.Ok ∧ args = [.agg c.enc, .ptr [.str s]] ∧ K [.d (.bool (c.num == s))] := by
 refine .of c210 t210_ok ?_
 rintro _ K ⟨c, s, hc, rfl, hK⟩ hsm
 refine ⟨c.enc ++ [.ptr [.str s]], rfl, by exact (Cue.has hc).append (show HasKs [.ptr [.str]] [.ptr [.str s]] from ⟨⟨trivial, trivial⟩, trivial⟩), ?_⟩
 simp only [zz, reduceCtorEq, t210, Cue.enc]
 exact hK
theorem isPlace_says (l : List Cue) (hl : ∀ c ∈ l, c.Ok) (s : List UInt8) : SaysOf Tryz.prog (.clo 210 [.ptr [.str s]]) Cue.enc l (fun c => c.num == s) := by
 refine ⟨fun as_ K => ∃ c : Cue, c.Ok ∧ as_ = [.agg c.enc] ∧ K [.d (.bool (c.num == s))], FvC.of c210 isPlace_ok ?_, fun c hc => ⟨c, hl c hc, rfl, rfl⟩⟩
 rintro _ K ⟨c, hc, rfl, hK⟩
 refine ⟨⟨c, s, hc, rfl, hK⟩, argsTyped_of [some (.agg cueKs)] (by kernel_rfl) ?_⟩
 intro i rk d h1 h2
 cases i with
 | zero => simp at h1 h2; subst h1 h2; exact Cue.has hc
 | succ i => simp at h1
theorem place_ok : Contract Tryz.prog 183 fun args K => ∃ (l : Lis) (s : List UInt8), l.Ok ∧ args = [.agg l.enc, .str s] ∧ K [.d (.int .i64 (place l.cues s))] := by
 refine .of c183 t183_ok ?_
 rintro _ K ⟨l, s, hl, rfl, hK⟩ hsm
 refine ⟨l.enc ++ [.str s], rfl, by exact has_s hl, ?_⟩
 refine denR_call indexCue_ok ⟨l.cues, fun c => c.num == s, 210, [.ptr [.str s]], hl.cues, rfl, isPlace_says l.cues hl.cues s, _, rfl, ?_⟩
 simp only [zz, reduceCtorEq, Lis.enc]
 exact hK
def openAt (cs : List Cue) (c : Cue) : Bool := !(c.link == []) && decide (place cs c.link < 0)
def openL (cs : List Cue) : List (List UInt8) := (cs.filter (openAt cs)).map (·.num)
theorem cuesGo_len {ord : List UInt8 → List UInt8 → Int} {l : Lis} (h : checkL ord l = 0) : l.cues.length ≤ 64 := by
 simp only [checkL] at h
 split at h
 · cases h
 · split at h
   · cases h
   · omega
theorem byt_inj {c d : UInt8} (h : byt c = byt d) : c = d := by
 rw [← toNat_byt, ← toNat_byt] at h
 exact UInt8.toNat_inj.1 h
theorem digsGo_cons {c : UInt8} {cs : List UInt8} : digsGo (c :: cs) = true ↔ (48 ≤ byt c ∧ byt c ≤ 57) ∧ digsGo cs = true := by
 have h : isDig c = true ↔ 48 ≤ byt c ∧ byt c ≤ 57 := by simp [isDig]
 rw [← h]
 simp only [digsGo]
 by_cases hc : isDig c = true <;> simp [hc]
theorem dv_inj : ∀ (a b : List UInt8) (m n : Nat), digsGo a = true → digsGo b = true → a.length = b.length → dv m a = dv n b → m = n ∧ a = b
 | [], [], m, n, _, _, _, h => ⟨h, rfl⟩
 | [], _ :: _, _, _, _, _, h, _ => by simp at h
 | _ :: _, [], _, _, _, _, h, _ => by simp at h
 | c :: cs, d :: ds, m, n, ha, hb, hl, h => by
   rw [digsGo_cons] at ha hb
   obtain ⟨e, rfl⟩ := dv_inj cs ds (dig m c) (dig n d) ha.2 hb.2 (by simpa using hl) h
   rw [dig_eq, dig_eq] at e
   have e1 : m = n := by omega
   have e2 : byt c = byt d := by omega
   exact ⟨e1, by rw [byt_inj e2]⟩
theorem dv_ge : ∀ (a : List UInt8) (m : Nat), m * 10 ^ a.length ≤ dv m a
 | [], m => by simp [dv]
 | c :: cs, m => by
   have := dv_ge cs (dig m c)
   have h1 : m * 10 ≤ dig m c := by rw [dig_eq]; omega
   have h2 := Nat.mul_le_mul_right (10 ^ cs.length) h1
   simp only [dv, List.length_cons, Nat.pow_succ]
   calc m * (10 ^ cs.length * 10) = m * 10 * 10 ^ cs.length := by rw [Nat.mul_assoc, Nat.mul_comm 10]
     _ ≤ dig m c * 10 ^ cs.length := h2
     _ ≤ _ := this
theorem dv_small : ∀ (a : List UInt8) (m : Nat), digsGo a = true → dv m a < (m + 1) * 10 ^ a.length
 | [], m, _ => by simp [dv]
 | c :: cs, m, h => by
   rw [digsGo_cons] at h
   have := dv_small cs (dig m c) h.2
   have h1 : dig m c + 1 ≤ (m + 1) * 10 := by rw [dig_eq]; omega
   have h2 := Nat.mul_le_mul_right (10 ^ cs.length) h1
   simp only [dv, List.length_cons, Nat.pow_succ]
   calc dv (dig m c) cs < (dig m c + 1) * 10 ^ cs.length := this
     _ ≤ (m + 1) * 10 * 10 ^ cs.length := h2
     _ = (m + 1) * (10 ^ cs.length * 10) := by rw [Nat.mul_assoc, Nat.mul_comm 10]
structure Right2 (s : List UInt8) : Prop extends Right s where
 lead : 1 < (split s).1.length → ∃ c cs, (split s).1 = c :: cs ∧ byt c ≠ 48
 last : (split s).2.2 = true → ∃ cs c, (split s).2.1 = cs ++ [c] ∧ byt c ≠ 48
 none : (split s).2.2 = false → (split s).2.1 = []
theorem right2_of {s : List UInt8} (h : check05 s = 0) : Right2 s := by
 have hs : (split s).2.2 = false → (split s).2.1 = [] := by
   simp only [split]; split <;> simp
 refine ⟨right_of h, ?_, ?_, hs⟩
 · intro hl
   simp only [check05] at h
   split at h
   · cases h
   · split at h
     · cases h
     · rename_i h2
       simp only [Bool.or_eq_true, Bool.and_eq_true, decide_eq_true_eq, not_or, not_and, beq_iff_eq] at h2
       match hw : (split s).1, hl, h2.1 hl with
       | c :: cs, _, h3 =>
         refine ⟨c, cs, rfl, ?_⟩
         rwa [at8_at (by simp)] at h3
 · intro hp
   simp only [check05] at h
   split at h
   · cases h
   · rename_i h1
     split at h
     · cases h
     · rename_i h2
       simp only [Bool.or_eq_true, Bool.and_eq_true, decide_eq_true_eq, not_or, not_and, beq_iff_eq, Bool.not_eq_true', Bool.not_eq_false] at h1 h2
       have hd := h1.2 hp
       have h3 := h2.2 hp
       simp only [digits, Bool.and_eq_true, decide_eq_true_eq] at hd
       rcases List.eq_nil_or_concat (split s).2.1 with h0 | ⟨cs, c, h0⟩
       · rw [h0] at hd; simp at hd
       · refine ⟨cs, c, by simpa using h0, ?_⟩
         rw [h0] at h3
         rw [at8_at (by simp)] at h3
         simpa using h3
theorem pointGo_some : ∀ (s : List UInt8) (k i : Nat), pointGo k s = some i → k ≤ i ∧ ∃ h : i - k < s.length, byt s[i - k] = 46
 | [], _, _, h => by simp [pointGo] at h
 | c :: cs, k, i, h => by
   simp only [pointGo] at h
   split at h
   · rename_i hc
     cases h
     exact ⟨Nat.le_refl _, by simp, by simpa using hc⟩
   · obtain ⟨h1, h2, h3⟩ := pointGo_some cs (k + 1) i h
     have e : i - k = i - (k + 1) + 1 := by omega
     refine ⟨by omega, by simp; omega, ?_⟩
     simp only [e, List.getElem_cons_succ]
     exact h3
theorem split_join (s : List UInt8) : s = if (split s).2.2 then (split s).1 ++ 46 :: (split s).2.1 else (split s).1 := by
 cases hp : pointGo 0 s with
 | none =>
   have e0 : split s = (s, [], false) := by simp only [split, hp]
   simp [e0]
 | some i =>
   have e0 : split s = (s.take i, s.drop (i + 1), true) := by simp only [split, hp]
   rw [e0]
   obtain ⟨_, h2, h3⟩ := pointGo_some s 0 i hp
   simp only [Nat.sub_zero] at h2 h3
   have e : s[i] = 46 := byt_inj (by rw [h3, ← toNat_byt]; rfl)
   simp only [if_true]
   have h4 : s.drop i = 46 :: s.drop (i + 1) := by rw [List.drop_eq_getElem_cons h2, e]
   rw [← h4, List.take_append_drop]
theorem byt48 : byt 48 = 48 := by rw [← toNat_byt]; rfl
theorem rest3_inj {a b : List UInt8} (ha : a.length ≤ 3) (hb : b.length ≤ 3) (la : a = [] ∨ ∃ cs c, a = cs ++ [c] ∧ byt c ≠ 48) (lb : b = [] ∨ ∃ cs c, b = cs ++ [c] ∧ byt c ≠ 48) (h : rest3 a = rest3 b) : a = b := by
 have key : ∀ {a : List UInt8}, a.length ≤ 3 → (a = [] ∨ ∃ cs c, a = cs ++ [c] ∧ byt c ≠ 48) → a = [] ∨ (∃ x, a = [x] ∧ byt x ≠ 48) ∨ (∃ x y, a = [x, y] ∧ byt y ≠ 48) ∨ ∃ x y z, a = [x, y, z] ∧ byt z ≠ 48 := by
   intro a ha la
   rcases la with rfl | ⟨cs, c, rfl, hc⟩
   · exact .inl rfl
   · match cs, ha with
     | [], _ => exact .inr (.inl ⟨c, rfl, hc⟩)
     | [x], _ => exact .inr (.inr (.inl ⟨x, c, rfl, hc⟩))
     | [x, y], _ => exact .inr (.inr (.inr ⟨x, y, c, rfl, hc⟩))
     | _ :: _ :: _ :: _, h => simp at h
 have h48 : ∀ {x : UInt8}, byt x ≠ 48 → x ≠ 48 := fun h e => h (by rw [e, byt48])
 rcases key ha la with rfl | ⟨x, rfl, hx⟩ | ⟨x, y, rfl, hx⟩ | ⟨x, y, z, rfl, hx⟩ <;> rcases key hb lb with rfl | ⟨x', rfl, hx'⟩ | ⟨x', y', rfl, hx'⟩ | ⟨x', y', z', rfl, hx'⟩ <;>
   simp only [rest3, List.nil_append, List.cons_append, List.take, List.cons.injEq, and_true] at h <;> first | rfl | (exact absurd h (h48 hx)) | (exact absurd h.symm (h48 hx')) | (exact absurd h.2 (h48 hx)) | (exact absurd h.2.symm (h48 hx')) | (exact absurd h.1 (h48 hx)) | (exact absurd h.1.symm (h48 hx')) | (exact absurd h.2.1 (h48 hx)) | (exact absurd h.2.1.symm (h48 hx')) | (exact absurd h.2.2 (h48 hx)) | (exact absurd h.2.2.symm (h48 hx')) | simp [h]
theorem value05_inj {s t : List UInt8} (hs : check05 s = 0) (ht : check05 t = 0) (h : value05 s = value05 t) : s = t := by
 have rs := right2_of hs
 have rt := right2_of ht
 rw [value05_dv rs.toRight, value05_dv rt.toRight] at h
 have h' : dv 0 ((split s).1 ++ rest3 (split s).2.1) = dv 0 ((split t).1 ++ rest3 (split t).2.1) := by omega
 have ws := rs.w
 have wt := rt.w
 simp only [digits, Bool.and_eq_true, decide_eq_true_eq] at ws wt
 have ds : digsGo ((split s).1 ++ rest3 (split s).2.1) = true := by rw [digsGo_append, ws.1, rest3_digs rs.r]; rfl
 have dt : digsGo ((split t).1 ++ rest3 (split t).2.1) = true := by rw [digsGo_append, wt.1, rest3_digs rt.r]; rfl
 have longer : ∀ {s t : List UInt8}, Right2 s → digsGo ((split t).1 ++ rest3 (split t).2.1) = true → 0 < (split t).1.length → digsGo ((split s).1 ++ rest3 (split s).2.1) = true → (split t).1.length < (split s).1.length → dv 0 ((split t).1 ++ rest3 (split t).2.1) < dv 0 ((split s).1 ++ rest3 (split s).2.1) := by
   intro s t rs dt ht ds hlt
   obtain ⟨c, cs, e, hc⟩ := rs.lead (by omega)
   have h1 := dv_small ((split t).1 ++ rest3 (split t).2.1) 0 dt
   rw [e] at ds hlt ⊢
   rw [List.cons_append] at ds ⊢
   have hc2 := (digsGo_cons.1 ds).1
   have h2 := dv_ge (cs ++ rest3 (split s).2.1) (dig 0 c)
   have h3 : 1 ≤ dig 0 c := by rw [dig_eq]; omega
   simp only [List.length_append, rest3_len, List.length_cons] at h1 h2 hlt
   have h4 : 10 ^ ((split t).1.length + 3) ≤ 10 ^ (cs.length + 3) := Nat.pow_le_pow_right (by omega) (by omega)
   have h5 := Nat.mul_le_mul_right (10 ^ (cs.length + 3)) h3
   simp only [dv]
   omega
 have hlen : (split s).1.length = (split t).1.length := by
   rcases Nat.lt_trichotomy (split s).1.length (split t).1.length with h1 | h1 | h1
   · have := longer rt ds ws.2 dt h1; omega
   · exact h1
   · have := longer rs dt wt.2 ds h1; omega
 obtain ⟨_, e⟩ := dv_inj _ _ 0 0 ds dt (by simp [hlen, rest3_len]) h'
 obtain ⟨e1, e2⟩ := List.append_inj e hlen
 have lr : ∀ {s : List UInt8}, Right2 s → ((split s).2.1 = [] ∨ ∃ cs c, (split s).2.1 = cs ++ [c] ∧ byt c ≠ 48) := by
   intro s rs
   cases hp : (split s).2.2 with
   | true => exact .inr (rs.last hp)
   | false => exact .inl (rs.none hp)
 have e3 := rest3_inj rs.lr rt.lr (lr rs) (lr rt) e2
 have e4 : (split s).2.2 = (split t).2.2 := by
   cases hp : (split s).2.2 <;> cases hq : (split t).2.2 <;> try rfl
   · obtain ⟨cs, c, e5, _⟩ := rt.last hq
     rw [rs.none hp] at e3; rw [← e3] at e5; simp at e5
   · obtain ⟨cs, c, e5, _⟩ := rs.last hp
     rw [rt.none hq] at e3; rw [e3] at e5; simp at e5
 rw [split_join s, split_join t, e1, e3, e4]
def valOf (c : Cue) : Int := value05 c.num
def Rising (cs : List Cue) : Prop := cs.Pairwise fun a b => valOf a < valOf b
theorem order_neg (a b : List UInt8) : order05 a b < 0 ↔ value05 a < value05 b := by unfold order05; split <;> (try split) <;> simp_all
theorem order_zero (a b : List UInt8) : order05 a b = 0 ↔ value05 a = value05 b := by unfold order05; split <;> (try split) <;> simp_all <;> omega
theorem perm_sorted_eq {X : Type} (key : X → Int) : ∀ (b a : List X), a.Perm b → a.Pairwise (fun x y => key x ≤ key y) → b.Pairwise (fun x y => key x < key y) → a = b
 | [], a, h, _, _ => by simpa using h
 | y :: b, [], h, _, _ => by simp at h
 | y :: b, x :: a, h, ha, hb => by
   rw [List.pairwise_cons] at ha hb
   have hx : x ∈ y :: b := h.mem_iff.1 (by simp)
   have hy : y ∈ x :: a := h.mem_iff.2 (by simp)
   have e : x = y := by
     rcases List.mem_cons.1 hx with e | hx
     · exact e
     · rcases List.mem_cons.1 hy with e | hy
       · exact e.symm
       · have := hb.1 x hx; have := ha.1 y hy; omega
   subst e
   rw [perm_sorted_eq key b a (List.Perm.cons_inv h) ha.2 hb.2]
def ins (c : Cue) : List Cue → List Cue
 | [] => [c]
 | x :: xs => if valOf x < valOf c then x :: ins c xs else c :: x :: xs
theorem cuesGo_zero {xs : List Cue} : ∀ (cs : List Cue) (i : Nat), cs = xs.drop i → cuesGo order05 xs i cs = 0 → (∀ c ∈ cs, check16 c = 0) ∧ (∀ j, i ≤ j → 0 < j → j < xs.length → valOf (xs[j - 1]!) < valOf (xs[j]!))
 | [], i, he, _ => ⟨by simp, fun j h1 h2 h3 => by
     have := congrArg List.length he
     simp at this
     omega⟩
 | c :: cs, i, he, h => by
   have hlt : i < xs.length := by
     rcases Nat.lt_or_ge i xs.length with h | h
     · exact h
     · rw [List.drop_eq_nil_of_le h] at he; cases he
   rw [List.drop_eq_getElem_cons hlt] at he
   obtain ⟨rfl, rfl⟩ := List.cons.inj he
   simp only [cuesGo] at h
   split at h
   · rename_i hc; exact absurd h hc
   · rename_i hc
     have hc : check16 xs[i] = 0 := by simpa using hc
     split at h
     · cases h
     · rename_i ho
       obtain ⟨g1, g2⟩ := cuesGo_zero (xs.drop (i + 1)) (i + 1) rfl h
       refine ⟨fun d hd => ?_, fun j h1 h2 h3 => ?_⟩
       · rcases List.mem_cons.1 hd with rfl | hd
         · exact hc
         · exact g1 d hd
       · rcases Nat.eq_or_lt_of_le h1 with rfl | h1
         · rw [getElem!_pos xs i h3]
           have : ¬ 0 ≤ order05 (xs[i - 1]!).num (xs[i]).num := fun h => ho ⟨h2, h⟩
           exact (order_neg _ _).1 (by omega)
         · exact g2 j h1 h2 h3
structure RightL (l : Lis) : Prop where
 cues : ∀ c ∈ l.cues, check16 c = 0
 rising : Rising l.cues
 len : l.cues.length ≤ 64
theorem rightL_of {l : Lis} (h : checkL order05 l = 0) : RightL l := by
 have hlen := cuesGo_len h
 simp only [checkL] at h
 split at h
 · cases h
 · split at h
   · cases h
   · obtain ⟨g1, g2⟩ := cuesGo_zero l.cues 0 rfl h
     refine ⟨g1, ?_, hlen⟩
     rw [Rising, List.pairwise_iff_getElem]
     have step : ∀ (n i : Nat) (hi : i + n + 1 < l.cues.length), valOf (l.cues[i]'(by omega)) < valOf (l.cues[i + n + 1]) := by
       intro n
       induction n with
       | zero =>
         intro i hi
         have := g2 (i + 1) (Nat.zero_le _) (by omega) (by omega)
         rw [getElem!_pos l.cues (i + 1) (by omega), getElem!_pos l.cues (i + 1 - 1) (by omega)] at this
         exact this
       | succ n ih =>
         intro i hi
         have h1 := ih i (by omega)
         have := g2 (i + (n + 1) + 1) (Nat.zero_le _) (by omega) (by omega)
         rw [getElem!_pos l.cues (i + (n + 1) + 1) (by omega), getElem!_pos l.cues (i + (n + 1) + 1 - 1) (by omega)] at this
         have e : i + (n + 1) + 1 - 1 = i + n + 1 := by omega
         simp only [e] at this
         omega
     intro i j hi hj hij
     obtain ⟨n, rfl⟩ : ∃ n, j = i + n + 1 := ⟨j - i - 1, by omega⟩
     exact step n i hj
theorem RightL.num {l : Lis} (h : RightL l) : ∀ c ∈ l.cues, check05 c.num = 0 := fun c hc => check16_num (h.cues c hc)
theorem idxGo_spec {X : Type} (p : X → Bool) : ∀ (xs : List X) (i : Nat), (idxGo p i xs = -1 ∧ ∀ x ∈ xs, p x = false) ∨ ∃ (j : Nat) (h : j < xs.length), idxGo p i xs = (i + j : Nat) ∧ p xs[j] = true ∧ ∀ k (hk : k < j), p (xs[k]'(by omega)) = false
 | [], i => .inl ⟨rfl, by simp⟩
 | x :: xs, i => by
   simp only [idxGo]
   by_cases hx : p x = true
   · refine .inr ⟨0, by simp, by simp [hx], by simpa using hx, fun k hk => by omega⟩
   · have hx' : p x = false := by simpa using hx
     simp only [hx, if_false]
     rcases idxGo_spec p xs (i + 1) with ⟨h1, h2⟩ | ⟨j, hj, h1, h2, h3⟩
     · exact .inl ⟨by simpa [hx'] using h1, fun y hy => by
         rcases List.mem_cons.1 hy with rfl | hy
         · exact hx'
         · exact h2 y hy⟩
     · refine .inr ⟨j + 1, by simp; omega, by simp [hx', h1]; omega, by simpa using h2, fun k hk => ?_⟩
       match k, hk with
       | 0, _ => simpa using hx'
       | k + 1, hk => simpa using h3 k (by omega)
theorem place_neg {cs : List Cue} {s : List UInt8} : place cs s < 0 ↔ ∀ c ∈ cs, c.num ≠ s := by
 unfold place
 rcases idxGo_spec (fun c : Cue => c.num == s) cs 0 with ⟨h1, h2⟩ | ⟨j, hj, h1, h2, _⟩
 · rw [h1]; exact ⟨fun _ c hc => by simpa using h2 c hc, fun _ => by omega⟩
 · rw [h1]
   refine ⟨fun h => by omega, fun h => absurd (by simpa using h2) (h cs[j] (List.getElem_mem _))⟩
theorem place_pos {cs : List Cue} {s : List UInt8} (h : ¬ place cs s < 0) : ∃ (j : Nat) (hj : j < cs.length), place cs s = j ∧ (cs[j]).num = s ∧ ∀ k (hk : k < j), (cs[k]'(by omega)).num ≠ s := by
 unfold place at h ⊢
 rcases idxGo_spec (fun c : Cue => c.num == s) cs 0 with ⟨h1, h2⟩ | ⟨j, hj, h1, h2, h3⟩
 · rw [h1] at h; omega
 · exact ⟨j, hj, by simpa using h1, by simpa using h2, fun k hk => by simpa using h3 k hk⟩
end Go.Sx.La
