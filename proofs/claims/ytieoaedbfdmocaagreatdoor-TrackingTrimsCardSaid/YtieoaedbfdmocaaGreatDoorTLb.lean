/-
 Contracts: lists of cues, the reference of layer 17.
-/
import Derived.Test.YtieoaedbfdmocaaGreatDoorTLa
import Derived.Test.YtieoaedbfdmocaaGreatDoorTFr
import Derived.Test.YtieoaedbfdmocaaGreatDoorSort
import Derived.Shelf.SlSortCmp.WholeK
set_option linter.unusedSimpArgs false
set_option linter.unusedVariables false
set_option linter.unusedSectionVars false
set_option linter.defProp false
set_option maxRecDepth 100000
set_option maxRecDepth 100000
namespace Go.Sx.La
open Go Go.Sx Go.RowKit Go.Proofs
noncomputable def t76 : R := .ret [.d (.lcons (.var 0) (.lcons (.var 1) (.lcons (.var 3) .lnil)))]
theorem loop_goI {P : Program} {F : Option Nat → List RV → Prop} {X A B : Type} {l : Nat} {inits : List T} {ks : List Go.Sx.K} {body : R} {ags : Ags} {ρ : List D} (xs : List X) (go : Nat → List X → A → B) (enc : Nat → A → List D) (I : Nat → A → Prop) (a0 : A) (R0 : B) (hR : go 0 xs a0 = R0) (hI : I 0 a0) (p : Nat)
   (hp : ∀ i a, (enc i a)[p]? = some (.int .i64 (i : Nat))) (h0 : inits.map (den ρ) = enc 0 a0)
   (round : ∀ i (hi : i < xs.length) a, I i a → go i (xs[i] :: xs.drop (i + 1)) a = R0 →
     denR P F noK body (setAg ags l fun c ys => c = ags.cnt ∧ ∃ a', ys = enc (i + 1) a' ∧ I (i + 1) a' ∧ go (i + 1) (xs.drop (i + 1)) a' = R0) (ρ ++ enc i a))
   (fin : ∀ a, I xs.length a → go xs.length [] a = R0 → denR P F noK body (setAg ags l fun c ys => False) (ρ ++ enc xs.length a)) : denR P F noK (.loop l inits ks body) ags ρ := by
 simp only [denR]
 refine ⟨fun c ys => c = ags.cnt ∧ ∃ i a, i ≤ xs.length ∧ ys = enc i a ∧ I i a ∧ go i (xs.drop i) a = R0, fun ys => match ys[p]? with | some (.int _ i) => xs.length - i.toNat | _ => 0, ⟨rfl, 0, a0, Nat.zero_le _, h0, hI, by simpa using hR⟩, ?_⟩
 rintro _ _ _ ⟨rfl, i, a, hi, rfl, hIi, hgo⟩
 rw [wc_self]
 have mono : ∀ {q q' : Option Nat → List D → Prop}, (∀ c ys, q c ys → q' c ys) → denR P F noK body (setAg ags l q) (ρ ++ enc i a) → denR P F noK body (setAg ags l q') (ρ ++ enc i a) := fun {q q'} h hd => denR_inv _ (a := setAg ags l q) (a' := setAg ags l q') (fun n c ys => by
   simp only [setAg]
   split
   · exact h c ys
   · exact id) rfl rfl hd
 rcases Nat.lt_or_ge i xs.length with hlt | hge
 · rw [List.drop_eq_getElem_cons hlt] at hgo
   refine mono ?_ (round i hlt a hIi hgo)
   rintro c ys ⟨rfl, a', rfl, h2, h'⟩
   refine ⟨⟨rfl, i + 1, a', hlt, rfl, h2, h'⟩, ?_⟩
   simp only [hp]
   omega
 · have : i = xs.length := by omega
   subst this
   rw [List.drop_length] at hgo
   exact mono (fun _ _ h => h.elim) (fin a hIi hgo)
theorem has_li {l : Lis} (hl : l.Ok) {ks : List K} {ds : List D} (h : HasKs ks ds) : HasKs (liKs ++ ks) (l.enc ++ ds) := (Lis.has hl).append h
theorem has_s {l : Lis} (hl : l.Ok) {s : List UInt8} : HasKs (liKs ++ [.str]) (l.enc ++ [.str s]) := (Lis.has hl).append (show HasKs [.str] [.str s] from ⟨trivial, trivial⟩)
theorem has_ss {l : Lis} (hl : l.Ok) {s t : List UInt8} : HasKs (liKs ++ [.str, .str]) (l.enc ++ [.str s, .str t]) := (Lis.has hl).append (show HasKs [.str, .str] [.str s, .str t] from ⟨trivial, trivial, trivial⟩)
theorem cues_has {cs : List Cue} (h : ∀ c ∈ cs, c.Ok) : HasK (.slice cueKs) (.slice (cs.map Cue.enc)) := slice_has fun c hc => Cue.has (h c hc)
def given17 (l : Lis) (s : List UInt8) : Int := if checkL order05 l ≠ 0 then checkL order05 l else check05 s
def place (cs : List Cue) (s : List UInt8) : Int := idxGo (fun c => c.num == s) 0 cs
def without (cs : List Cue) (s : List UInt8) : List Cue := cs.filter fun c => !(c.num == s)
def placedGo (c : Cue) : List Cue → List Cue × Bool → List Cue × Bool
 | [], a => a
 | x :: xs, a =>
   let a1 := if !a.2 && decide (0 ≤ order05 x.num c.num) then (a.1 ++ [c], true) else a
   placedGo c xs (if order05 x.num c.num = 0 then a1 else (a1.1 ++ [x], a1.2))
def placed (cs : List Cue) (c : Cue) : List Cue := let r := placedGo c cs ([], false); if r.2 then r.1 else r.1 ++ [c]
end Go.Sx.La
set_option maxRecDepth 100000
namespace Go.Sx.La
open Go Go.Sx Go.RowKit Go.Proofs
theorem clCheck17_ok : Contract Tryz.prog 25 fun args K => ∃ l : Lis, l.Ok ∧ args = [.agg l.enc] ∧ K [.d (.int .i64 (checkL order05 l))] :=
 clCheck_ok.weaken fun args K _ ⟨l, h1, h2, h3⟩ => ⟨l, h1, h2, by rw [checkL_eq]; exact h3⟩
def txts (ss : List (List UInt8)) : List (List D) := ss.map fun s => [D.str s]
theorem txts_has (ss : List (List UInt8)) : HasK (.slice [.str]) (.slice (txts ss)) := slice_has (enc := fun s => [D.str s]) fun s _ => ⟨trivial, trivial⟩
theorem txts_len (ss : List (List UInt8)) : (txts ss).length = ss.length := by simp [txts]
def checkedGo : List (List UInt8) → Int
 | [] => 0
 | s :: ss => if check05 s ≠ 0 then check05 s else checkedGo ss
def checkedL (l : Lis) (ss : List (List UInt8)) : Int := if checkL order05 l ≠ 0 then checkL order05 l else checkedGo ss
theorem checked_ok : Contract Tryz.prog 84 fun args K => ∃ (l : Lis) (ss : List (List UInt8)), l.Ok ∧ args = [.agg l.enc, .slice (txts ss)] ∧ K [.d (.int .i64 (checkedL l ss))] := by
 refine .of c84 t84_ok ?_
 rintro _ K ⟨l, ss, hl, rfl, hK⟩ hsm
 refine ⟨l.enc ++ [.slice (txts ss)], rfl, by exact has_li hl ⟨txts_has ss, trivial⟩, ?_⟩
 refine denR_call clCheck17_ok ⟨l, hl, rfl, _, rfl, ?_⟩
 simp only [checkedL] at hK
 simp only [zz, RT.den, den, O1.eval, O2.eval, D.eqb, reduceCtorEq, D.sub, D.cell, D.elem, D.cells, D.padd, D.list, D.push, Lis.enc]
 refine ⟨fun h => ?_, fun h => ?_⟩
 · rw [if_pos (by simpa using h)] at hK; exact hK
 · rw [if_neg (by simpa using h)] at hK
   intro hcap
   simp only [txts_len] at hcap
   refine loop_go ss (fun i l' (_ : Unit) => checkedGo l') (fun i _ => [.int .i64 i]) () _ rfl 0 (fun _ _ => rfl) rfl ?_ ?_
   · intro i hi _ hgo
     simp only [checkedGo] at hgo
     simp only [zz, RT.den, den, O1.eval, O2.eval, D.eqb, reduceCtorEq, D.sub, D.cell, D.elem, D.cells, D.padd, D.list, D.push, txts, List.length_map, hi]
     refine ⟨by omega, denR_call nCheck_ok ⟨ss[i], by simp only [zz, RT.den, den, O1.eval, O2.eval, D.eqb, reduceCtorEq, D.sub, D.cell, D.elem, D.cells, D.padd, D.list, D.push, getD_map hi], _, rfl, ?_⟩⟩
     simp only [zz, RT.den, den, O1.eval, O2.eval, D.eqb, reduceCtorEq, D.sub, D.cell, D.elem, D.cells, D.padd, D.list, D.push]
     refine ⟨fun h => ?_, fun h => ⟨(), by rw [wr64_eq] <;> omega, ?_⟩⟩
     · rw [if_pos (by simpa using h)] at hgo; rw [← hgo] at hK; exact hK
     · rw [if_neg (by simpa using h)] at hgo; exact hgo
   · intro _ hgo
     simp only [checkedGo] at hgo
     simp only [zz, RT.den, den, O1.eval, O2.eval, D.eqb, reduceCtorEq, D.sub, D.cell, D.elem, D.cells, D.padd, D.list, D.push, txts, List.length_map]
     rw [← hgo] at hK
     exact hK
theorem indexCue_ok : Contract Tryz.prog 96 fun args K => ∃ (l : List Cue) (p : Cue → Bool) (f : FuncId) (caps : List D), (∀ m ∈ l, m.Ok) ∧ args = [.slice (l.map Cue.enc), .clo f caps] ∧ SaysOf Tryz.prog (.clo f caps) Cue.enc l p ∧ K [.d (.int .i64 (idxGo p 0 l))] := by
 refine .of c96 t96_ok ?_
 rintro _ K ⟨l, p, f, caps, hl, rfl, ⟨sf, hf, hs⟩, hK⟩ hsm
 refine ⟨[.slice (l.map Cue.enc), .clo f caps], rfl, by simp only [pkKinds, PK.kinds, List.map_cons, List.map_nil, List.flatten_cons, List.flatten_nil, List.append_nil]; exact ⟨slice_has fun m hm => Cue.has (hl m hm), trivial, trivial⟩, ?_⟩
 simp only [zz, RT.den, den, O1.eval, O2.eval, D.eqb, reduceCtorEq, D.sub, D.cell, D.elem, D.cells, D.padd, D.list, D.push, t96, List.length_map]
 intro hcap
 refine loop_go l (fun i l' (_ : Unit) => idxGo p i l') (fun i _ => [.int .i64 i]) () _ rfl 0 (fun _ _ => rfl) rfl ?_ ?_
 · intro i hi _ hgo
   simp only [idxGo] at hgo
   simp only [zz, RT.den, den, O1.eval, O2.eval, D.eqb, reduceCtorEq, D.sub, D.cell, D.elem, D.cells, D.padd, D.list, D.push, hi, List.length_map]
   refine ⟨by omega, denR_fcall (FvC.up' (s := sf) (fv := .clo f caps) hf) ⟨fun rs => rs = [.d (.bool (p l[i]))], ?_, fun rs h => ⟨[.bool (p l[i])], by rw [h]; rfl, by simp [RK.all, RK.kinds, HasKs, HasK], ?_⟩⟩⟩
   · simp only [zz, RT.den, den, O1.eval, O2.eval, D.eqb, reduceCtorEq, D.sub, D.cell, D.elem, D.cells, D.padd, D.list, D.push, getD_map hi, Cue.enc]
     exact hs l[i] (List.getElem_mem hi)
   · simp only [zz, RT.den, den, O1.eval, O2.eval, D.eqb, reduceCtorEq, D.sub, D.cell, D.elem, D.cells, D.padd, D.list, D.push]
     grind [wr64_eq]
 · intro _ hgo
   simp only [idxGo] at hgo
   simp only [zz, RT.den, den, O1.eval, O2.eval, D.eqb, reduceCtorEq, D.sub, D.cell, D.elem, D.cells, D.padd, D.list, D.push, List.length_map]
   rw [← hgo] at hK; exact hK
theorem isPlace_ok : Contract Tryz.prog 151 fun args K => ∃ (c : Cue) (s : List UInt8), c.Ok ∧ args = [.agg c.enc, .ptr [.str s]] ∧ K [.d (.bool (c.num == s))] := by
 refine .of c151 t151_ok ?_
 rintro _ K ⟨c, s, hc, rfl, hK⟩ hsm
 refine ⟨c.enc ++ [.ptr [.str s]], rfl, by exact (Cue.has hc).append (show HasKs [.ptr [.str]] [.ptr [.str s]] from ⟨⟨trivial, trivial⟩, trivial⟩), ?_⟩
 simp only [zz, RT.den, den, O1.eval, O2.eval, D.eqb, reduceCtorEq, D.sub, D.cell, D.elem, D.cells, D.padd, D.list, D.push, t151, Cue.enc]
 exact hK
theorem isPlace_says (l : List Cue) (hl : ∀ c ∈ l, c.Ok) (s : List UInt8) : SaysOf Tryz.prog (.clo 151 [.ptr [.str s]]) Cue.enc l (fun c => c.num == s) := by
 refine ⟨fun as_ K => ∃ c : Cue, c.Ok ∧ as_ = [.agg c.enc] ∧ K [.d (.bool (c.num == s))], FvC.of c151 isPlace_ok ?_, fun c hc => ⟨c, hl c hc, rfl, rfl⟩⟩
 rintro _ K ⟨c, hc, rfl, hK⟩
 refine ⟨⟨c, s, hc, rfl, hK⟩, argsTyped_of [some (.agg cueKs)] (by kernel_rfl) ?_⟩
 intro i rk d h1 h2
 cases i with
 | zero => simp at h1 h2; subst h1 h2; exact Cue.has hc
 | succ i => simp at h1
theorem place_ok : Contract Tryz.prog 85 fun args K => ∃ (l : Lis) (s : List UInt8), l.Ok ∧ args = [.agg l.enc, .str s] ∧ K [.d (.int .i64 (place l.cues s))] := by
 refine .of c85 t85_ok ?_
 rintro _ K ⟨l, s, hl, rfl, hK⟩ hsm
 refine ⟨l.enc ++ [.str s], rfl, by exact has_s hl, ?_⟩
 refine denR_call indexCue_ok ⟨l.cues, fun c => c.num == s, 151, [.ptr [.str s]], hl.cues, rfl, isPlace_says l.cues hl.cues s, _, rfl, ?_⟩
 simp only [zz, RT.den, den, O1.eval, O2.eval, D.eqb, reduceCtorEq, D.sub, D.cell, D.elem, D.cells, D.padd, D.list, D.push, Lis.enc]
 exact hK
def openAt (cs : List Cue) (c : Cue) : Bool := !(c.link == []) && decide (place cs c.link < 0)
def openL (cs : List Cue) : List (List UInt8) := (cs.filter (openAt cs)).map (·.num)
theorem cuesGo_len {ord : List UInt8 → List UInt8 → Int} {l : Lis} (h : checkL ord l = 0) : l.cues.length ≤ 64 := by
 simp only [checkL] at h
 split at h
 · cases h
 · split at h
   · cases h
   · omega
end Go.Sx.La
set_option maxRecDepth 100000
namespace Go.Sx.La
open Go Go.Sx Go.RowKit Go.Proofs
theorem denR_iter {P : Program} {F : Option Nat → List RV → Prop} {l : Nat} {t : T} {inits : List T} {ks : List K} {pk : List PK} {body done : R} {ags : Ags} {ρ : List D} : denR P F noK (.iter l t inits ks pk body done) ags ρ =
   (∃ xs : List (List D), IterC P (den ρ t) xs ∧ (∀ x ∈ xs, ∃ fx, pkRho pk x = some fx ∧ HasKs (pkKinds pk) fx) ∧
     ∃ Inv : Nat → Option Nat → List D → Prop, Inv 0 ags.cnt (inits.map (den ρ)) ∧
     (∀ i x fx c ys, xs[i]? = some x → pkRho pk x = some fx → HasKs (pkKinds pk) fx → HasKs ks ys → Inv i c ys → denR P F noK body (setAg (ags.wc c) l fun c' zs => Inv (i + 1) c' zs) (ρ ++ ys ++ fx)) ∧
     (∀ c ys, HasKs ks ys → Inv xs.length c ys → denR P F noK done (ags.wc c) (ρ ++ ys))) := rfl
def names (l : Lis) : List (List UInt8) := l.cues.map (·.num)
def pick : Option (List UInt8) → List UInt8 × Bool
 | some s => (s, true)
 | none => ([], false)
def SaysTxt (P : Program) (fv : D) (ss : List (List UInt8)) (p : List UInt8 → Bool) : Prop := ∃ sf, FvC P fv sf ∧ ∀ s ∈ ss, sf [.str s] fun rs => rs = [.d (.bool (p s))]
end Go.Sx.La
set_option maxRecDepth 100000
namespace Go.Sx.La
open Go Go.Sx Go.RowKit Go.Proofs
noncomputable def t45 : R := .call none (.fn 42) [.lcons (.var 0) (.lcons (.var 1) (.lcons (.var 2) .lnil))] [.cell (.int .i64)] (.ite (.o2 .ne (.var 3) (.int .i64 0)) (.ret [.d .nils, .d (.var 3)]) (.loop 0 [.nils, .int .i64 0] [.slice [.str], .int .i64] (.fact (.o2 .le (.o1 .len (.var 2)) (.int .i64 140737488355328)) (.ite (.o2 .lt (.var 5) (.o1 .len (.var 2))) (.need (.o2 .le (.int .i64 0) (.var 5)) (.call (some (.o2 .ne (.idx (.var 2) (.var 5) 7 .str) (.str []))) (.fn 75) [.lcons (.var 0) (.lcons (.var 1) (.lcons (.var 2) .lnil)), .idx (.var 2) (.var 5) 7 .str] [.cell (.int .i64)] (.need (.ite (.ite (.o2 .ne (.idx (.var 2) (.var 5) 7 .str) (.str [])) (.o2 .lt (.var 6) (.int .i64 0)) (.bool false)) (.o2 .le (.o1 .len (.o2 .app (.var 4) (.push .nils (.lcons (.idx (.var 2) (.var 5) 0 .str) .lnil)))) (.int .i64 8796093022208)) (.bool true)) (.lets [.ite (.ite (.o2 .ne (.idx (.var 2) (.var 5) 7 .str) (.str [])) (.o2 .lt (.var 6) (.int .i64 0)) (.bool false)) (.o2 .app (.var 4) (.push .nils (.lcons (.idx (.var 2) (.var 5) 0 .str) .lnil))) (.var 4)] (.again 0 [.var 7, .o2 (.add .i64) (.var 5) (.int .i64 1)]))))) (.ret [.own 1 (.var 4), .d (.int .i64 0)])))))
noncomputable def t40 : R := .fact (.o2 .le (.o1 .len (.var 2)) (.int .i64 140737488355328)) (.loop 0 [.nils, .int .i64 0] [.slice [.str], .int .i64] (.ite (.o2 .lt (.var 4) (.o1 .len (.var 2))) (.need (.o2 .le (.int .i64 0) (.var 4)) (.need (.o2 .le (.o1 .len (.o2 .app (.var 3) (.push .nils (.lcons (.idx (.var 2) (.var 4) 0 .str) .lnil)))) (.int .i64 8796093022208)) (.again 0 [.o2 .app (.var 3) (.push .nils (.lcons (.idx (.var 2) (.var 4) 0 .str) .lnil)), .o2 (.add .i64) (.var 4) (.int .i64 1)]))) (.ret [.own 1 (.var 3)])))
def lastGo (p : List UInt8 → Bool) (ss : List (List UInt8)) (a : List UInt8 × Bool) : List UInt8 × Bool := match ss.reverse.find? p with
 | some x => (x, true)
 | none => a
def firstOf (cs : List Cue) : List UInt8 × Bool := pick (cs.map (·.num)).head?
def lastOf (cs : List Cue) : List UInt8 × Bool := pick (cs.map (·.num)).getLast?
def eqGo : List (List UInt8) → List (List UInt8) → Bool
 | [], _ => true
 | a :: as_, b :: bs => if a = b then eqGo as_ bs else false
 | _, _ => false
end Go.Sx.La
set_option maxRecDepth 100000
namespace Go.Sx.La
open Go Go.Sx Go.RowKit Go.Proofs
def valOf (c : Cue) : Int := value05 c.num
def Rising (cs : List Cue) : Prop := cs.Pairwise fun a b => valOf a < valOf b
theorem order_neg (a b : List UInt8) : order05 a b < 0 ↔ value05 a < value05 b := by unfold order05; split <;> (try split) <;> simp_all
theorem perm_sorted_eq {X : Type} (key : X → Int) : ∀ (b a : List X), a.Perm b → a.Pairwise (fun x y => key x ≤ key y) → b.Pairwise (fun x y => key x < key y) → a = b
 | [], a, h, _, _ => by simpa using h
 | y :: b, [], h, _, _ => by simp at h
 | y :: b, x :: a, h, ha, hb => by
   rw [List.pairwise_cons] at ha hb
   have hx : x ∈ y :: b := h.mem_iff.1 (by simp)
   have hy : y ∈ x :: a := h.mem_iff.2 (by simp)
   have e : x = y := by
     rcases List.mem_cons.1 hx with e | hx
     · exact e
     · rcases List.mem_cons.1 hy with e | hy
       · exact e.symm
       · have := hb.1 x hx; have := ha.1 y hy; omega
   subst e
   rw [perm_sorted_eq key b a (List.Perm.cons_inv h) ha.2 hb.2]
def ins (c : Cue) : List Cue → List Cue
 | [] => [c]
 | x :: xs => if valOf x < valOf c then x :: ins c xs else c :: x :: xs
theorem ins_perm (c : Cue) : ∀ xs, (ins c xs).Perm (c :: xs)
 | [] => .refl _
 | x :: xs => by
   simp only [ins]
   split
   · exact ((ins_perm c xs).cons x).trans (.swap ..)
   · exact .refl _
theorem ins_rising {c : Cue} : ∀ {xs : List Cue}, Rising xs → (∀ x ∈ xs, valOf x ≠ valOf c) → Rising (ins c xs)
 | [], _, _ => by simp [Rising, ins]
 | x :: xs, h, hne => by
   have h' := h
   simp only [Rising, List.pairwise_cons] at h
   simp only [ins]
   have hx := hne x (by simp)
   split
   · rename_i hlt
     simp only [Rising, List.pairwise_cons]
     refine ⟨fun y hy => ?_, ins_rising h.2 fun z hz => hne z (by simp [hz])⟩
     rcases List.mem_cons.1 ((ins_perm c xs).mem_iff.1 hy) with rfl | hy
     · exact hlt
     · exact h.1 y hy
   · rename_i hlt
     simp only [Rising, List.pairwise_cons]
     refine ⟨fun y hy => ?_, h⟩
     rcases List.mem_cons.1 hy with rfl | hy
     · omega
     · have := h.1 y hy; omega
theorem cuesGo_zero {xs : List Cue} : ∀ (cs : List Cue) (i : Nat), cs = xs.drop i → cuesGo order05 xs i cs = 0 → (∀ c ∈ cs, check16 c = 0) ∧ (∀ j, i ≤ j → 0 < j → j < xs.length → valOf (xs[j - 1]!) < valOf (xs[j]!))
 | [], i, he, _ => ⟨by simp, fun j h1 h2 h3 => by
     have := congrArg List.length he
     simp at this
     omega⟩
 | c :: cs, i, he, h => by
   have hlt : i < xs.length := by
     rcases Nat.lt_or_ge i xs.length with h | h
     · exact h
     · rw [List.drop_eq_nil_of_le h] at he; cases he
   rw [List.drop_eq_getElem_cons hlt] at he
   obtain ⟨rfl, rfl⟩ := List.cons.inj he
   simp only [cuesGo] at h
   split at h
   · rename_i hc; exact absurd h hc
   · rename_i hc
     have hc : check16 xs[i] = 0 := by simpa using hc
     split at h
     · cases h
     · rename_i ho
       obtain ⟨g1, g2⟩ := cuesGo_zero (xs.drop (i + 1)) (i + 1) rfl h
       refine ⟨fun d hd => ?_, fun j h1 h2 h3 => ?_⟩
       · rcases List.mem_cons.1 hd with rfl | hd
         · exact hc
         · exact g1 d hd
       · rcases Nat.eq_or_lt_of_le h1 with rfl | h1
         · rw [getElem!_pos xs i h3]
           have : ¬ 0 ≤ order05 (xs[i - 1]!).num (xs[i]).num := fun h => ho ⟨h2, h⟩
           exact (order_neg _ _).1 (by omega)
         · exact g2 j h1 h2 h3
structure RightL (l : Lis) : Prop where
 cues : ∀ c ∈ l.cues, check16 c = 0
 rising : Rising l.cues
 len : l.cues.length ≤ 64
theorem rightL_of {l : Lis} (h : checkL order05 l = 0) : RightL l := by
 have hlen := cuesGo_len h
 simp only [checkL] at h
 split at h
 · cases h
 · split at h
   · cases h
   · obtain ⟨g1, g2⟩ := cuesGo_zero l.cues 0 rfl h
     refine ⟨g1, ?_, hlen⟩
     rw [Rising, List.pairwise_iff_getElem]
     have step : ∀ (n i : Nat) (hi : i + n + 1 < l.cues.length), valOf (l.cues[i]'(by omega)) < valOf (l.cues[i + n + 1]) := by
       intro n
       induction n with
       | zero =>
         intro i hi
         have := g2 (i + 1) (Nat.zero_le _) (by omega) (by omega)
         rw [getElem!_pos l.cues (i + 1) (by omega), getElem!_pos l.cues (i + 1 - 1) (by omega)] at this
         exact this
       | succ n ih =>
         intro i hi
         have h1 := ih i (by omega)
         have := g2 (i + (n + 1) + 1) (Nat.zero_le _) (by omega) (by omega)
         rw [getElem!_pos l.cues (i + (n + 1) + 1) (by omega), getElem!_pos l.cues (i + (n + 1) + 1 - 1) (by omega)] at this
         have e : i + (n + 1) + 1 - 1 = i + n + 1 := by omega
         simp only [e] at this
         omega
     intro i j hi hj hij
     obtain ⟨n, rfl⟩ : ∃ n, j = i + n + 1 := ⟨j - i - 1, by omega⟩
     exact step n i hj
theorem RightL.num {l : Lis} (h : RightL l) : ∀ c ∈ l.cues, check05 c.num = 0 := fun c hc => check16_num (h.cues c hc)
theorem idxGo_spec {X : Type} (p : X → Bool) : ∀ (xs : List X) (i : Nat), (idxGo p i xs = -1 ∧ ∀ x ∈ xs, p x = false) ∨ ∃ (j : Nat) (h : j < xs.length), idxGo p i xs = (i + j : Nat) ∧ p xs[j] = true ∧ ∀ k (hk : k < j), p (xs[k]'(by omega)) = false
 | [], i => .inl ⟨rfl, by simp⟩
 | x :: xs, i => by
   simp only [idxGo]
   by_cases hx : p x = true
   · refine .inr ⟨0, by simp, by simp [hx], by simpa using hx, fun k hk => by omega⟩
   · have hx' : p x = false := by simpa using hx
     simp only [hx, if_false]
     rcases idxGo_spec p xs (i + 1) with ⟨h1, h2⟩ | ⟨j, hj, h1, h2, h3⟩
     · exact .inl ⟨by simpa [hx'] using h1, fun y hy => by
         rcases List.mem_cons.1 hy with rfl | hy
         · exact hx'
         · exact h2 y hy⟩
     · refine .inr ⟨j + 1, by simp; omega, by simp [hx', h1]; omega, by simpa using h2, fun k hk => ?_⟩
       match k, hk with
       | 0, _ => simpa using hx'
       | k + 1, hk => simpa using h3 k (by omega)
theorem place_neg {cs : List Cue} {s : List UInt8} : place cs s < 0 ↔ ∀ c ∈ cs, c.num ≠ s := by
 unfold place
 rcases idxGo_spec (fun c : Cue => c.num == s) cs 0 with ⟨h1, h2⟩ | ⟨j, hj, h1, h2, _⟩
 · rw [h1]; exact ⟨fun _ c hc => by simpa using h2 c hc, fun _ => by omega⟩
 · rw [h1]
   refine ⟨fun h => by omega, fun h => absurd (by simpa using h2) (h cs[j] (List.getElem_mem _))⟩
theorem place_pos {cs : List Cue} {s : List UInt8} (h : ¬ place cs s < 0) : ∃ (j : Nat) (hj : j < cs.length), place cs s = j ∧ (cs[j]).num = s ∧ ∀ k (hk : k < j), (cs[k]'(by omega)).num ≠ s := by
 unfold place at h ⊢
 rcases idxGo_spec (fun c : Cue => c.num == s) cs 0 with ⟨h1, h2⟩ | ⟨j, hj, h1, h2, h3⟩
 · rw [h1] at h; omega
 · exact ⟨j, hj, by simpa using h1, by simpa using h2, fun k hk => by simpa using h3 k hk⟩
end Go.Sx.La
set_option maxRecDepth 100000
namespace Go.Sx.La
open Go Go.Sx Go.RowKit Go.Proofs Go.Sort Go.Shelf
theorem grow_of_below {W w' : World} (h : BelowD W.heap.size W w') : ∃ q os', w' = Sort.grow (W.drewN q) os' := by
 refine ⟨w'.drawn - W.drawn, w'.heap.extract W.heap.size w'.heap.size, ?_⟩
 have hh : W.heap ++ w'.heap.extract W.heap.size w'.heap.size = w'.heap := by
   apply Array.ext_getElem?
   intro i
   rw [Array.getElem?_append]
   split
   · rename_i hi; exact (h.block i hi).symm
   · rename_i hi
     rw [Array.getElem?_extract]
     have hs := h.size
     split
     · congr 1; omega
     · rw [Array.getElem?_eq_none (by omega)]
 have hd : W.drawn + (w'.drawn - W.drawn) = w'.drawn := by have := h.drawn; omega
 have e1 := h.os
 have e2 := h.tape
 have e3 := h.output
 obtain ⟨hp, tp, dr, o, out⟩ := w'
 obtain ⟨hp0, tp0, dr0, o0, out0⟩ := W
 simp only at hh hd e1 e2 e3
 simp only [Sort.grow, World.drewN, hh, hd, e1, e2, e3]
structure El (m : Mem) (X : Type) (enc : X → List D) (k : Nat) (l : List X) where
 x : X
 mem : x ∈ l
 vs : List Value
 len : vs.length = k
 rep : ∀ (i : Nat) d v, (enc x)[i]? = some d → vs[i]? = some v → RepD m d v
def D.flat : D → Bool
 | .agg _ => false
 | _ => true
theorem RepD.one {m : Mem} {d : D} {v : Value} (h : RepD m d v) (hf : D.flat d = true) : v.oneCell' = true := by
 cases h <;> first | rfl | cases hf
theorem own_inv {m : Mem} {w : World} {B : Nat → Prop} {e : Nat} {xs : List (List D)} {v : Value} (h : RepR m w B (.own e xs) v) (hne : xs ≠ []) :
   ∃ b c arr t, v = .slice (some ⟨b, 0, none⟩) xs.length c ∧ B b ∧ m b = none ∧ w.heap[b]? = some (.cells arr t (0, 0)) ∧ 0 < c ∧ xs.length ≤ c ∧ c ≤ maxLen ∧ xs.length ≤ cap ∧ arr.size = c * e ∧ (∀ x ∈ xs, x.length = e) ∧
     ∀ (i j : Nat) x d v, xs[i]? = some x → x[j]? = some d → arr[i * e + j]? = some v → RepD m d v := by
 cases h with
 | none => exact absurd rfl hne
 | own hB hm hb h0 hc hcc hcap hsz he hv => exact ⟨_, _, _, _, rfl, hB, hm, hb, h0, hc, hcc, hcap, hsz, he, hv⟩
section
variable {α : Type} [Inhabited α]
theorem sortWorldK_other (enc : α → List Value) (k : Nat) (w : World) (blk off n : Nat) (d : Array α) (os : Array Obj) {b : Nat} (hb : b < w.heap.size) (hne : b ≠ blk) : (sortWorldK enc k w blk off n d os).heap[b]? = w.heap[b]? := by
 have hsz : (putRowK enc k (Sort.ahead w n) blk off d).heap.size = w.heap.size := by simp [putRowK, putRow, mapBlock, Sort.ahead]
 unfold sortWorldK
 simp only [Sort.grow]
 rw [Array.getElem?_append, if_pos (by omega)]
 simp only [putRowK, putRow, mapBlock, Sort.ahead, Array.getElem?_modify]
 rw [if_neg (by omega)]
theorem sortWorldK_row (enc : α → List Value) (k : Nat) (w : World) (blk off n : Nat) (d : Array α) (os : Array Obj) {c : Array Value} {t : TypeId} {fz : Nat × Nat} (hb : w.heap[blk]? = some (.cells c t fz)) :
   (sortWorldK enc k w blk off n d os).heap[blk]? = some (.cells (Go.Sort.putCells id off (flatK enc k d) c) t fz) := by
 have hlt : blk < w.heap.size := by
   rcases Nat.lt_or_ge blk w.heap.size with h | h
   · exact h
   · rw [Array.getElem?_eq_none h] at hb; cases hb
 have hsz : (putRowK enc k (Sort.ahead w n) blk off d).heap.size = w.heap.size := by simp [putRowK, putRow, mapBlock, Sort.ahead]
 unfold sortWorldK
 simp only [Sort.grow]
 rw [Array.getElem?_append, if_pos (by omega)]
 simp only [putRowK, putRow, mapBlock, Sort.ahead, Array.getElem?_modify, hb]
 simp [onCells]
end
theorem sort_ok {P : Program} {f : FuncId} {ρ : Ren} (L : SlLaysF0.n6 P ρ) (hf : ρ.f 6 = f) (hcl : callable P f = true) {X : Type} {enc : X → List D} {ks : List K} {k : Nat} (hkk : ks.length = k) (h0 : 0 < k) (hflat : ∀ x, ∀ d ∈ enc x, D.flat d = true) (hlen : ∀ x, (enc x).length = k)
   (aE : ∀ w, (isAgg (ρ.t 24)).run P w = .ok true w) (zE : ∀ w, (Go.sizeOf (ρ.t 24)).run P w = .ok k w) (hres : resKinds P false (fnTypes P f) = some []) :
   ContractX P f [.own ks, .cell .fn] true fun args K => ∃ (l : List X) (g : FuncId) (caps : List D) (key : X → Int) (cf : X → X → Int) (sf : Spec), l ≠ [] ∧ (∀ x ∈ l, HasKs ks (enc x)) ∧ args = [.own k (l.map enc), .d (.clo g caps)] ∧ FvC P (.clo g caps) sf ∧
     (∀ x ∈ l, ∀ y ∈ l, (cf x y < 0 ↔ key x < key y) ∧ sf [.agg (enc x), .agg (enc y)] fun rs => rs = [.d (.int .i64 (cf x y))]) ∧ ∀ l' : List X, l'.Perm l → l'.Pairwise (fun a b => key a ≤ key b) → K [.own k (l'.map enc)] := by
 refine ⟨hcl, ?_⟩
 rintro _ K ⟨l, g, caps, key, cf, sf, hne, hks, rfl, hfv, hcf, hK⟩ _ w m vs hm hr
 have hlen2 : vs.length = 2 := hr.len
 match vs, hlen2 with
 | [v, u], _ =>
 have r0 := hr.rep 0 _ v rfl rfl
 have r1 := hr.rep 1 _ u rfl rfl
 cases r1 with
 | d h1 =>
 obtain ⟨cb, rfl, hcsz, hcb⟩ := RepD.clo_inv h1
 obtain ⟨b, c, arr, t, rfl, _, hmb, hb, hc0, hc, hcm, hcap, hasz, he, hv⟩ := own_inv r0 (by simpa using hne)
 have hblt : b < w.heap.size := by
   rcases Nat.lt_or_ge b w.heap.size with h | h
   · exact h
   · rw [Array.getElem?_eq_none h] at hb; cases hb
 simp only [List.length_map] at hc hcap
 have hin : ∀ i j, i < l.length → j < k → i * k + j < arr.size := by
   intro i j hi hj
   have h1 : (i + 1) * k ≤ c * k := Nat.mul_le_mul_right _ (by omega)
   rw [Nat.succ_mul] at h1
   omega
 let d : Array (El m X enc k l) := Array.ofFn fun i : Fin l.length => ⟨l[i], List.getElem_mem _, (arr.toList.drop (i * k)).take k, by
     have h1 : (i.val + 1) * k ≤ c * k := Nat.mul_le_mul_right _ (by omega)
     rw [Nat.succ_mul] at h1
     simp only [List.length_take, List.length_drop, Array.length_toList]; omega, fun j dd u h2 h3 => by
     have hj : j < k := by
       have := (List.getElem?_eq_some_iff.1 h2).1
       rw [hlen] at this; exact this
     rw [List.getElem?_take, if_pos hj, List.getElem?_drop] at h3
     exact hv i j (enc l[i]) dd u (by simp) h2 (by simpa using h3)⟩
 have hds : d.size = l.length := by simp [d]
 have hpos : 0 < l.length := List.length_pos_iff.2 hne
 letI : Inhabited (El m X enc k l) := ⟨d[0]'(by omega)⟩
 have hdi : ∀ i (hi : i < l.length), d[i]! = d[i]'(by omega) := fun i hi => getElem!_pos d i (by omega)
 have hdx : ∀ i (hi : i < l.length), (d[i]!).x = l[i] := fun i hi => by rw [hdi i hi]; simp [d]
 have hdv : ∀ i j (hi : i < l.length) (hj : j < k), (d[i]!).vs[j]! = arr[i * k + j]'(hin i j hi hj) := fun i j hi hj => by
   rw [hdi i hi]
   have : (d[i]'(by omega)).vs = (arr.toList.drop (i * k)).take k := by simp [d]
   rw [this, List.getElem!_eq_getElem?_getD, List.getElem?_take, if_pos hj, List.getElem?_drop]
   simp [hin i j hi hj]
 have hH : HoldsK El.vs k w b 0 d := by
   intro j hj
   rw [size_flatK, hds] at hj
   have hq : j / k < l.length := Nat.div_lt_of_lt_mul (by rw [Nat.mul_comm]; exact hj)
   have hrm : j % k < k := Nat.mod_lt _ h0
   have e : j / k * k + j % k = j := by rw [Nat.mul_comm]; exact Nat.div_add_mod j k
   constructor
   · rw [get_flatK _ _ _ _ (by rw [hds]; exact hj), id_eq, hdv _ _ hq hrm]
     simp only [World.cell?, hb, e]
     have := hin _ _ hq hrm
     rw [e] at this
     simp [this]
   · simp [World.frozen?, hb]
 have hmem : ∀ n os dk, MemOk m (sortWorldK El.vs k w b 0 n (dk : Array (El m X enc k l)) os) := by
   intro n os dk b' o ho
   have hne' : b' ≠ b := by rintro rfl; rw [hmb] at ho; cases ho
   rw [sortWorldK_other _ _ _ _ _ _ _ _ (hm.lt ho) hne']
   exact hm b' o ho
 have hcmp : CmpLays P g cb (El.vs (m := m) (X := X) (enc := enc) (k := k) (l := l)) k (fun x y => cf x.x y.x) b 0 d.size w := by
   intro n os dk _ x y
   refine (fv_calls hfv (hmem n os dk) hcsz hcb (as_ := [.agg (enc x.x), .agg (enc y.x)]) (vs := #[.agg x.vs.toArray, .agg y.vs.toArray]) rfl ?_ (hcf x.x x.mem y.x y.mem).2).mono ?_
   · intro i dd u h2 h3
     match i, h2, h3 with
     | 0, h2, h3 =>
       simp at h2 h3; subst h2 h3
       exact .agg _ _ (by simp [x.len, hlen]) fun j e u a1 a2 => x.rep j e u a1 (by simpa using a2)
     | 1, h2, h3 =>
       simp at h2 h3; subst h2 h3
       exact .agg _ _ (by simp [y.len, hlen]) fun j e u a1 a2 => y.rep j e u a1 (by simpa using a2)
   · rintro e w' ⟨u, m', rfl, hu, hbw⟩
     rw [hu.int_inv]
     exact ⟨rfl, grow_of_below hbw⟩
 have hO : SWO (ltOf fun x y : El m X enc k l => cf x.x y.x) := by
   have key' : ∀ x y : El m X enc k l, ltOf (fun x y : El m X enc k l => cf x.x y.x) x y = decide (key x.x < key y.x) := fun x y => by
     simp only [ltOf]
     rw [Bool.eq_iff_iff]; simpa using (hcf x.x x.mem y.x y.mem).1
   refine ⟨fun x => ?_, fun x y z h1 h2 => ?_, fun x y z h1 h2 => ?_⟩
   · rw [key']; simp
   · rw [key'] at *; simp at *; omega
   · rw [key'] at *; simp at *; omega
 have hargs : ([Value.slice (some ⟨b, 0, none⟩) (l.map enc).length c, Value.func (.func g) #[] cb] : List Value).toArray = #[.slice (some ⟨b, 0, none⟩) d.size c, .func (.func g) #[] cb] := by rw [hds, List.length_map]
 rw [hargs, ← hf]
 refine (AnyQ.slices_SortFunc L k aE zE El.vs El.len ?_ (fun x y => cf x.x y.x) hO g cb b 0 c d w (callable_enters hfv.1) hcmp hH hblt (by rw [hds]; simp only [cap] at hcap; omega)).mono ?_
 · intro x u hu
   obtain ⟨j, hj⟩ := List.mem_iff_getElem?.1 hu
   have hjk : j < (enc x.x).length := by
     have := (List.getElem?_eq_some_iff.1 hj).1
     rw [x.len] at this; rw [hlen]; exact this
   exact RepD.one (x.rep j _ u (List.getElem?_eq_getElem hjk) hj) (hflat x.x _ (List.getElem_mem hjk))
 · rintro e w' ⟨rfl, d', n, os, ⟨hs', _, hperm⟩, hsort, rfl⟩
   rw [hds] at hs'
   have hd'i : ∀ i (hi : i < l.length), d'[i]! = d'[i]'(by omega) := fun i hi => getElem!_pos d' i (by omega)
   have hfull : ∀ (a : Array (El m X enc k l)), a.size = l.length → (a.extract 0 d.size).toList = a.toList := by
     intro a ha
     rw [hds, ← ha]; simp
   rw [hfull d' hs', hfull d hds] at hperm
   let l' : List X := d'.toList.map El.x
   have hl' : l'.length = l.length := by simp [l', hs']
   have hpl : l'.Perm l := by
     have h1 := hperm.map El.x
     have h2 : d.toList.map El.x = l := by
       apply List.ext_getElem
       · simp [hds]
       · intro i h1 h2
         simp [d]
     rw [h2] at h1
     exact h1
   have hgx : ∀ i (hi : i < l.length), l'[i]'(by omega) = (d'[i]!).x := fun i hi => by rw [hd'i i hi]; simp [l']
   have hpw : l'.Pairwise (fun a b => key a ≤ key b) := by
     rw [List.pairwise_iff_getElem]
     intro i j hi hj hij
     rw [hgx i (by omega), hgx j (by omega)]
     have := hsort i j (Nat.zero_le _) hij (by rw [hds]; omega)
     simp only [ltOf] at this
     have h2 := (hcf _ (d'[j]!).mem _ (d'[i]!).mem).1
     have h3 : ¬ cf (d'[j]!).x (d'[i]!).x < 0 := by simpa using this
     rw [h2] at h3
     omega
   have hrow := sortWorldK_row El.vs k w b 0 n d' os hb
   have hflt : ∀ i j, i < l.length → j < k → (flatK El.vs k d')[i * k + j]! = (d'[i]!).vs[j]! := by
     intro i j hi hj
     have h1 : (i + 1) * k ≤ l.length * k := Nat.mul_le_mul_right _ (by omega)
     rw [Nat.succ_mul] at h1
     rw [get_flatK _ _ _ _ (by rw [hs']; omega)]
     have e1 : (i * k + j) / k = i := by rw [Nat.mul_comm, Nat.mul_add_div h0, Nat.div_eq_of_lt hj, Nat.add_zero]
     have e2 : (i * k + j) % k = j := by rw [Nat.mul_comm, Nat.mul_add_mod, Nat.mod_eq_of_lt hj]
     rw [e1, e2]
   have hown : OwnBlk [.own k (l.map enc), .d (.clo g caps)] [.slice (some ⟨b, 0, none⟩) (l.map enc).length c, .func (.func g) #[] cb] b := ⟨0, _, _, rfl, rfl, rfl, by simp [blk]; omega⟩
   refine ⟨[.own k (l'.map enc)], [], _, m, hK l' hpl hpw, ?_, rfl, rfl, ⟨rfl, ?_, ?_⟩, Mem.le_refl m, hmem n os d', fun _ _ _ => rfl, ⟨rfl, rfl, rfl, ?_, ?_, ?_⟩⟩
   · intro rk hrk
     rw [hf, hres] at hrk
     cases hrk
     refine ⟨[.slice (l'.map enc)], ?_, ?_⟩
     · simp [ownKs, RV.all, RV.cells, hkk]
     · simp only [ownKs, if_true, List.nil_append, RK.all, List.map_cons, List.map_nil, RK.kinds, List.flatten_cons, List.flatten_nil, List.append_nil, HasKs, HasK, and_true]
       intro x hx
       obtain ⟨y, hy, rfl⟩ := List.mem_map.1 hx
       exact hks y (hpl.mem_iff.1 hy)
   · intro i r u h2 h3
     cases i with
     | succ i => simp at h2
     | zero =>
       simp [ownVals] at h2 h3
       subst h2 h3
       have hll : (l'.map enc).length = l.length := by simp [hl']
       have := RepR.own (m := m) (w := sortWorldK El.vs k w b 0 n d' os) (B := fun b' => w.heap.size ≤ b' ∨ OwnBlk [.own k (l.map enc), .d (.clo g caps)] [.slice (some ⟨b, 0, none⟩) (l.map enc).length c, .func (.func g) #[] cb] b') (e := k) (xs := l'.map enc) (.inr hown) hmb hrow hc0 (by omega) hcm (by omega) (by simp [Go.Sort.putCells, hasz]) (by
         intro x hx
         obtain ⟨y, hy, rfl⟩ := List.mem_map.1 hx
         exact hlen y) (by
         intro i j x dd u hx hd hu
         have hi : i < l.length := by rw [← hll]; exact (List.getElem?_eq_some_iff.1 hx).1
         simp only [List.getElem?_map, Option.map_eq_some_iff] at hx
         obtain ⟨y, hy, rfl⟩ := hx
         have hj : j < k := by have := (List.getElem?_eq_some_iff.1 hd).1; rw [hlen] at this; exact this
         have hyx : y = (d'[i]!).x := by
           rw [← hgx i hi]
           exact ((List.getElem?_eq_some_iff.1 hy).2).symm
         subst hyx
         have hlt : i * k + j < l.length * k := by
           have h1 : (i + 1) * k ≤ l.length * k := Nat.mul_le_mul_right _ (by omega)
           rw [Nat.succ_mul] at h1
           omega
         simp only [Go.Sort.putCells, Array.getElem?_mapIdx, size_flatK, hs', Option.map_eq_some_iff] at hu
         obtain ⟨z, hz, hu⟩ := hu
         rw [if_pos ⟨Nat.zero_le _, by omega⟩, id_eq, Nat.sub_zero, hflt i j hi hj] at hu
         refine (d'[i]!).rep j dd u hd ?_
         rw [← hu, List.getElem!_eq_getElem?_getD, List.getElem?_eq_getElem (by rw [(d'[i]!).len]; exact hj)]
         rfl)
       rw [hll] at this
       exact this
   · intro i j r r' u u' b' hij h2 h3
     exfalso
     have h4 := (List.getElem?_eq_some_iff.1 h2).1
     have h5 := (List.getElem?_eq_some_iff.1 h3).1
     simp at h4 h5
     omega
   · simp [sortWorldK, Sort.grow, putRowK, putRow, mapBlock, Sort.ahead]
   · simp [sortWorldK, Sort.grow, putRowK, putRow, mapBlock, Sort.ahead]
   · intro b' hb' hnb
     refine sortWorldK_other _ _ _ _ _ _ _ _ hb' ?_
     rintro rfl
     exact hnb hown
end Go.Sx.La
set_option maxRecDepth 100000
namespace Go.Sx.La
open Go Go.Sx Go.RowKit Go.Proofs
noncomputable def t86 : R := .guess (.o2 .eq (.o1 .len (.var 0)) (.int .i64 0)) (.ite (.var 1) (.ret [.own 9 .nils]) (.need (.o2 .le (.o1 .len (.o2 .app .nils (.var 0))) (.int .i64 1172812402961)) (.ret [.own 9 (.o2 .app .nils (.var 0))])))
theorem t86_ok : fnO Tryz.prog mdA 86 [.cell (.slice [.str, .str, .slice [.int .i64, .int .i64, .int .i64, .int .i64, .int .i64], .slice [.int .i64, .int .i64, .int .i64, .int .i64, .int .i64, .int .i64], .bool, .bool, .int .i64, .str, .int .i64])] = t86 := by kernel_rfl
theorem c86 : callable Tryz.prog 86 = true := by kernel_rfl
noncomputable def t87 : R := .callX true 152 [.own 9 (.var 3), .d (.fn 153)] [.own [.str, .str, .slice [.int .i64, .int .i64, .int .i64, .int .i64, .int .i64], .slice [.int .i64, .int .i64, .int .i64, .int .i64, .int .i64, .int .i64], .bool, .bool, .int .i64, .str, .int .i64]] (.ret [.d (.lcons (.var 0) (.lcons (.var 1) (.lcons (.var 4) .lnil)))])
theorem t87_ok : fnXO Tryz.prog mdA 87 [.agg liKs, .own cueKs] = t87 := by kernel_rfl
theorem c87 : callable Tryz.prog 87 = true := by kernel_rfl
noncomputable def t153 : R := .call none (.fn 95) [.var 0, .var 9] [.cell (.int .i64)] (.ret [.d (.var 18)])
theorem t153_ok : fnO Tryz.prog mdA 153 [.agg [.str, .str, .slice [.int .i64, .int .i64, .int .i64, .int .i64, .int .i64], .slice [.int .i64, .int .i64, .int .i64, .int .i64, .int .i64, .int .i64], .bool, .bool, .int .i64, .str, .int .i64], .agg [.str, .str, .slice [.int .i64, .int .i64, .int .i64, .int .i64, .int .i64], .slice [.int .i64, .int .i64, .int .i64, .int .i64, .int .i64, .int .i64], .bool, .bool, .int .i64, .str, .int .i64]] = t153 := by kernel_rfl
theorem c153 : callable Tryz.prog 153 = true := by kernel_rfl
noncomputable def t20 : R := .call none (.fn 88) [.lcons (.var 0) (.lcons (.var 1) (.lcons (.var 2) .lnil)), .var 3] [.cell (.int .i64)] (.ite (.o2 .ne (.var 5) (.int .i64 0)) (.ret [.d (.lcons (.int .i64 0) (.lcons (.int .i64 0) (.lcons .nils .lnil))), .d (.var 5)]) (.call none (.fn 23) [.var 4] [.cell (.int .i64)] (.ite (.o2 .ne (.var 6) (.int .i64 0)) (.ret [.d (.lcons (.int .i64 0) (.lcons (.int .i64 0) (.lcons .nils .lnil))), .d (.var 6)]) (.call none (.fn 75) [.lcons (.var 0) (.lcons (.var 1) (.lcons (.var 2) .lnil)), .var 3] [.cell (.int .i64)] (.ite (.o2 .lt (.var 7) (.int .i64 0)) (.ret [.d (.lcons (.int .i64 0) (.lcons (.int .i64 0) (.lcons .nils .lnil))), .d (.int .i64 6)]) (.call (some (.o2 .ne (.var 3) (.var 4))) (.fn 75) [.lcons (.var 0) (.lcons (.var 1) (.lcons (.var 2) .lnil)), .var 4] [.cell (.int .i64)] (.ite (.ite (.o2 .ne (.var 3) (.var 4)) (.o2 .ge (.var 8) (.int .i64 0)) (.bool false)) (.ret [.d (.lcons (.int .i64 0) (.lcons (.int .i64 0) (.lcons .nils .lnil))), .d (.int .i64 7)]) (.call none (.fn 89) [.lcons (.var 0) (.lcons (.var 1) (.lcons (.var 2) .lnil)), .var 3, .var 4] [.agg [.int .i64, .int .i64, .slice [.str, .str, .slice [.int .i64, .int .i64, .int .i64, .int .i64, .int .i64], .slice [.int .i64, .int .i64, .int .i64, .int .i64, .int .i64, .int .i64], .bool, .bool, .int .i64, .str, .int .i64]]] (.ret [.d (.lcons (.var 9) (.lcons (.var 10) (.lcons (.var 11) .lnil))), .d (.int .i64 0)])))))))))
theorem withCmp_ok : Contract Tryz.prog 153 fun args K => ∃ (a b : Cue), a.Ok ∧ b.Ok ∧ args = [.agg a.enc, .agg b.enc] ∧ K [.d (.int .i64 (comp a.num b.num))] := by
 refine .of c153 t153_ok ?_
 rintro _ K ⟨a, b, ha, hb, rfl, hK⟩ hsm
 refine ⟨a.enc ++ b.enc, rfl, by exact (Cue.has ha).append (Cue.has hb), ?_⟩
 refine denR_call compare_ok ⟨a.num, b.num, rfl, _, rfl, ?_⟩
 simp only [zz, RT.den, den, O1.eval, O2.eval, D.eqb, reduceCtorEq, D.sub, D.cell, D.elem, D.cells, D.padd, D.list, D.push, Cue.enc]
 exact hK
theorem cue_flat (c : Cue) : ∀ d ∈ c.enc, D.flat d = true := by
 intro d hd
 simp only [Cue.enc, List.mem_cons, List.not_mem_nil, or_false] at hd
 rcases hd with rfl | rfl | rfl | rfl | rfl | rfl | rfl | rfl | rfl <;> rfl
theorem sort152_ok : ContractX Tryz.prog 152 [.own cueKs, .cell .fn] true fun args K => ∃ (l : List Cue) (g : FuncId) (caps : List D) (key : Cue → Int) (cf : Cue → Cue → Int) (sf : Spec), l ≠ [] ∧ (∀ x ∈ l, HasKs cueKs (Cue.enc x)) ∧ args = [.own 9 (l.map Cue.enc), .d (.clo g caps)] ∧ FvC Tryz.prog (.clo g caps) sf ∧
     (∀ x ∈ l, ∀ y ∈ l, (cf x y < 0 ↔ key x < key y) ∧ sf [.agg (Cue.enc x), .agg (Cue.enc y)] fun rs => rs = [.d (.int .i64 (cf x y))]) ∧ ∀ l' : List Cue, l'.Perm l → l'.Pairwise (fun a b => key a ≤ key b) → K [.own 9 (l'.map Cue.enc)] :=
 sort_ok (X := Cue) (enc := Cue.enc) (ks := cueKs) (k := 9) Tryz.sort152 (by kernel_rfl) (by kernel_rfl) rfl (by omega) cue_flat (fun _ => rfl) (fun w => by kernel_rfl) (fun w => by kernel_rfl) (by kernel_rfl)
theorem with_ok : ContractX Tryz.prog 87 [.agg liKs, .own cueKs] false fun args K => ∃ (l : Lis) (cs : List Cue), l.Ok ∧ (∀ c ∈ cs, c.Ok) ∧ (∀ c ∈ cs, check05 c.num = 0) ∧ cs ≠ [] ∧ args = [.d (.agg l.enc), .own 9 (cs.map Cue.enc)] ∧
   ∀ cs' : List Cue, cs'.Perm cs → cs'.Pairwise (fun a b => valOf a ≤ valOf b) → K [.d (.agg (Lis.enc { l with cues := cs' }))] := by
 refine .of c87 t87_ok ?_
 rintro _ K ⟨l, cs, hl, hcs, hnum, hne, rfl, hK⟩
 refine ⟨l.enc ++ [.slice (cs.map Cue.enc)], rfl, by exact has_li hl ⟨cues_has hcs, trivial⟩, ?_⟩
 unfold t87
 simp only [denR]
 refine ⟨[.own cueKs, .cell .fn], _, sort152_ok, ⟨[.slice (cs.map Cue.enc), .clo 153 []], rfl, ⟨cues_has hcs, trivial, trivial⟩⟩, fun _ => rfl, ?_⟩
 refine ⟨cs, 153, [], valOf, fun a b => comp a.num b.num, fun as_ K => ∃ a b : Cue, a.Ok ∧ b.Ok ∧ as_ = [.agg a.enc, .agg b.enc] ∧ K [.d (.int .i64 (comp a.num b.num))], hne, fun c hc => Cue.has (hcs c hc), rfl, FvC.of c153 withCmp_ok ?_, ?_, ?_⟩
 · rintro _ K ⟨a, b, ha, hb, rfl, hK⟩
   refine ⟨⟨a, b, ha, hb, rfl, hK⟩, argsTyped_of [some (.agg cueKs), some (.agg cueKs)] (by kernel_rfl) ?_⟩
   intro i rk d h1 h2
   match i, h1, h2 with
   | 0, h1, h2 => simp at h1 h2; subst h1 h2; exact Cue.has ha
   | 1, h1, h2 => simp at h1 h2; subst h1 h2; exact Cue.has hb
 · intro a ha b hb
   refine ⟨?_, a, b, hcs a ha, hcs b hb, rfl, rfl⟩
   show comp a.num b.num < 0 ↔ _
   rw [comp_order (hnum a ha) (hnum b hb)]
   exact order_neg _ _
 · intro cs' hp hs
   refine ⟨[.slice (cs'.map Cue.enc)], rfl, ?_⟩
   simp only [zz, RT.den, den, O1.eval, O2.eval, D.eqb, reduceCtorEq, D.sub, D.cell, D.elem, D.cells, D.padd, D.list, D.push, Lis.enc, D.list]
   exact hK cs' hp hs
def relink (f t : List UInt8) (c : Cue) : Cue := { c with link := if c.link = f then t else c.link }
def renum (t : List UInt8) (c : Cue) : Cue := { c with num := t }
def renumbered (cs : List Cue) (f t : List UInt8) : List Cue := placed (without (cs.map (relink f t)) f) (renum t ((cs.map (relink f t))[(place cs f).toNat]!))
def zeroL : Lis := ⟨0, 0, []⟩
def renumRef (l : Lis) (f t : List UInt8) : Lis × Int :=
 if given17 l f ≠ 0 then (zeroL, given17 l f) else if check05 t ≠ 0 then (zeroL, check05 t) else if place l.cues f < 0 then (zeroL, 6) else if f ≠ t ∧ 0 ≤ place l.cues t then (zeroL, 7) else ({ l with cues := renumbered l.cues f t }, 0)
end Go.Sx.La
set_option maxRecDepth 100000
namespace Go.Sx.La
open Go Go.Sx Go.RowKit Go.Proofs
theorem split_at {X : Type} {cs : List X} {j : Nat} (hj : j < cs.length) : cs = cs.take j ++ cs[j] :: cs.drop (j + 1) := by
 rw [← List.drop_eq_getElem_cons hj, List.take_append_drop]
theorem rising_ne {cs : List Cue} (h : Rising cs) {i j : Nat} (hi : i < cs.length) (hj : j < cs.length) (hne : i ≠ j) : valOf cs[i] ≠ valOf cs[j] := by
 rw [Rising, List.pairwise_iff_getElem] at h
 rcases Nat.lt_or_gt_of_ne hne with h1 | h1
 · have := h i j hi hj h1; omega
 · have := h j i hj hi h1; omega
theorem without_at {cs : List Cue} (hr : Rising cs) {f : List UInt8} {j : Nat} (hj : j < cs.length) (hf : (cs[j]).num = f) : without cs f = cs.take j ++ cs.drop (j + 1) := by
 have keep : ∀ {xs : List Cue}, (∀ x ∈ xs, valOf x ≠ value05 f) → without xs f = xs := by
   intro xs h
   refine List.filter_eq_self.2 fun x hx => ?_
   have := h x hx
   simp only [valOf] at this
   simp only [Bool.not_eq_true', beq_eq_false_iff_ne, ne_eq]
   intro e; exact this (by rw [e])
 have ev : valOf cs[j] = value05 f := by simp [valOf, hf]
 have h1 : without (cs.take j) f = cs.take j := keep fun x hx => by
   obtain ⟨i, hi, rfl⟩ := List.mem_iff_getElem.1 hx
   rw [List.length_take] at hi
   rw [List.getElem_take, ← ev]
   exact rising_ne hr (by omega) hj (by omega)
 have h2 : without (cs.drop (j + 1)) f = cs.drop (j + 1) := keep fun x hx => by
   obtain ⟨i, hi, rfl⟩ := List.mem_iff_getElem.1 hx
   rw [List.length_drop] at hi
   rw [List.getElem_drop, ← ev]
   exact rising_ne hr (by omega) hj (by omega)
 conv => lhs; rw [split_at hj]
 simp only [without, List.filter_append, List.filter_cons] at h1 h2 ⊢
 rw [h1, h2]
 simp [hf]
end Go.Sx.La
set_option maxRecDepth 100000
namespace Go.Sx.La
open Go Go.Sx Go.RowKit Go.Proofs
def setLink (t : List UInt8) (c : Cue) : Cue := { c with link := t }
def ReI (out : List Cue) (f t : List UInt8) (i : Nat) (a : List Cue) : Prop := a = (out.take i).map (relink f t) ++ out.drop i
theorem denR_callX {P : Program} {F : Option Nat → List RV → Prop} {upd : Bool} {f : FuncId} {args : List RT} {res : List RK} {r : R} {ags : Ags} {ρ : List D} {pk : List PK} {s : SpecX} (hc : ContractX P f pk upd s) (h1 : ∃ τ, pkRhoX pk (args.map (RT.den ρ)) = some τ ∧ HasKs (pkKinds pk) τ) (h2 : upd = true → res.drop (fnTypes P f).length = ownKs pk)
   (h : s (args.map (RT.den ρ)) fun rvs => ∃ rs, RV.all res rvs = some rs ∧ denR P F noK r ags (ρ ++ rs)) : denR P F noK (.callX upd f args res r) ags ρ := ⟨pk, s, hc, h1, h2, h⟩
end Go.Sx.La
set_option maxRecDepth 100000
namespace Go.Sx.La
open Go Go.Sx Go.RowKit Go.Proofs
theorem denR_iteT {P : Program} {F : Option Nat → List RV → Prop} {t : T} {a b : R} {ags : Ags} {ρ : List D} (h : den ρ t = .bool true) (ha : denR P F noK a ags ρ) : denR P F noK (.ite t a b) ags ρ := ⟨fun _ => ha, fun h' => by rw [h] at h'; cases h'⟩
theorem denR_iteF {P : Program} {F : Option Nat → List RV → Prop} {t : T} {a b : R} {ags : Ags} {ρ : List D} (h : den ρ t = .bool false) (hb : denR P F noK b ags ρ) : denR P F noK (.ite t a b) ags ρ := ⟨fun h' => absurd (h.symm.trans h') (by simp), fun _ => hb⟩
def tc (n l : List UInt8) : Cue := ⟨n, [], [], [⟨0, 0, 0, 0, 0, 0⟩], false, false, -1, l, 0⟩
def three : Lis := ⟨1, 0, [tc [49] [], tc [50, 46, 53] [49], tc [51] [52]]⟩
end Go.Sx.La
set_option maxRecDepth 100000
namespace Go.Sx.La
open Go Go.Sx Go.RowKit Go.Proofs
noncomputable def t63 : R := .fact (.o2 .le (.o1 .len (.var 0)) (.int .i64 140737488355328)) (.fact (.ite (.o2 .le (.o1 .len (.var 0)) (.int .i64 40)) (.o2 .le (.o1 .len (.var 1)) (.int .i64 140737488355328)) (.bool true)) (.fact (.ite (.ite (.o2 .le (.o1 .len (.var 0)) (.int .i64 40)) (.o2 .le (.o1 .len (.var 1)) (.int .i64 100)) (.bool false)) (.o2 .le (.o1 .len (.var 7)) (.int .i64 140737488355328)) (.bool true)) (.fact (.ite (.ite (.ite (.o2 .le (.o1 .len (.var 0)) (.int .i64 40)) (.o2 .le (.o1 .len (.var 1)) (.int .i64 100)) (.bool false)) (.o2 .le (.o1 .len (.var 7)) (.int .i64 40)) (.bool false)) (.o2 .le (.o1 .len (.var 3)) (.int .i64 140737488355328)) (.bool true)) (.call (some (.ite (.ite (.ite (.o2 .le (.o1 .len (.var 0)) (.int .i64 40)) (.o2 .le (.o1 .len (.var 1)) (.int .i64 100)) (.bool false)) (.o2 .le (.o1 .len (.var 7)) (.int .i64 40)) (.bool false)) (.o2 .le (.o1 .len (.var 3)) (.int .i64 10)) (.bool false))) (.fn 129) [.var 2] [.cell .bool] (.ret [.d (.ite (.ite (.ite (.ite (.o2 .le (.o1 .len (.var 0)) (.int .i64 40)) (.o2 .le (.o1 .len (.var 1)) (.int .i64 100)) (.bool false)) (.o2 .le (.o1 .len (.var 7)) (.int .i64 40)) (.bool false)) (.o2 .le (.o1 .len (.var 3)) (.int .i64 10)) (.bool false)) (.var 9) (.bool false))])))))
theorem t63_ok : fnO Tryz.prog mdA 63 [.agg [.str, .str, .slice [.int .i64, .int .i64, .int .i64, .int .i64, .int .i64], .slice [.int .i64, .int .i64, .int .i64, .int .i64, .int .i64, .int .i64], .bool, .bool, .int .i64, .str, .int .i64]] = t63 := by kernel_rfl
theorem c63 : callable Tryz.prog 63 = true := by kernel_rfl
noncomputable def t17 : R := .fact (.o2 .le (.o1 .len (.var 2)) (.int .i64 140737488355328)) (.ite (.o2 .gt (.o1 .len (.var 2)) (.int .i64 128)) (.ret [.d (.bool false)]) (.loop 0 [.int .i64 0] [.int .i64] (.ite (.o2 .lt (.var 3) (.o1 .len (.var 2))) (.need (.o2 .le (.int .i64 0) (.var 3)) (.call none (.fn 63) [.lcons (.idx (.var 2) (.var 3) 0 .str) (.lcons (.idx (.var 2) (.var 3) 1 .str) (.lcons (.idx (.var 2) (.var 3) 2 (.slice [.int .i64, .int .i64, .int .i64, .int .i64, .int .i64])) (.lcons (.idx (.var 2) (.var 3) 3 (.slice [.int .i64, .int .i64, .int .i64, .int .i64, .int .i64, .int .i64])) (.lcons (.idx (.var 2) (.var 3) 4 .bool) (.lcons (.idx (.var 2) (.var 3) 5 .bool) (.lcons (.idx (.var 2) (.var 3) 6 (.int .i64)) (.lcons (.idx (.var 2) (.var 3) 7 .str) (.lcons (.idx (.var 2) (.var 3) 8 (.int .i64)) .lnil))))))))] [.cell .bool] (.ite (.o1 .not (.var 4)) (.ret [.d (.bool false)]) (.again 0 [.o2 (.add .i64) (.var 3) (.int .i64 1)])))) (.ret [.d (.bool true)]))))
theorem t17_ok : fnO Tryz.prog mdA 17 [.agg [.int .i64, .int .i64, .slice [.str, .str, .slice [.int .i64, .int .i64, .int .i64, .int .i64, .int .i64], .slice [.int .i64, .int .i64, .int .i64, .int .i64, .int .i64, .int .i64], .bool, .bool, .int .i64, .str, .int .i64]]] = t17 := by kernel_rfl
theorem c17 : callable Tryz.prog 17 = true := by kernel_rfl
noncomputable def t28 : R := .call none (.fn 84) [.lcons (.var 0) (.lcons (.var 1) (.lcons (.var 2) .lnil)), .push .nils (.lcons (.var 3) .lnil)] [.cell (.int .i64)] (.ite (.o2 .ne (.var 4) (.int .i64 0)) (.ret [.d (.int .i64 0), .d (.bool false), .d (.var 4)]) (.call none (.fn 85) [.lcons (.var 0) (.lcons (.var 1) (.lcons (.var 2) .lnil)), .var 3] [.cell (.int .i64)] (.ret [.d (.ite (.o2 .gt (.int .i64 0) (.var 5)) (.int .i64 0) (.var 5)), .d (.o2 .ge (.var 5) (.int .i64 0)), .d (.int .i64 0)])))
theorem t28_ok : fnO Tryz.prog mdA 28 [.agg [.int .i64, .int .i64, .slice [.str, .str, .slice [.int .i64, .int .i64, .int .i64, .int .i64, .int .i64], .slice [.int .i64, .int .i64, .int .i64, .int .i64, .int .i64, .int .i64], .bool, .bool, .int .i64, .str, .int .i64]], .cell .str] = t28 := by kernel_rfl
theorem c28 : callable Tryz.prog 28 = true := by kernel_rfl
noncomputable def t37 : R := .call none (.fn 25) [.lcons (.var 0) (.lcons (.var 1) (.lcons (.var 2) .lnil))] [.cell (.int .i64)] (.ite (.o2 .ne (.var 3) (.int .i64 0)) (.ret [.d (.str []), .d (.bool false), .d (.var 3)]) (.call none (.fn 98) [.lcons (.var 0) (.lcons (.var 1) (.lcons (.var 2) .lnil))] [.cell .fn] (.call none (.fn 97) [.var 4, .fn 108] [.cell .str, .cell .bool, .cell (.int .i64)] (.ret [.d (.var 5), .d (.var 6), .d (.var 7)]))))
def few16 (c : Cue) : Bool := decide (c.num.length ≤ 40) && decide (c.label.length ≤ 100) && decide (c.link.length ≤ 40) && decide (c.parts.length ≤ 10) && fewMoves c.moves
theorem few16_ok : Contract Tryz.prog 63 fun args K => ∃ c : Cue, c.Ok ∧ args = [.agg c.enc] ∧ K [.d (.bool (few16 c))] := by
 refine .of c63 t63_ok ?_
 rintro _ K ⟨c, hc, rfl, hK⟩ hsm
 refine ⟨c.enc, rfl, Cue.has hc, ?_⟩
 simp only [few16] at hK
 simp only [zz, RT.den, den, O1.eval, O2.eval, D.eqb, reduceCtorEq, D.sub, D.cell, D.elem, D.cells, D.padd, D.list, D.push, t63, Cue.enc, List.length_map]
 intro _ _ _ _
 refine denR_gcall fewMoves_ok (decide (c.num.length ≤ 40) && decide (c.label.length ≤ 100) && decide (c.link.length ≤ 40) && decide (c.parts.length ≤ 10)) [.bool (decide (c.num.length ≤ 40) && decide (c.label.length ≤ 100) && decide (c.link.length ≤ 40) && decide (c.parts.length ≤ 10) && fewMoves c.moves)] ?_ (fun h => ⟨c.moves, hc.moves, rfl, ?_⟩) (fun h => ?_) ?_
 · simp only [zz, RT.den, den, O1.eval, O2.eval, D.eqb, reduceCtorEq, D.sub, D.cell, D.elem, D.cells, D.padd, D.list, D.push, List.length_map]
   by_cases h1 : c.num.length ≤ 40 <;> by_cases h2 : c.label.length ≤ 100 <;> by_cases h3 : c.link.length ≤ 40 <;> by_cases h4 : c.parts.length ≤ 10 <;> simp [h1, h2, h3, h4] <;> omega
 · rw [h]; rfl
 · rw [h]; rfl
 · simp only [zz, RT.den, den, O1.eval, O2.eval, D.eqb, reduceCtorEq, D.sub, D.cell, D.elem, D.cells, D.padd, D.list, D.push, List.length_map]
   revert hK
   by_cases h1 : c.num.length ≤ 40 <;> by_cases h2 : c.label.length ≤ 100 <;> by_cases h3 : c.link.length ≤ 40 <;> by_cases h4 : c.parts.length ≤ 10 <;> simp [h1, h2, h3, h4] <;> grind
def fewGo : List Cue → Bool
 | [] => true
 | c :: cs => if few16 c then fewGo cs else false
def few17 (l : Lis) : Bool := if 128 < l.cues.length then false else fewGo l.cues
theorem few17_ok : Contract Tryz.prog 17 fun args K => ∃ l : Lis, l.Ok ∧ args = [.agg l.enc] ∧ K [.d (.bool (few17 l))] := by
 refine .of c17 t17_ok ?_
 rintro _ K ⟨l, hl, rfl, hK⟩ hsm
 refine ⟨l.enc, rfl, Lis.has hl, ?_⟩
 simp only [few17] at hK
 simp only [zz, RT.den, den, O1.eval, O2.eval, D.eqb, reduceCtorEq, D.sub, D.cell, D.elem, D.cells, D.padd, D.list, D.push, t17, Lis.enc, List.length_map]
 refine fun hcap => ⟨fun h => by rw [if_pos (by omega)] at hK; exact hK, fun h => ?_⟩
 rw [if_neg (by omega)] at hK
 refine loop_go l.cues (fun i l' (_ : Unit) => fewGo l') (fun i _ => [.int .i64 i]) () _ rfl 0 (fun _ _ => rfl) rfl ?_ ?_
 · intro i hi _ hgo
   simp only [fewGo] at hgo
   simp only [zz, RT.den, den, O1.eval, O2.eval, D.eqb, reduceCtorEq, D.sub, D.cell, D.elem, D.cells, D.padd, D.list, D.push, hi, List.length_map]
   refine ⟨by omega, denR_call few16_ok ⟨l.cues[i], hl.cues _ (List.getElem_mem hi), by simp only [zz, RT.den, den, O1.eval, O2.eval, D.eqb, reduceCtorEq, D.sub, D.cell, D.elem, D.cells, D.padd, D.list, D.push, getD_map hi, Cue.enc], _, rfl, ?_⟩⟩
   simp only [zz, RT.den, den, O1.eval, O2.eval, D.eqb, reduceCtorEq, D.sub, D.cell, D.elem, D.cells, D.padd, D.list, D.push]
   cases hf : few16 l.cues[i]
   · rw [hf] at hgo; rw [← hgo] at hK
     exact ⟨fun _ => hK, fun h => by simp at h⟩
   · rw [hf] at hgo
     exact ⟨fun h => by simp at h, fun _ => ⟨(), by rw [wr64_eq] <;> omega, hgo⟩⟩
 · intro _ hgo
   simp only [fewGo] at hgo
   simp only [zz, RT.den, den, O1.eval, O2.eval, D.eqb, reduceCtorEq, D.sub, D.cell, D.elem, D.cells, D.padd, D.list, D.push, List.length_map]
   rw [← hgo] at hK
   exact hK
theorem checkedL_one (l : Lis) (s : List UInt8) : checkedL l [s] = given17 l s := by
 simp only [checkedL, given17, checkedGo]
 split
 · rfl
 · split
   · rfl
   · rename_i h; exact (by simpa using h : check05 s = 0).symm
def findR (l : Lis) (s : List UInt8) : Int × Bool × Int := if given17 l s ≠ 0 then (0, false, given17 l s) else (if place l.cues s < 0 then 0 else place l.cues s, decide (0 ≤ place l.cues s), 0)
theorem findR_ok : Contract Tryz.prog 28 fun args K => ∃ (l : Lis) (s : List UInt8), l.Ok ∧ args = [.agg l.enc, .str s] ∧ K [.d (.int .i64 (findR l s).1), .d (.bool (findR l s).2.1), .d (.int .i64 (findR l s).2.2)] := by
 refine .of c28 t28_ok ?_
 rintro _ K ⟨l, s, hl, rfl, hK⟩ hsm
 refine ⟨l.enc ++ [.str s], rfl, by exact has_s hl, ?_⟩
 refine denR_call checked_ok ⟨l, [s], hl, rfl, _, rfl, ?_⟩
 simp only [findR] at hK
 simp only [zz, RT.den, den, O1.eval, O2.eval, D.eqb, reduceCtorEq, D.sub, D.cell, D.elem, D.cells, D.padd, D.list, D.push, Lis.enc, checkedL_one]
 refine ⟨fun h => ?_, fun h => ?_⟩
 · rw [if_pos (by simpa using h)] at hK; exact hK
 · rw [if_neg (by simpa using h)] at hK
   refine denR_call place_ok ⟨l, s, hl, rfl, _, rfl, ?_⟩
   simp only [zz, RT.den, den, O1.eval, O2.eval, D.eqb, reduceCtorEq, D.sub, D.cell, D.elem, D.cells, D.padd, D.list, D.push]
   exact hK
def afterR (l : Lis) (s : List UInt8) : List UInt8 × Bool × Int := if given17 l s ≠ 0 then ([], false, given17 l s) else ((pick ((names l).find? fun x => decide (0 < order05 x s))).1, (pick ((names l).find? fun x => decide (0 < order05 x s))).2, 0)
def beforeR (l : Lis) (s : List UInt8) : List UInt8 × Bool × Int := if given17 l s ≠ 0 then ([], false, given17 l s) else ((pick ((names l).reverse.find? fun x => decide (order05 x s < 0))).1, (pick ((names l).reverse.find? fun x => decide (order05 x s < 0))).2, 0)
def uses (c : Cue) (p : Int) : Bool := c.moves.any fun m => decide (0 < m.va.pal) && decide (m.va.pal = p)
def refersL (cs : List Cue) (p : Int) : List (List UInt8) := (cs.filter fun c => uses c p).map (·.num)
def refersR (l : Lis) (p : Int) : List (List UInt8) × Int := if checkL order05 l ≠ 0 then ([], checkL order05 l) else (refersL l.cues p, 0)
def usesGo (p : Int) : List Mov → Bool
 | [] => false
 | m :: ms => if 0 < m.va.pal ∧ m.va.pal = p then true else usesGo p ms
end Go.Sx.La
set_option maxRecDepth 100000
namespace Go.Sx.La
open Go Go.Sx Go.RowKit Go.Proofs
theorem checkL_of {l : Lis} (h0 : ¬ (l.num < 1 ∨ 1048576 < l.num ∨ l.prio < 0 ∨ 9 < l.prio)) (h1 : l.cues.length ≤ 64) (h2 : ∀ c ∈ l.cues, check16 c = 0) (h3 : Rising l.cues) : checkL order05 l = 0 := by
 have key : ∀ (cs : List Cue) (i : Nat), cs = l.cues.drop i → cuesGo order05 l.cues i cs = 0 := by
   intro cs
   induction cs with
   | nil => intro i _; rfl
   | cons c cs ih =>
     intro i he
     have hlt : i < l.cues.length := by
       rcases Nat.lt_or_ge i l.cues.length with h | h
       · exact h
       · rw [List.drop_eq_nil_of_le h] at he; cases he
     rw [List.drop_eq_getElem_cons hlt] at he
     obtain ⟨rfl, rfl⟩ := List.cons.inj he
     simp only [cuesGo]
     rw [if_neg (by simp [h2 _ (List.getElem_mem hlt)]), if_neg ?_]
     · exact ih (i + 1) rfl
     · rintro ⟨hi, ho⟩
       rw [getElem!_pos l.cues (i - 1) (by omega)] at ho
       rw [Rising, List.pairwise_iff_getElem] at h3
       have := h3 (i - 1) i (by omega) hlt (by omega)
       have := (order_neg _ _).2 this
       omega
 simp only [checkL]
 rw [if_neg h0, if_neg (by omega)]
 exact key l.cues 0 rfl
theorem head_of {l : Lis} (h : checkL order05 l = 0) : ¬ (l.num < 1 ∨ 1048576 < l.num ∨ l.prio < 0 ∨ 9 < l.prio) := by
 simp only [checkL] at h
 split at h
 · cases h
 · assumption
end Go.Sx.La
