/-
  Contracts: lists of cues, the reference of layer 17.
-/
import Derived.Test.YtieoaedbfdmocaaGreatDoorQLa
import Derived.Test.YtieoaedbfdmocaaGreatDoorQFr
import Derived.Test.YtieoaedbfdmocaaGreatDoorSort
import Derived.Shelf.SlSortCmp.WholeK
set_option linter.unusedSimpArgs false
set_option linter.unusedVariables false
set_option linter.unusedSectionVars false
set_option linter.defProp false
set_option maxRecDepth 100000
set_option maxRecDepth 100000
namespace Go.Sx.La
open Go Go.Sx Go.RowKit Go.Proofs
noncomputable def t76 : R := .ret [.d (.lcons (.var 0) (.lcons (.var 1) (.lcons (.var 3) .lnil)))]
theorem t76_ok : fnO Tryz.prog mdA 76 [.agg [.int .i64, .int .i64, .slice [.str, .str, .slice [.int .i64, .int .i64, .int .i64, .int .i64, .int .i64], .slice [.int .i64, .int .i64, .int .i64, .int .i64, .int .i64, .int .i64], .bool, .bool, .int .i64, .str, .int .i64]], .cell (.slice [.str, .str, .slice [.int .i64, .int .i64, .int .i64, .int .i64, .int .i64], .slice [.int .i64, .int .i64, .int .i64, .int .i64, .int .i64, .int .i64], .bool, .bool, .int .i64, .str, .int .i64])] = t76 := by kernel_rfl
theorem c76 : callable Tryz.prog 76 = true := by kernel_rfl
noncomputable def t133 : R := .loop 0 [.nils, .int .i64 0] [.slice [.str, .str, .slice [.int .i64, .int .i64, .int .i64, .int .i64, .int .i64], .slice [.int .i64, .int .i64, .int .i64, .int .i64, .int .i64, .int .i64], .bool, .bool, .int .i64, .str, .int .i64], .int .i64] (.fact (.o2 .le (.o1 .len (.var 2)) (.int .i64 140737488355328)) (.ite (.o2 .lt (.var 5) (.o1 .len (.var 2))) (.need (.o2 .le (.int .i64 0) (.var 5)) (.need (.ite (.o2 .ne (.idx (.var 2) (.var 5) 0 .str) (.var 3)) (.o2 .le (.o1 .len (.o2 .app (.var 4) (.push .nils (.lcons (.idx (.var 2) (.var 5) 0 .str) (.lcons (.idx (.var 2) (.var 5) 1 .str) (.lcons (.idx (.var 2) (.var 5) 2 (.slice [.int .i64, .int .i64, .int .i64, .int .i64, .int .i64])) (.lcons (.idx (.var 2) (.var 5) 3 (.slice [.int .i64, .int .i64, .int .i64, .int .i64, .int .i64, .int .i64])) (.lcons (.idx (.var 2) (.var 5) 4 .bool) (.lcons (.idx (.var 2) (.var 5) 5 .bool) (.lcons (.idx (.var 2) (.var 5) 6 (.int .i64)) (.lcons (.idx (.var 2) (.var 5) 7 .str) (.lcons (.idx (.var 2) (.var 5) 8 (.int .i64)) .lnil)))))))))))) (.int .i64 1172812402961)) (.bool true)) (.lets [.ite (.o2 .ne (.idx (.var 2) (.var 5) 0 .str) (.var 3)) (.o2 .app (.var 4) (.push .nils (.lcons (.idx (.var 2) (.var 5) 0 .str) (.lcons (.idx (.var 2) (.var 5) 1 .str) (.lcons (.idx (.var 2) (.var 5) 2 (.slice [.int .i64, .int .i64, .int .i64, .int .i64, .int .i64])) (.lcons (.idx (.var 2) (.var 5) 3 (.slice [.int .i64, .int .i64, .int .i64, .int .i64, .int .i64, .int .i64])) (.lcons (.idx (.var 2) (.var 5) 4 .bool) (.lcons (.idx (.var 2) (.var 5) 5 .bool) (.lcons (.idx (.var 2) (.var 5) 6 (.int .i64)) (.lcons (.idx (.var 2) (.var 5) 7 .str) (.lcons (.idx (.var 2) (.var 5) 8 (.int .i64)) .lnil))))))))))) (.var 4)] (.again 0 [.var 6, .o2 (.add .i64) (.var 5) (.int .i64 1)])))) (.call none (.fn 76) [.lcons (.var 0) (.lcons (.var 1) (.lcons (.var 2) .lnil)), .var 4] [.agg [.int .i64, .int .i64, .slice [.str, .str, .slice [.int .i64, .int .i64, .int .i64, .int .i64, .int .i64], .slice [.int .i64, .int .i64, .int .i64, .int .i64, .int .i64, .int .i64], .bool, .bool, .int .i64, .str, .int .i64]]] (.ret [.d (.lcons (.var 6) (.lcons (.var 7) (.lcons (.var 8) .lnil)))]))))
theorem t133_ok : fnO Tryz.prog mdA 133 [.agg [.int .i64, .int .i64, .slice [.str, .str, .slice [.int .i64, .int .i64, .int .i64, .int .i64, .int .i64], .slice [.int .i64, .int .i64, .int .i64, .int .i64, .int .i64, .int .i64], .bool, .bool, .int .i64, .str, .int .i64]], .cell .str] = t133 := by kernel_rfl
theorem c133 : callable Tryz.prog 133 = true := by kernel_rfl
noncomputable def t131 : R := .loop 0 [.nils, .bool false, .int .i64 0] [.slice [.str, .str, .slice [.int .i64, .int .i64, .int .i64, .int .i64, .int .i64], .slice [.int .i64, .int .i64, .int .i64, .int .i64, .int .i64, .int .i64], .bool, .bool, .int .i64, .str, .int .i64], .bool, .int .i64] (.fact (.o2 .le (.o1 .len (.var 2)) (.int .i64 140737488355328)) (.ite (.o2 .lt (.var 14) (.o1 .len (.var 2))) (.need (.o2 .le (.int .i64 0) (.var 14)) (.call none (.fn 109) [.idx (.var 2) (.var 14) 0 .str, .var 3] [.cell (.int .i64)] (.need (.ite (.ite (.o1 .not (.var 13)) (.o2 .ge (.var 15) (.int .i64 0)) (.bool false)) (.o2 .le (.o1 .len (.o2 .app (.var 12) (.push .nils (.lcons (.var 3) (.lcons (.var 4) (.lcons (.var 5) (.lcons (.var 6) (.lcons (.var 7) (.lcons (.var 8) (.lcons (.var 9) (.lcons (.var 10) (.lcons (.var 11) .lnil)))))))))))) (.int .i64 1172812402961)) (.bool true)) (.lets [.ite (.ite (.o1 .not (.var 13)) (.o2 .ge (.var 15) (.int .i64 0)) (.bool false)) (.o2 .app (.var 12) (.push .nils (.lcons (.var 3) (.lcons (.var 4) (.lcons (.var 5) (.lcons (.var 6) (.lcons (.var 7) (.lcons (.var 8) (.lcons (.var 9) (.lcons (.var 10) (.lcons (.var 11) .lnil))))))))))) (.var 12), .ite (.ite (.o1 .not (.var 13)) (.o2 .ge (.var 15) (.int .i64 0)) (.bool false)) (.bool true) (.var 13)] (.need (.ite (.o2 .ne (.var 15) (.int .i64 0)) (.o2 .le (.o1 .len (.o2 .app (.var 16) (.push .nils (.lcons (.idx (.var 2) (.var 14) 0 .str) (.lcons (.idx (.var 2) (.var 14) 1 .str) (.lcons (.idx (.var 2) (.var 14) 2 (.slice [.int .i64, .int .i64, .int .i64, .int .i64, .int .i64])) (.lcons (.idx (.var 2) (.var 14) 3 (.slice [.int .i64, .int .i64, .int .i64, .int .i64, .int .i64, .int .i64])) (.lcons (.idx (.var 2) (.var 14) 4 .bool) (.lcons (.idx (.var 2) (.var 14) 5 .bool) (.lcons (.idx (.var 2) (.var 14) 6 (.int .i64)) (.lcons (.idx (.var 2) (.var 14) 7 .str) (.lcons (.idx (.var 2) (.var 14) 8 (.int .i64)) .lnil)))))))))))) (.int .i64 1172812402961)) (.bool true)) (.lets [.ite (.o2 .ne (.var 15) (.int .i64 0)) (.o2 .app (.var 16) (.push .nils (.lcons (.idx (.var 2) (.var 14) 0 .str) (.lcons (.idx (.var 2) (.var 14) 1 .str) (.lcons (.idx (.var 2) (.var 14) 2 (.slice [.int .i64, .int .i64, .int .i64, .int .i64, .int .i64])) (.lcons (.idx (.var 2) (.var 14) 3 (.slice [.int .i64, .int .i64, .int .i64, .int .i64, .int .i64, .int .i64])) (.lcons (.idx (.var 2) (.var 14) 4 .bool) (.lcons (.idx (.var 2) (.var 14) 5 .bool) (.lcons (.idx (.var 2) (.var 14) 6 (.int .i64)) (.lcons (.idx (.var 2) (.var 14) 7 .str) (.lcons (.idx (.var 2) (.var 14) 8 (.int .i64)) .lnil))))))))))) (.var 16)] (.again 0 [.var 18, .var 17, .o2 (.add .i64) (.var 14) (.int .i64 1)]))))))) (.need (.ite (.o1 .not (.var 13)) (.o2 .le (.o1 .len (.o2 .app (.var 12) (.push .nils (.lcons (.var 3) (.lcons (.var 4) (.lcons (.var 5) (.lcons (.var 6) (.lcons (.var 7) (.lcons (.var 8) (.lcons (.var 9) (.lcons (.var 10) (.lcons (.var 11) .lnil)))))))))))) (.int .i64 1172812402961)) (.bool true)) (.lets [.ite (.o1 .not (.var 13)) (.o2 .app (.var 12) (.push .nils (.lcons (.var 3) (.lcons (.var 4) (.lcons (.var 5) (.lcons (.var 6) (.lcons (.var 7) (.lcons (.var 8) (.lcons (.var 9) (.lcons (.var 10) (.lcons (.var 11) .lnil))))))))))) (.var 12)] (.call none (.fn 76) [.lcons (.var 0) (.lcons (.var 1) (.lcons (.var 2) .lnil)), .var 15] [.agg [.int .i64, .int .i64, .slice [.str, .str, .slice [.int .i64, .int .i64, .int .i64, .int .i64, .int .i64], .slice [.int .i64, .int .i64, .int .i64, .int .i64, .int .i64, .int .i64], .bool, .bool, .int .i64, .str, .int .i64]]] (.ret [.d (.lcons (.var 16) (.lcons (.var 17) (.lcons (.var 18) .lnil)))]))))))
theorem t131_ok : fnO Tryz.prog mdA 131 [.agg [.int .i64, .int .i64, .slice [.str, .str, .slice [.int .i64, .int .i64, .int .i64, .int .i64, .int .i64], .slice [.int .i64, .int .i64, .int .i64, .int .i64, .int .i64, .int .i64], .bool, .bool, .int .i64, .str, .int .i64]], .agg [.str, .str, .slice [.int .i64, .int .i64, .int .i64, .int .i64, .int .i64], .slice [.int .i64, .int .i64, .int .i64, .int .i64, .int .i64, .int .i64], .bool, .bool, .int .i64, .str, .int .i64]] = t131 := by kernel_rfl
theorem c131 : callable Tryz.prog 131 = true := by kernel_rfl
theorem loop_goI {P : Program} {F : Option Nat → List RV → Prop} {X A B : Type} {l : Nat} {inits : List T} {ks : List Go.Sx.K} {body : R} {ags : Ags} {ρ : List D} (xs : List X) (go : Nat → List X → A → B) (enc : Nat → A → List D) (I : Nat → A → Prop) (a0 : A) (R0 : B) (hR : go 0 xs a0 = R0) (hI : I 0 a0) (p : Nat)
    (hp : ∀ i a, (enc i a)[p]? = some (.int .i64 (i : Nat))) (h0 : inits.map (den ρ) = enc 0 a0)
    (round : ∀ i (hi : i < xs.length) a, I i a → go i (xs[i] :: xs.drop (i + 1)) a = R0 →
      denR P F noK body (setAg ags l fun c ys => c = ags.cnt ∧ ∃ a', ys = enc (i + 1) a' ∧ I (i + 1) a' ∧ go (i + 1) (xs.drop (i + 1)) a' = R0) (ρ ++ enc i a))
    (fin : ∀ a, I xs.length a → go xs.length [] a = R0 → denR P F noK body (setAg ags l fun c ys => False) (ρ ++ enc xs.length a)) : denR P F noK (.loop l inits ks body) ags ρ := by
  simp only [denR]
  refine ⟨fun c ys => c = ags.cnt ∧ ∃ i a, i ≤ xs.length ∧ ys = enc i a ∧ I i a ∧ go i (xs.drop i) a = R0, fun ys => match ys[p]? with | some (.int _ i) => xs.length - i.toNat | _ => 0, ⟨rfl, 0, a0, Nat.zero_le _, h0, hI, by simpa using hR⟩, ?_⟩
  rintro _ _ _ ⟨rfl, i, a, hi, rfl, hIi, hgo⟩
  rw [wc_self]
  have mono : ∀ {q q' : Option Nat → List D → Prop}, (∀ c ys, q c ys → q' c ys) → denR P F noK body (setAg ags l q) (ρ ++ enc i a) → denR P F noK body (setAg ags l q') (ρ ++ enc i a) := fun {q q'} h hd => denR_inv _ (a := setAg ags l q) (a' := setAg ags l q') (fun n c ys => by
    simp only [setAg]
    split
    · exact h c ys
    · exact id) rfl rfl hd
  rcases Nat.lt_or_ge i xs.length with hlt | hge
  · rw [List.drop_eq_getElem_cons hlt] at hgo
    refine mono ?_ (round i hlt a hIi hgo)
    rintro c ys ⟨rfl, a', rfl, h2, h'⟩
    refine ⟨⟨rfl, i + 1, a', hlt, rfl, h2, h'⟩, ?_⟩
    simp only [hp]
    omega
  · have : i = xs.length := by omega
    subst this
    rw [List.drop_length] at hgo
    exact mono (fun _ _ h => h.elim) (fin a hIi hgo)
theorem has_li {l : Lis} (hl : l.Ok) {ks : List K} {ds : List D} (h : HasKs ks ds) : HasKs (liKs ++ ks) (l.enc ++ ds) := (Lis.has hl).append h
theorem has_s {l : Lis} (hl : l.Ok) {s : List UInt8} : HasKs (liKs ++ [.str]) (l.enc ++ [.str s]) := (Lis.has hl).append (show HasKs [.str] [.str s] from ⟨trivial, trivial⟩)
theorem has_ss {l : Lis} (hl : l.Ok) {s t : List UInt8} : HasKs (liKs ++ [.str, .str]) (l.enc ++ [.str s, .str t]) := (Lis.has hl).append (show HasKs [.str, .str] [.str s, .str t] from ⟨trivial, trivial, trivial⟩)
theorem has_f {l : Lis} (hl : l.Ok) {f : FuncId} {caps : List D} : HasKs (liKs ++ [.fn]) (l.enc ++ [.clo f caps]) := (Lis.has hl).append (show HasKs [.fn] [.clo f caps] from ⟨trivial, trivial⟩)
theorem cues_has {cs : List Cue} (h : ∀ c ∈ cs, c.Ok) : HasK (.slice cueKs) (.slice (cs.map Cue.enc)) := slice_has fun c hc => Cue.has (h c hc)
def given17 (l : Lis) (s : List UInt8) : Int := if checkL order05 l ≠ 0 then checkL order05 l else check05 s
theorem given_ok : Contract Tryz.prog 88 fun args K => ∃ (l : Lis) (s : List UInt8), l.Ok ∧ args = [.agg l.enc, .str s] ∧ K [.d (.int .i64 (given17 l s))] := by
  refine .of c88 t88_ok ?_
  rintro _ K ⟨l, s, hl, rfl, hK⟩ hsm
  refine ⟨l.enc ++ [.str s], rfl, by exact has_s hl, ?_⟩
  refine denR_call check17_ok ⟨l, hl, rfl, _, rfl, ?_⟩
  simp only [given17] at hK
  simp only [zz, RT.den, den, O1.eval, O2.eval, D.eqb, Ags.none, reduceCtorEq, forall_const, if_true, if_false, ite_true, ite_false, D.sub, D.cell, D.elem, D.cells, D.padd, D.list, D.push, Lis.enc]
  refine ⟨fun h => ?_, fun h => ?_⟩
  · rw [if_pos (by simpa using h)] at hK; exact hK
  · rw [if_neg (by simpa using h)] at hK
    refine denR_call check05_ok ⟨s, rfl, _, rfl, ?_⟩
    simp only [zz, RT.den, den, O1.eval, O2.eval, D.eqb, Ags.none, reduceCtorEq, forall_const, if_true, if_false, ite_true, ite_false, D.sub, D.cell, D.elem, D.cells, D.padd, D.list, D.push]
    exact hK
def place (cs : List Cue) (s : List UInt8) : Int := idxGo (fun c => c.num == s) 0 cs
theorem place17_ok : Contract Tryz.prog 75 fun args K => ∃ (l : Lis) (s : List UInt8), l.Ok ∧ args = [.agg l.enc, .str s] ∧ K [.d (.int .i64 (place l.cues s))] := by
  refine .of c75 t75_ok ?_
  rintro _ K ⟨l, s, hl, rfl, hK⟩ hsm
  refine ⟨l.enc ++ [.str s], rfl, by exact has_s hl, ?_⟩
  simp only [place] at hK
  refine loop_go l.cues (fun i l' (_ : Unit) => idxGo (fun c : Cue => c.num == s) i l') (fun i _ => [.int .i64 i]) () _ rfl 0 (fun _ _ => rfl) rfl ?_ ?_
  · intro i hi _ hgo
    simp only [idxGo] at hgo
    simp only [zz, RT.den, den, O1.eval, O2.eval, D.eqb, Ags.none, reduceCtorEq, forall_const, if_true, if_false, ite_true, ite_false, D.sub, D.cell, D.elem, D.cells, D.padd, D.list, D.push, Lis.enc, List.length_map, hi, getD_map hi, Cue.enc]
    refine fun hcap => ⟨by omega, fun h => ?_, fun h => ⟨(), by rw [wr64_eq] <;> omega, ?_⟩⟩
    · rw [if_pos (by simpa using h)] at hgo; rw [← hgo] at hK; exact hK
    · rw [if_neg (by simpa using h)] at hgo; exact hgo
  · intro _ hgo
    simp only [idxGo] at hgo
    simp only [zz, RT.den, den, O1.eval, O2.eval, D.eqb, Ags.none, reduceCtorEq, forall_const, if_true, if_false, ite_true, ite_false, D.sub, D.cell, D.elem, D.cells, D.padd, D.list, D.push, Lis.enc, List.length_map]
    rw [← hgo] at hK
    exact fun _ => hK
theorem with17_ok : Contract Tryz.prog 76 fun args K => ∃ (l : Lis) (cs : List Cue), l.Ok ∧ (∀ c ∈ cs, c.Ok) ∧ args = [.agg l.enc, .slice (cs.map Cue.enc)] ∧ K [.d (.agg (Lis.enc { l with cues := cs }))] := by
  refine .of c76 t76_ok ?_
  rintro _ K ⟨l, cs, hl, hcs, rfl, hK⟩ hsm
  refine ⟨l.enc ++ [.slice (cs.map Cue.enc)], rfl, by exact has_li hl ⟨cues_has hcs, trivial⟩, ?_⟩
  simp only [zz, RT.den, den, O1.eval, O2.eval, D.eqb, Ags.none, reduceCtorEq, forall_const, if_true, if_false, ite_true, ite_false, D.sub, D.cell, D.elem, D.cells, D.padd, D.list, D.push, t76, Lis.enc, D.list]
  exact hK
def without (cs : List Cue) (s : List UInt8) : List Cue := cs.filter fun c => !(c.num == s)
theorem without17_ok : Contract Tryz.prog 133 fun args K => ∃ (l : Lis) (s : List UInt8), l.Ok ∧ l.cues.length ≤ 1000000 ∧ args = [.agg l.enc, .str s] ∧ K [.d (.agg (Lis.enc { l with cues := without l.cues s }))] := by
  refine .of c133 t133_ok ?_
  rintro _ K ⟨l, s, hl, hlen, rfl, hK⟩ hsm
  refine ⟨l.enc ++ [.str s], rfl, by exact has_s hl, ?_⟩
  refine loop_goI l.cues (fun i l' acc => acc ++ without l' s) (fun i acc => [.slice (acc.map Cue.enc), .int .i64 i]) (fun i acc => acc.length ≤ i) [] (without l.cues s) (by simp) (by simp) 1 (fun _ _ => rfl) rfl ?_ ?_
  · intro i hi acc hacc hgo
    simp only [without, List.filter_cons] at hgo
    simp only [zz, RT.den, den, O1.eval, O2.eval, D.eqb, Ags.none, reduceCtorEq, forall_const, if_true, if_false, ite_true, ite_false, D.sub, D.cell, D.elem, D.cells, D.padd, D.list, D.push, Lis.enc, List.length_map, hi, getD_map hi, Cue.enc, D.push, List.length_append, D.list]
    refine fun hcap => ⟨by omega, ?_, ?_⟩
    · split <;> simp <;> omega
    · by_cases h : (l.cues[i]).num = s
      · refine ⟨acc, by simp [h]; rw [wr64_eq] <;> omega, by omega, by simpa [h, without] using hgo⟩
      · refine ⟨acc ++ [l.cues[i]], by simp [h, Cue.enc]; rw [wr64_eq] <;> omega, by simp; omega, by simpa [h, without] using hgo⟩
  · intro acc hacc hgo
    simp only [without, List.filter_nil, List.append_nil] at hgo
    simp only [zz, RT.den, den, O1.eval, O2.eval, D.eqb, Ags.none, reduceCtorEq, forall_const, if_true, if_false, ite_true, ite_false, D.sub, D.cell, D.elem, D.cells, D.padd, D.list, D.push, Lis.enc, List.length_map]
    refine fun hcap => ?_
    subst hgo
    refine denR_call with17_ok ⟨l, without l.cues s, hl, fun c hc => hl.cues c (List.mem_filter.1 hc).1, rfl, _, rfl, ?_⟩
    simp only [zz, RT.den, den, O1.eval, O2.eval, D.eqb, Ags.none, reduceCtorEq, forall_const, if_true, if_false, ite_true, ite_false, D.sub, D.cell, D.elem, D.cells, D.padd, D.list, D.push, Lis.enc, D.list]
    exact hK
def placedGo (c : Cue) : List Cue → List Cue × Bool → List Cue × Bool
  | [], a => a
  | x :: xs, a =>
    let a1 := if !a.2 && decide (0 ≤ order05 x.num c.num) then (a.1 ++ [c], true) else a
    placedGo c xs (if order05 x.num c.num = 0 then a1 else (a1.1 ++ [x], a1.2))
def placed (cs : List Cue) (c : Cue) : List Cue := let r := placedGo c cs ([], false); if r.2 then r.1 else r.1 ++ [c]
theorem placed17_ok : Contract Tryz.prog 131 fun args K => ∃ (l : Lis) (c : Cue), l.Ok ∧ c.Ok ∧ l.cues.length ≤ 1000000 ∧ args = [.agg l.enc, .agg c.enc] ∧ K [.d (.agg (Lis.enc { l with cues := placed l.cues c }))] := by
  refine .of c131 t131_ok ?_
  rintro _ K ⟨l, c, hl, hc, hlen, rfl, hK⟩ hsm
  refine ⟨l.enc ++ c.enc, rfl, by exact has_li hl (Cue.has hc), ?_⟩
  refine loop_goI l.cues (fun i l' a => placedGo c l' a) (fun i a => [.slice (a.1.map Cue.enc), .bool a.2, .int .i64 i]) (fun i a => a.1.length ≤ i + (if a.2 then 1 else 0) ∧ ∀ x ∈ a.1, x.Ok) ([], false) (placedGo c l.cues ([], false)) rfl ⟨by simp, by simp⟩ 2 (fun _ _ => rfl) rfl ?_ ?_
  · rintro i hi ⟨acc, dn⟩ ⟨hacc, hok⟩ hgo
    simp only [placedGo] at hgo
    simp only at hacc hok
    simp only [zz, RT.den, den, O1.eval, O2.eval, D.eqb, Ags.none, reduceCtorEq, forall_const, if_true, if_false, ite_true, ite_false, D.sub, D.cell, D.elem, D.cells, D.padd, D.list, D.push, Lis.enc, List.length_map, hi, Cue.enc, D.push, List.length_append, D.list]
    refine fun hcap => ⟨by omega, denR_call order05_ok ⟨(l.cues[i]).num, c.num, by simp only [zz, RT.den, den, O1.eval, O2.eval, D.eqb, Ags.none, reduceCtorEq, forall_const, if_true, if_false, ite_true, ite_false, D.sub, D.cell, D.elem, D.cells, D.padd, D.list, D.push, getD_map hi, Cue.enc], _, rfl, ?_⟩⟩
    have hx := hl.cues l.cues[i] (List.getElem_mem hi)
    generalize order05 (l.cues[i]).num c.num = k at hgo ⊢
    simp only [zz, RT.den, den, O1.eval, O2.eval, D.eqb, Ags.none, reduceCtorEq, forall_const, if_true, if_false, ite_true, ite_false, D.sub, D.cell, D.elem, D.cells, D.padd, D.list, D.push, List.length_map, hi, getD_map hi, Cue.enc, D.push, List.length_append, D.list]
    by_cases h1 : dn = false ∧ 0 ≤ k
    · obtain ⟨rfl, h1⟩ := h1
      have hacc : acc.length ≤ i := by simpa using hacc
      by_cases h2 : k = 0
      · subst h2
        refine ⟨by simp; omega, by simp, (acc ++ [c], true), by simp [Cue.enc]; rw [wr64_eq] <;> omega, ⟨by simp; omega, ?_⟩, by simpa using hgo⟩
        simp only [List.mem_append, List.mem_singleton]
        rintro x (h | rfl)
        · exact hok x h
        · exact hc
      · refine ⟨by simp [h1]; omega, by simp [h1, h2]; omega, (acc ++ [c] ++ [l.cues[i]], true), by simp [h1, h2, Cue.enc]; rw [wr64_eq] <;> omega, ⟨by simp; omega, ?_⟩, by simpa [h1, h2] using hgo⟩
        simp only [List.mem_append, List.mem_singleton]
        rintro x ((h | rfl) | rfl)
        · exact hok x h
        · exact hc
        · exact hx
    · have mem : ∀ x ∈ acc ++ [l.cues[i]], x.Ok := by
        intro x hx'
        rcases List.mem_append.1 hx' with h | h
        · exact hok x h
        · simp at h; subst h; exact hx
      cases dn with
      | false =>
        have hk : ¬ 0 ≤ k := fun h => h1 ⟨rfl, h⟩
        have h2 : k ≠ 0 := by omega
        have hacc : acc.length ≤ i := by simpa using hacc
        refine ⟨by simp [hk], by simp [hk, h2]; omega, (acc ++ [l.cues[i]], false), by simp [hk, h2, Cue.enc]; rw [wr64_eq] <;> omega, ⟨by simp; omega, mem⟩, by simpa [hk, h2] using hgo⟩
      | true =>
        have hacc : acc.length ≤ i + 1 := by simpa using hacc
        by_cases h2 : k = 0
        · refine ⟨by simp, by simp [h2], (acc, true), by simp [h2]; rw [wr64_eq] <;> omega, ⟨by simp; omega, hok⟩, by simpa [h2] using hgo⟩
        · refine ⟨by simp, by simp [h2]; omega, (acc ++ [l.cues[i]], true), by simp [h2, Cue.enc]; rw [wr64_eq] <;> omega, ⟨by simp; omega, mem⟩, by simpa [h2] using hgo⟩
  · rintro ⟨acc, dn⟩ ⟨hacc, hok⟩ hgo
    simp only [placedGo] at hgo
    simp only at hacc hok
    simp only [zz, RT.den, den, O1.eval, O2.eval, D.eqb, Ags.none, reduceCtorEq, forall_const, if_true, if_false, ite_true, ite_false, D.sub, D.cell, D.elem, D.cells, D.padd, D.list, D.push, Lis.enc, List.length_map, Cue.enc, D.push, List.length_append, D.list]
    refine fun hcap => ⟨?_, ?_⟩
    · cases dn <;> simp_all <;> omega
    · have hp : placed l.cues c = if dn then acc else acc ++ [c] := by simp only [placed, ← hgo]
      rw [hp] at hK
      refine denR_call with17_ok ⟨l, if dn then acc else acc ++ [c], hl, ?_, ?_, _, rfl, ?_⟩
      · cases dn
        · simp only [Bool.false_eq_true, if_false, List.mem_append, List.mem_singleton]
          rintro x (h | rfl)
          · exact hok x h
          · exact hc
        · simpa using hok
      · cases dn <;> simp [Cue.enc, Lis.enc, D.list, den, D.cond, O1.eval, O2.eval, List.getD]
      · simp only [zz, RT.den, den, O1.eval, O2.eval, D.eqb, Ags.none, reduceCtorEq, forall_const, if_true, if_false, ite_true, ite_false, D.sub, D.cell, D.elem, D.cells, D.padd, D.list, D.push, Lis.enc, D.list]
        exact hK
end Go.Sx.La
set_option maxRecDepth 100000
namespace Go.Sx.La
open Go Go.Sx Go.RowKit Go.Proofs
noncomputable def t93 : R := .call (some (.o2 .ne (.var 7) (.str []))) (.fn 85) [.lcons (.fld (.var 9) 0 (.int .i64)) (.lcons (.fld (.var 9) 1 (.int .i64)) (.lcons (.fld (.var 9) 2 (.slice [.str, .str, .slice [.int .i64, .int .i64, .int .i64, .int .i64, .int .i64], .slice [.int .i64, .int .i64, .int .i64, .int .i64, .int .i64, .int .i64], .bool, .bool, .int .i64, .str, .int .i64])) .lnil)), .var 7] [.cell (.int .i64)] (.ret [.d (.ite (.o2 .ne (.var 7) (.str [])) (.o2 .lt (.var 10) (.int .i64 0)) (.bool false))])
theorem t93_ok : fnO Tryz.prog mdA 93 ([.agg [.str, .str, .slice [.int .i64, .int .i64, .int .i64, .int .i64, .int .i64], .slice [.int .i64, .int .i64, .int .i64, .int .i64, .int .i64, .int .i64], .bool, .bool, .int .i64, .str, .int .i64]] ++ [.cell (.ptr liKs)]) = t93 := by kernel_rfl
theorem c93 : callable Tryz.prog 93 = true := by kernel_rfl
noncomputable def t92 : R := .fact (.o2 .le (.o1 .len (.var 2)) (.int .i64 140737488355328)) (.loop 0 [.nils, .int .i64 0] [.slice [.str], .int .i64] (.ite (.o2 .lt (.var 5) (.o1 .len (.var 2))) (.need (.o2 .le (.int .i64 0) (.var 5)) (.call none (.val (.var 3)) [.lcons (.idx (.var 2) (.var 5) 0 .str) (.lcons (.idx (.var 2) (.var 5) 1 .str) (.lcons (.idx (.var 2) (.var 5) 2 (.slice [.int .i64, .int .i64, .int .i64, .int .i64, .int .i64])) (.lcons (.idx (.var 2) (.var 5) 3 (.slice [.int .i64, .int .i64, .int .i64, .int .i64, .int .i64, .int .i64])) (.lcons (.idx (.var 2) (.var 5) 4 .bool) (.lcons (.idx (.var 2) (.var 5) 5 .bool) (.lcons (.idx (.var 2) (.var 5) 6 (.int .i64)) (.lcons (.idx (.var 2) (.var 5) 7 .str) (.lcons (.idx (.var 2) (.var 5) 8 (.int .i64)) .lnil))))))))] [.cell .bool] (.need (.ite (.var 6) (.o2 .le (.o1 .len (.o2 .app (.var 4) (.push .nils (.lcons (.idx (.var 2) (.var 5) 0 .str) .lnil)))) (.int .i64 8796093022208)) (.bool true)) (.lets [.ite (.var 6) (.o2 .app (.var 4) (.push .nils (.lcons (.idx (.var 2) (.var 5) 0 .str) .lnil))) (.var 4)] (.again 0 [.var 7, .o2 (.add .i64) (.var 5) (.int .i64 1)]))))) (.ret [.own 1 (.var 4)])))
theorem t92_ok : fnO Tryz.prog mdA 92 [.agg [.int .i64, .int .i64, .slice [.str, .str, .slice [.int .i64, .int .i64, .int .i64, .int .i64, .int .i64], .slice [.int .i64, .int .i64, .int .i64, .int .i64, .int .i64, .int .i64], .bool, .bool, .int .i64, .str, .int .i64]], .cell .fn] = t92 := by kernel_rfl
theorem c92 : callable Tryz.prog 92 = true := by kernel_rfl
noncomputable def t24 : R := .call none (.fn 25) [.lcons (.var 0) (.lcons (.var 1) (.lcons (.var 2) .lnil))] [.cell (.int .i64)] (.ite (.o2 .ne (.var 3) (.int .i64 0)) (.ret [.d .nils, .d (.var 3)]) (.call none (.fn 92) [.lcons (.var 0) (.lcons (.var 1) (.lcons (.var 2) .lnil)), .clo 93 (.lcons (.ptr (.lcons (.var 0) (.lcons (.var 1) (.lcons (.var 2) .lnil)))) .lnil)] [.cell (.slice [.str])] (.ret [.d (.var 4), .d (.int .i64 0)])))
theorem t24_ok : fnO Tryz.prog mdA 24 [.agg [.int .i64, .int .i64, .slice [.str, .str, .slice [.int .i64, .int .i64, .int .i64, .int .i64, .int .i64], .slice [.int .i64, .int .i64, .int .i64, .int .i64, .int .i64, .int .i64], .bool, .bool, .int .i64, .str, .int .i64]]] = t24 := by kernel_rfl
theorem c24 : callable Tryz.prog 24 = true := by kernel_rfl
theorem clCheck17_ok : Contract Tryz.prog 25 fun args K => ∃ l : Lis, l.Ok ∧ args = [.agg l.enc] ∧ K [.d (.int .i64 (checkL order05 l))] :=
  clCheck_ok.weaken fun args K _ ⟨l, h1, h2, h3⟩ => ⟨l, h1, h2, by rw [checkL_eq]; exact h3⟩
def txts (ss : List (List UInt8)) : List (List D) := ss.map fun s => [D.str s]
theorem txts_has (ss : List (List UInt8)) : HasK (.slice [.str]) (.slice (txts ss)) := slice_has (enc := fun s => [D.str s]) fun s _ => ⟨trivial, trivial⟩
theorem txts_len (ss : List (List UInt8)) : (txts ss).length = ss.length := by simp [txts]
def checkedGo : List (List UInt8) → Int
  | [] => 0
  | s :: ss => if check05 s ≠ 0 then check05 s else checkedGo ss
def checkedL (l : Lis) (ss : List (List UInt8)) : Int := if checkL order05 l ≠ 0 then checkL order05 l else checkedGo ss
theorem checked_ok : Contract Tryz.prog 84 fun args K => ∃ (l : Lis) (ss : List (List UInt8)), l.Ok ∧ args = [.agg l.enc, .slice (txts ss)] ∧ K [.d (.int .i64 (checkedL l ss))] := by
  refine .of c84 t84_ok ?_
  rintro _ K ⟨l, ss, hl, rfl, hK⟩ hsm
  refine ⟨l.enc ++ [.slice (txts ss)], rfl, by exact has_li hl ⟨txts_has ss, trivial⟩, ?_⟩
  refine denR_call clCheck17_ok ⟨l, hl, rfl, _, rfl, ?_⟩
  simp only [checkedL] at hK
  simp only [zz, RT.den, den, O1.eval, O2.eval, D.eqb, Ags.none, reduceCtorEq, forall_const, if_true, if_false, ite_true, ite_false, D.sub, D.cell, D.elem, D.cells, D.padd, D.list, D.push, Lis.enc]
  refine ⟨fun h => ?_, fun h => ?_⟩
  · rw [if_pos (by simpa using h)] at hK; exact hK
  · rw [if_neg (by simpa using h)] at hK
    intro hcap
    simp only [txts_len] at hcap
    refine loop_go ss (fun i l' (_ : Unit) => checkedGo l') (fun i _ => [.int .i64 i]) () _ rfl 0 (fun _ _ => rfl) rfl ?_ ?_
    · intro i hi _ hgo
      simp only [checkedGo] at hgo
      simp only [zz, RT.den, den, O1.eval, O2.eval, D.eqb, Ags.none, reduceCtorEq, forall_const, if_true, if_false, ite_true, ite_false, D.sub, D.cell, D.elem, D.cells, D.padd, D.list, D.push, txts, List.length_map, hi]
      refine ⟨by omega, denR_call nCheck_ok ⟨ss[i], by simp only [zz, RT.den, den, O1.eval, O2.eval, D.eqb, Ags.none, reduceCtorEq, forall_const, if_true, if_false, ite_true, ite_false, D.sub, D.cell, D.elem, D.cells, D.padd, D.list, D.push, getD_map hi], _, rfl, ?_⟩⟩
      simp only [zz, RT.den, den, O1.eval, O2.eval, D.eqb, Ags.none, reduceCtorEq, forall_const, if_true, if_false, ite_true, ite_false, D.sub, D.cell, D.elem, D.cells, D.padd, D.list, D.push]
      refine ⟨fun h => ?_, fun h => ⟨(), by rw [wr64_eq] <;> omega, ?_⟩⟩
      · rw [if_pos (by simpa using h)] at hgo; rw [← hgo] at hK; exact hK
      · rw [if_neg (by simpa using h)] at hgo; exact hgo
    · intro _ hgo
      simp only [checkedGo] at hgo
      simp only [zz, RT.den, den, O1.eval, O2.eval, D.eqb, Ags.none, reduceCtorEq, forall_const, if_true, if_false, ite_true, ite_false, D.sub, D.cell, D.elem, D.cells, D.padd, D.list, D.push, txts, List.length_map]
      rw [← hgo] at hK
      exact hK
theorem indexCue_ok : Contract Tryz.prog 96 fun args K => ∃ (l : List Cue) (p : Cue → Bool) (f : FuncId) (caps : List D), (∀ m ∈ l, m.Ok) ∧ args = [.slice (l.map Cue.enc), .clo f caps] ∧ SaysOf Tryz.prog (.clo f caps) Cue.enc l p ∧ K [.d (.int .i64 (idxGo p 0 l))] := by
  refine .of c96 t96_ok ?_
  rintro _ K ⟨l, p, f, caps, hl, rfl, ⟨sf, hf, hs⟩, hK⟩ hsm
  refine ⟨[.slice (l.map Cue.enc), .clo f caps], rfl, by simp only [pkKinds, PK.kinds, List.map_cons, List.map_nil, List.flatten_cons, List.flatten_nil, List.append_nil]; exact ⟨slice_has fun m hm => Cue.has (hl m hm), trivial, trivial⟩, ?_⟩
  simp only [zz, RT.den, den, O1.eval, O2.eval, D.eqb, Ags.none, reduceCtorEq, forall_const, if_true, if_false, ite_true, ite_false, D.sub, D.cell, D.elem, D.cells, D.padd, D.list, D.push, t96, List.length_map]
  intro hcap
  refine loop_go l (fun i l' (_ : Unit) => idxGo p i l') (fun i _ => [.int .i64 i]) () _ rfl 0 (fun _ _ => rfl) rfl ?_ ?_
  · intro i hi _ hgo
    simp only [idxGo] at hgo
    simp only [zz, RT.den, den, O1.eval, O2.eval, D.eqb, Ags.none, reduceCtorEq, forall_const, if_true, if_false, ite_true, ite_false, D.sub, D.cell, D.elem, D.cells, D.padd, D.list, D.push, hi, List.length_map]
    refine ⟨by omega, denR_fcall (FvC.up' (s := sf) (fv := .clo f caps) hf) ⟨fun rs => rs = [.d (.bool (p l[i]))], ?_, fun rs h => ⟨[.bool (p l[i])], by rw [h]; rfl, by simp [RK.all, RK.kinds, HasKs, HasK], ?_⟩⟩⟩
    · simp only [zz, RT.den, den, O1.eval, O2.eval, D.eqb, Ags.none, reduceCtorEq, forall_const, if_true, if_false, ite_true, ite_false, D.sub, D.cell, D.elem, D.cells, D.padd, D.list, D.push, getD_map hi, Cue.enc]
      exact hs l[i] (List.getElem_mem hi)
    · simp only [zz, RT.den, den, O1.eval, O2.eval, D.eqb, Ags.none, reduceCtorEq, forall_const, if_true, if_false, ite_true, ite_false, D.sub, D.cell, D.elem, D.cells, D.padd, D.list, D.push]
      grind [wr64_eq]
  · intro _ hgo
    simp only [idxGo] at hgo
    simp only [zz, RT.den, den, O1.eval, O2.eval, D.eqb, Ags.none, reduceCtorEq, forall_const, if_true, if_false, ite_true, ite_false, D.sub, D.cell, D.elem, D.cells, D.padd, D.list, D.push, List.length_map]
    rw [← hgo] at hK; exact hK
theorem isPlace_ok : Contract Tryz.prog 151 fun args K => ∃ (c : Cue) (s : List UInt8), c.Ok ∧ args = [.agg c.enc, .ptr [.str s]] ∧ K [.d (.bool (c.num == s))] := by
  refine .of c151 t151_ok ?_
  rintro _ K ⟨c, s, hc, rfl, hK⟩ hsm
  refine ⟨c.enc ++ [.ptr [.str s]], rfl, by exact (Cue.has hc).append (show HasKs [.ptr [.str]] [.ptr [.str s]] from ⟨⟨trivial, trivial⟩, trivial⟩), ?_⟩
  simp only [zz, RT.den, den, O1.eval, O2.eval, D.eqb, Ags.none, reduceCtorEq, forall_const, if_true, if_false, ite_true, ite_false, D.sub, D.cell, D.elem, D.cells, D.padd, D.list, D.push, t151, Cue.enc]
  exact hK
theorem isPlace_says (l : List Cue) (hl : ∀ c ∈ l, c.Ok) (s : List UInt8) : SaysOf Tryz.prog (.clo 151 [.ptr [.str s]]) Cue.enc l (fun c => c.num == s) := by
  refine ⟨fun as_ K => ∃ c : Cue, c.Ok ∧ as_ = [.agg c.enc] ∧ K [.d (.bool (c.num == s))], FvC.of c151 isPlace_ok ?_, fun c hc => ⟨c, hl c hc, rfl, rfl⟩⟩
  rintro _ K ⟨c, hc, rfl, hK⟩
  refine ⟨⟨c, s, hc, rfl, hK⟩, argsTyped_of [some (.agg cueKs)] (by kernel_rfl) ?_⟩
  intro i rk d h1 h2
  cases i with
  | zero => simp at h1 h2; subst h1 h2; exact Cue.has hc
  | succ i => simp at h1
theorem place_ok : Contract Tryz.prog 85 fun args K => ∃ (l : Lis) (s : List UInt8), l.Ok ∧ args = [.agg l.enc, .str s] ∧ K [.d (.int .i64 (place l.cues s))] := by
  refine .of c85 t85_ok ?_
  rintro _ K ⟨l, s, hl, rfl, hK⟩ hsm
  refine ⟨l.enc ++ [.str s], rfl, by exact has_s hl, ?_⟩
  refine denR_call indexCue_ok ⟨l.cues, fun c => c.num == s, 151, [.ptr [.str s]], hl.cues, rfl, isPlace_says l.cues hl.cues s, _, rfl, ?_⟩
  simp only [zz, RT.den, den, O1.eval, O2.eval, D.eqb, Ags.none, reduceCtorEq, forall_const, if_true, if_false, ite_true, ite_false, D.sub, D.cell, D.elem, D.cells, D.padd, D.list, D.push, Lis.enc]
  exact hK
def openAt (cs : List Cue) (c : Cue) : Bool := !(c.link == []) && decide (place cs c.link < 0)
theorem openAt_ok : Contract Tryz.prog 93 fun args K => ∃ (c : Cue) (l : Lis), c.Ok ∧ l.Ok ∧ args = [.agg c.enc, .ptr l.enc] ∧ K [.d (.bool (openAt l.cues c))] := by
  refine .of c93 t93_ok ?_
  rintro _ K ⟨c, l, hc, hl, rfl, hK⟩ hsm
  refine ⟨c.enc ++ [.ptr l.enc], rfl, by exact (Cue.has hc).append (show HasKs [.ptr liKs] [.ptr l.enc] from ⟨Lis.has hl, trivial⟩), ?_⟩
  refine denR_gcall place_ok (!(c.link == [])) [.int .i64 (if !(c.link == []) then place l.cues c.link else 0)] ?_ (fun h => ⟨l, c.link, hl, rfl, ?_⟩) (fun h => ?_) ?_
  · simp only [zz, RT.den, den, O1.eval, O2.eval, D.eqb, Ags.none, reduceCtorEq, forall_const, if_true, if_false, ite_true, ite_false, D.sub, D.cell, D.elem, D.cells, D.padd, D.list, D.push, Cue.enc]
  · rw [if_pos h]; rfl
  · rw [h]; rfl
  · simp only [zz, RT.den, den, O1.eval, O2.eval, D.eqb, Ags.none, reduceCtorEq, forall_const, if_true, if_false, ite_true, ite_false, D.sub, D.cell, D.elem, D.cells, D.padd, D.list, D.push, Cue.enc, Lis.enc]
    simp only [openAt] at hK
    by_cases h : c.link = []
    · simpa [h] using hK
    · have e : (c.link == []) = false := by simpa using h
      rw [e] at hK
      simpa [h] using hK
theorem numbers_ok : Contract Tryz.prog 92 fun args K => ∃ (l : Lis) (p : Cue → Bool) (f : FuncId) (caps : List D), l.Ok ∧ l.cues.length ≤ 1000000 ∧ args = [.agg l.enc, .clo f caps] ∧ SaysOf Tryz.prog (.clo f caps) Cue.enc l.cues p ∧
    K [.own 1 (txts ((l.cues.filter p).map (·.num)))] := by
  refine .of c92 t92_ok ?_
  rintro _ K ⟨l, p, f, caps, hl, hlen, rfl, ⟨sf, hf, hs⟩, hK⟩ hsm
  refine ⟨l.enc ++ [.clo f caps], rfl, by exact has_f hl, ?_⟩
  simp only [zz, RT.den, den, O1.eval, O2.eval, D.eqb, Ags.none, reduceCtorEq, forall_const, if_true, if_false, ite_true, ite_false, D.sub, D.cell, D.elem, D.cells, D.padd, D.list, D.push, t92, Lis.enc, List.length_map]
  intro hcap
  refine loop_goI l.cues (fun i l' acc => acc ++ (l'.filter p).map (·.num)) (fun i acc => [.slice (txts acc), .int .i64 i]) (fun i acc => acc.length ≤ i) [] ((l.cues.filter p).map (·.num)) (by simp) (by simp) 1 (fun _ _ => rfl) rfl ?_ ?_
  · intro i hi acc hacc hgo
    simp only [List.filter_cons] at hgo
    simp only [zz, RT.den, den, O1.eval, O2.eval, D.eqb, Ags.none, reduceCtorEq, forall_const, if_true, if_false, ite_true, ite_false, D.sub, D.cell, D.elem, D.cells, D.padd, D.list, D.push, hi, List.length_map]
    refine ⟨by omega, denR_fcall (FvC.up' (s := sf) (fv := .clo f caps) hf) ⟨fun rs => rs = [.d (.bool (p l.cues[i]))], ?_, fun rs h => ⟨[.bool (p l.cues[i])], by rw [h]; rfl, by simp [RK.all, RK.kinds, HasKs, HasK], ?_⟩⟩⟩
    · simp only [zz, RT.den, den, O1.eval, O2.eval, D.eqb, Ags.none, reduceCtorEq, forall_const, if_true, if_false, ite_true, ite_false, D.sub, D.cell, D.elem, D.cells, D.padd, D.list, D.push, getD_map hi, Cue.enc]
      exact hs l.cues[i] (List.getElem_mem hi)
    · simp only [zz, RT.den, den, O1.eval, O2.eval, D.eqb, Ags.none, reduceCtorEq, forall_const, if_true, if_false, ite_true, ite_false, D.sub, D.cell, D.elem, D.cells, D.padd, D.list, D.push, getD_map hi, Cue.enc, D.push, List.length_append, D.list, txts, List.length_map]
      cases hp : p l.cues[i]
      · refine ⟨by simp, acc, by simp [txts]; rw [wr64_eq] <;> omega, by omega, by simpa [hp] using hgo⟩
      · refine ⟨by simp; omega, acc ++ [(l.cues[i]).num], by simp [txts]; rw [wr64_eq] <;> omega, by simp; omega, by simpa [hp] using hgo⟩
  · intro acc hacc hgo
    simp only [List.filter_nil, List.map_nil, List.append_nil] at hgo
    simp only [zz, RT.den, den, O1.eval, O2.eval, D.eqb, Ags.none, reduceCtorEq, forall_const, if_true, if_false, ite_true, ite_false, D.sub, D.cell, D.elem, D.cells, D.padd, D.list, D.push, List.length_map]
    refine ?_
    rw [← hgo] at hK
    exact hK
def openL (cs : List Cue) : List (List UInt8) := (cs.filter (openAt cs)).map (·.num)
theorem cuesGo_len {ord : List UInt8 → List UInt8 → Int} {l : Lis} (h : checkL ord l = 0) : l.cues.length ≤ 64 := by
  simp only [checkL] at h
  split at h
  · cases h
  · split at h
    · cases h
    · omega
theorem open_ok : Contract Tryz.prog 24 fun args K => ∃ (l : Lis), l.Ok ∧ args = [.agg l.enc] ∧ K (if checkL order05 l ≠ 0 then [.d (.slice []), .d (.int .i64 (checkL order05 l))] else [.d (.slice (txts (openL l.cues))), .d (.int .i64 0)]) := by
  refine .of c24 t24_ok ?_
  rintro _ K ⟨l, hl, rfl, hK⟩ hsm
  refine ⟨l.enc, rfl, Lis.has hl, ?_⟩
  refine denR_call clCheck17_ok ⟨l, hl, rfl, _, rfl, ?_⟩
  simp only [zz, RT.den, den, O1.eval, O2.eval, D.eqb, Ags.none, reduceCtorEq, forall_const, if_true, if_false, ite_true, ite_false, D.sub, D.cell, D.elem, D.cells, D.padd, D.list, D.push, Lis.enc]
  refine ⟨fun h => ?_, fun h => ?_⟩
  · rw [if_pos (by simpa using h)] at hK; exact hK
  · rw [if_neg (by simpa using h)] at hK
    have h0 : checkL order05 l = 0 := by simpa using h
    have hs : SaysOf Tryz.prog (.clo 93 [.ptr l.enc]) Cue.enc l.cues (openAt l.cues) := by
      refine ⟨fun as_ K => ∃ c : Cue, c.Ok ∧ as_ = [.agg c.enc] ∧ K [.d (.bool (openAt l.cues c))], FvC.of c93 openAt_ok ?_, fun c hc => ⟨c, hl.cues c hc, rfl, rfl⟩⟩
      rintro _ K ⟨c, hc, rfl, hK⟩
      refine ⟨⟨c, l, hc, hl, rfl, hK⟩, argsTyped_of [some (.agg cueKs)] (by kernel_rfl) ?_⟩
      intro i rk d h1 h2
      cases i with
      | zero => simp at h1 h2; subst h1 h2; exact Cue.has hc
      | succ i => simp at h1
    refine denR_call numbers_ok ⟨l, openAt l.cues, 93, [.ptr l.enc], hl, by have := cuesGo_len h0; omega, rfl, hs, _, rfl, ?_⟩
    simp only [zz, RT.den, den, O1.eval, O2.eval, D.eqb, Ags.none, reduceCtorEq, forall_const, if_true, if_false, ite_true, ite_false, D.sub, D.cell, D.elem, D.cells, D.padd, D.list, D.push]
    exact hK
end Go.Sx.La
set_option maxRecDepth 100000
namespace Go.Sx.La
open Go Go.Sx Go.RowKit Go.Proofs
noncomputable def t98 : R := .ret [.d (.clo 162 (.lcons (.ptr (.lcons (.var 0) (.lcons (.var 1) (.lcons (.var 2) .lnil)))) .lnil))]
theorem t98_ok : fnO Tryz.prog mdA 98 [.agg [.int .i64, .int .i64, .slice [.str, .str, .slice [.int .i64, .int .i64, .int .i64, .int .i64, .int .i64], .slice [.int .i64, .int .i64, .int .i64, .int .i64, .int .i64, .int .i64], .bool, .bool, .int .i64, .str, .int .i64]]] = t98 := by kernel_rfl
theorem c98 : callable Tryz.prog 98 = true := by kernel_rfl
noncomputable def t101 : R := .ret [.d (.clo 163 (.lcons (.ptr (.lcons (.var 0) (.lcons (.var 1) (.lcons (.var 2) .lnil)))) .lnil))]
theorem t101_ok : fnO Tryz.prog mdA 101 [.agg [.int .i64, .int .i64, .slice [.str, .str, .slice [.int .i64, .int .i64, .int .i64, .int .i64, .int .i64], .slice [.int .i64, .int .i64, .int .i64, .int .i64, .int .i64, .int .i64], .bool, .bool, .int .i64, .str, .int .i64]]] = t101 := by kernel_rfl
theorem c101 : callable Tryz.prog 101 = true := by kernel_rfl
noncomputable def t164 : R := .ret [.d (.clo 201 (.lcons (.ptr (.lcons (.var 0) .lnil)) .lnil))]
theorem t164_ok : fnO Tryz.prog mdA 164 [.cell (.slice [.str, .str, .slice [.int .i64, .int .i64, .int .i64, .int .i64, .int .i64], .slice [.int .i64, .int .i64, .int .i64, .int .i64, .int .i64, .int .i64], .bool, .bool, .int .i64, .str, .int .i64])] = t164 := by kernel_rfl
theorem c164 : callable Tryz.prog 164 = true := by kernel_rfl
noncomputable def t162 : R := .fact (.o2 .le (.o1 .len (.fld (.padd (.padd (.var 0) 0) 2) 0 (.slice [.str, .str, .slice [.int .i64, .int .i64, .int .i64, .int .i64, .int .i64], .slice [.int .i64, .int .i64, .int .i64, .int .i64, .int .i64, .int .i64], .bool, .bool, .int .i64, .str, .int .i64]))) (.int .i64 140737488355328)) (.loop 0 [.int .i64 0] [.int .i64] (.ite (.o2 .lt (.var 1) (.o1 .len (.fld (.padd (.padd (.var 0) 0) 2) 0 (.slice [.str, .str, .slice [.int .i64, .int .i64, .int .i64, .int .i64, .int .i64], .slice [.int .i64, .int .i64, .int .i64, .int .i64, .int .i64, .int .i64], .bool, .bool, .int .i64, .str, .int .i64])))) (.need (.o2 .le (.int .i64 0) (.var 1)) (.yield [.idx (.fld (.padd (.padd (.var 0) 0) 2) 0 (.slice [.str, .str, .slice [.int .i64, .int .i64, .int .i64, .int .i64, .int .i64], .slice [.int .i64, .int .i64, .int .i64, .int .i64, .int .i64, .int .i64], .bool, .bool, .int .i64, .str, .int .i64])) (.var 1) 0 .str] (.ite (.o1 .not (.var 2)) (.ret []) (.again 0 [.o2 (.add .i64) (.var 1) (.int .i64 1)])))) (.ret [])))
theorem t162_ok : fnItO Tryz.prog mdA 162 [.cell (.ptr liKs)] = t162 := by kernel_rfl
theorem c162 : callable Tryz.prog 162 = true := by kernel_rfl
noncomputable def t163 : R := .call none (.fn 164) [.fld (.padd (.padd (.var 0) 0) 2) 0 (.slice [.str, .str, .slice [.int .i64, .int .i64, .int .i64, .int .i64, .int .i64], .slice [.int .i64, .int .i64, .int .i64, .int .i64, .int .i64, .int .i64], .bool, .bool, .int .i64, .str, .int .i64])] [.cell .fn] (.iter 0 (.var 1) [] [] [.any, .agg [.str, .str, .slice [.int .i64, .int .i64, .int .i64, .int .i64, .int .i64], .slice [.int .i64, .int .i64, .int .i64, .int .i64, .int .i64, .int .i64], .bool, .bool, .int .i64, .str, .int .i64]] (.yield [.var 2] (.ite (.o1 .not (.var 11)) (.ret []) (.again 0 []))) (.ret []))
theorem t163_ok : fnItO Tryz.prog mdA 163 [.cell (.ptr liKs)] = t163 := by kernel_rfl
theorem c163 : callable Tryz.prog 163 = true := by kernel_rfl
noncomputable def t201 : R := .fact (.o2 .le (.o1 .len (.fld (.var 0) 0 (.slice [.str, .str, .slice [.int .i64, .int .i64, .int .i64, .int .i64, .int .i64], .slice [.int .i64, .int .i64, .int .i64, .int .i64, .int .i64, .int .i64], .bool, .bool, .int .i64, .str, .int .i64]))) (.int .i64 140737488355328)) (.loop 0 [.o2 (.sub .i64) (.o1 .len (.fld (.var 0) 0 (.slice [.str, .str, .slice [.int .i64, .int .i64, .int .i64, .int .i64, .int .i64], .slice [.int .i64, .int .i64, .int .i64, .int .i64, .int .i64, .int .i64], .bool, .bool, .int .i64, .str, .int .i64]))) (.int .i64 1)] [.int .i64] (.ite (.o2 .ge (.var 1) (.int .i64 0)) (.need (.o2 .le (.int .i64 0) (.var 1)) (.need (.o2 .lt (.var 1) (.o1 .len (.fld (.var 0) 0 (.slice [.str, .str, .slice [.int .i64, .int .i64, .int .i64, .int .i64, .int .i64], .slice [.int .i64, .int .i64, .int .i64, .int .i64, .int .i64, .int .i64], .bool, .bool, .int .i64, .str, .int .i64])))) (.yield [.var 1, .lcons (.idx (.fld (.var 0) 0 (.slice [.str, .str, .slice [.int .i64, .int .i64, .int .i64, .int .i64, .int .i64], .slice [.int .i64, .int .i64, .int .i64, .int .i64, .int .i64, .int .i64], .bool, .bool, .int .i64, .str, .int .i64])) (.var 1) 0 .str) (.lcons (.idx (.fld (.var 0) 0 (.slice [.str, .str, .slice [.int .i64, .int .i64, .int .i64, .int .i64, .int .i64], .slice [.int .i64, .int .i64, .int .i64, .int .i64, .int .i64, .int .i64], .bool, .bool, .int .i64, .str, .int .i64])) (.var 1) 1 .str) (.lcons (.idx (.fld (.var 0) 0 (.slice [.str, .str, .slice [.int .i64, .int .i64, .int .i64, .int .i64, .int .i64], .slice [.int .i64, .int .i64, .int .i64, .int .i64, .int .i64, .int .i64], .bool, .bool, .int .i64, .str, .int .i64])) (.var 1) 2 (.slice [.int .i64, .int .i64, .int .i64, .int .i64, .int .i64])) (.lcons (.idx (.fld (.var 0) 0 (.slice [.str, .str, .slice [.int .i64, .int .i64, .int .i64, .int .i64, .int .i64], .slice [.int .i64, .int .i64, .int .i64, .int .i64, .int .i64, .int .i64], .bool, .bool, .int .i64, .str, .int .i64])) (.var 1) 3 (.slice [.int .i64, .int .i64, .int .i64, .int .i64, .int .i64, .int .i64])) (.lcons (.idx (.fld (.var 0) 0 (.slice [.str, .str, .slice [.int .i64, .int .i64, .int .i64, .int .i64, .int .i64], .slice [.int .i64, .int .i64, .int .i64, .int .i64, .int .i64, .int .i64], .bool, .bool, .int .i64, .str, .int .i64])) (.var 1) 4 .bool) (.lcons (.idx (.fld (.var 0) 0 (.slice [.str, .str, .slice [.int .i64, .int .i64, .int .i64, .int .i64, .int .i64], .slice [.int .i64, .int .i64, .int .i64, .int .i64, .int .i64, .int .i64], .bool, .bool, .int .i64, .str, .int .i64])) (.var 1) 5 .bool) (.lcons (.idx (.fld (.var 0) 0 (.slice [.str, .str, .slice [.int .i64, .int .i64, .int .i64, .int .i64, .int .i64], .slice [.int .i64, .int .i64, .int .i64, .int .i64, .int .i64, .int .i64], .bool, .bool, .int .i64, .str, .int .i64])) (.var 1) 6 (.int .i64)) (.lcons (.idx (.fld (.var 0) 0 (.slice [.str, .str, .slice [.int .i64, .int .i64, .int .i64, .int .i64, .int .i64], .slice [.int .i64, .int .i64, .int .i64, .int .i64, .int .i64, .int .i64], .bool, .bool, .int .i64, .str, .int .i64])) (.var 1) 7 .str) (.lcons (.idx (.fld (.var 0) 0 (.slice [.str, .str, .slice [.int .i64, .int .i64, .int .i64, .int .i64, .int .i64], .slice [.int .i64, .int .i64, .int .i64, .int .i64, .int .i64, .int .i64], .bool, .bool, .int .i64, .str, .int .i64])) (.var 1) 8 (.int .i64)) .lnil))))))))] (.ite (.o1 .not (.var 2)) (.ret []) (.again 0 [.o2 (.sub .i64) (.var 1) (.int .i64 1)]))))) (.ret [])))
theorem t201_ok : fnItO Tryz.prog mdA 201 [.cell (.ptr [.slice cueKs])] = t201 := by kernel_rfl
theorem c201 : callable Tryz.prog 201 = true := by kernel_rfl
noncomputable def t97 : R := .iter 0 (.var 0) [] [] [.cell .str] (.call none (.val (.var 1)) [.var 2] [.cell .bool] (.ite (.var 3) (.ret [.d (.var 2), .d (.bool true), .d (.int .i64 0)]) (.again 0 []))) (.ret [.d (.str []), .d (.bool false), .d (.int .i64 0)])
theorem t97_ok : fnO Tryz.prog mdA 97 [.cell .fn, .cell .fn] = t97 := by kernel_rfl
theorem c97 : callable Tryz.prog 97 = true := by kernel_rfl
noncomputable def t99 : R := .call none (.fn 95) [.var 0, .fld (.var 1) 0 .str] [.cell (.int .i64)] (.ret [.d (.o2 .gt (.var 2) (.int .i64 0))])
theorem t99_ok : fnO Tryz.prog mdA 99 ([.cell .str] ++ [.cell (.ptr [.str])]) = t99 := by kernel_rfl
theorem c99 : callable Tryz.prog 99 = true := by kernel_rfl
noncomputable def t102 : R := .call none (.fn 95) [.var 0, .fld (.var 1) 0 .str] [.cell (.int .i64)] (.ret [.d (.o2 .lt (.var 2) (.int .i64 0))])
theorem t102_ok : fnO Tryz.prog mdA 102 ([.cell .str] ++ [.cell (.ptr [.str])]) = t102 := by kernel_rfl
theorem c102 : callable Tryz.prog 102 = true := by kernel_rfl
noncomputable def t30 : R := .call none (.fn 84) [.lcons (.var 0) (.lcons (.var 1) (.lcons (.var 2) .lnil)), .push .nils (.lcons (.var 3) .lnil)] [.cell (.int .i64)] (.ite (.o2 .ne (.var 4) (.int .i64 0)) (.ret [.d (.str []), .d (.bool false), .d (.var 4)]) (.call none (.fn 98) [.lcons (.var 0) (.lcons (.var 1) (.lcons (.var 2) .lnil))] [.cell .fn] (.call none (.fn 97) [.var 5, .clo 99 (.lcons (.ptr (.lcons (.var 3) .lnil)) .lnil)] [.cell .str, .cell .bool, .cell (.int .i64)] (.ret [.d (.var 6), .d (.var 7), .d (.var 8)]))))
theorem t30_ok : fnO Tryz.prog mdA 30 [.agg [.int .i64, .int .i64, .slice [.str, .str, .slice [.int .i64, .int .i64, .int .i64, .int .i64, .int .i64], .slice [.int .i64, .int .i64, .int .i64, .int .i64, .int .i64, .int .i64], .bool, .bool, .int .i64, .str, .int .i64]], .cell .str] = t30 := by kernel_rfl
theorem c30 : callable Tryz.prog 30 = true := by kernel_rfl
noncomputable def t32 : R := .call none (.fn 84) [.lcons (.var 0) (.lcons (.var 1) (.lcons (.var 2) .lnil)), .push .nils (.lcons (.var 3) .lnil)] [.cell (.int .i64)] (.ite (.o2 .ne (.var 4) (.int .i64 0)) (.ret [.d (.str []), .d (.bool false), .d (.var 4)]) (.call none (.fn 101) [.lcons (.var 0) (.lcons (.var 1) (.lcons (.var 2) .lnil))] [.cell .fn] (.call none (.fn 97) [.var 5, .clo 102 (.lcons (.ptr (.lcons (.var 3) .lnil)) .lnil)] [.cell .str, .cell .bool, .cell (.int .i64)] (.ret [.d (.var 6), .d (.var 7), .d (.var 8)]))))
theorem t32_ok : fnO Tryz.prog mdA 32 [.agg [.int .i64, .int .i64, .slice [.str, .str, .slice [.int .i64, .int .i64, .int .i64, .int .i64, .int .i64], .slice [.int .i64, .int .i64, .int .i64, .int .i64, .int .i64, .int .i64], .bool, .bool, .int .i64, .str, .int .i64]], .cell .str] = t32 := by kernel_rfl
theorem c32 : callable Tryz.prog 32 = true := by kernel_rfl
theorem denR_iter {P : Program} {F : Option Nat → List RV → Prop} {l : Nat} {t : T} {inits : List T} {ks : List K} {pk : List PK} {body done : R} {ags : Ags} {ρ : List D} : denR P F noK (.iter l t inits ks pk body done) ags ρ =
    (∃ xs : List (List D), IterC P (den ρ t) xs ∧ (∀ x ∈ xs, ∃ fx, pkRho pk x = some fx ∧ HasKs (pkKinds pk) fx) ∧
      ∃ Inv : Nat → Option Nat → List D → Prop, Inv 0 ags.cnt (inits.map (den ρ)) ∧
      (∀ i x fx c ys, xs[i]? = some x → pkRho pk x = some fx → HasKs (pkKinds pk) fx → HasKs ks ys → Inv i c ys → denR P F noK body (setAg (ags.wc c) l fun c' zs => Inv (i + 1) c' zs) (ρ ++ ys ++ fx)) ∧
      (∀ c ys, HasKs ks ys → Inv xs.length c ys → denR P F noK done (ags.wc c) (ρ ++ ys))) := rfl
def names (l : Lis) : List (List UInt8) := l.cues.map (·.num)
theorem txts_at {ss : List (List UInt8)} {i : Nat} {x : List D} (h : (txts ss)[i]? = some x) : ∃ s, ss[i]? = some s ∧ x = [.str s] := by
  simp only [txts, List.getElem?_map, Option.map_eq_some_iff] at h
  obtain ⟨s, h1, rfl⟩ := h
  exact ⟨s, h1, rfl⟩
theorem forwards_ok : Contract Tryz.prog 98 fun args K => ∃ (l : Lis), l.Ok ∧ args = [.agg l.enc] ∧ K [.d (.clo 162 [.ptr l.enc])] := by
  refine .of c98 t98_ok ?_
  rintro _ K ⟨l, hl, rfl, hK⟩ hsm
  refine ⟨l.enc, rfl, Lis.has hl, ?_⟩
  simp only [zz, RT.den, den, O1.eval, O2.eval, D.eqb, Ags.none, reduceCtorEq, forall_const, if_true, if_false, ite_true, ite_false, D.sub, D.cell, D.elem, D.cells, D.padd, D.list, D.push, t98, Lis.enc, D.list]
  exact hK
theorem backwards_ok : Contract Tryz.prog 101 fun args K => ∃ (l : Lis), l.Ok ∧ args = [.agg l.enc] ∧ K [.d (.clo 163 [.ptr l.enc])] := by
  refine .of c101 t101_ok ?_
  rintro _ K ⟨l, hl, rfl, hK⟩ hsm
  refine ⟨l.enc, rfl, Lis.has hl, ?_⟩
  simp only [zz, RT.den, den, O1.eval, O2.eval, D.eqb, Ags.none, reduceCtorEq, forall_const, if_true, if_false, ite_true, ite_false, D.sub, D.cell, D.elem, D.cells, D.padd, D.list, D.push, t101, Lis.enc, D.list]
  exact hK
theorem backward_ok : Contract Tryz.prog 164 fun args K => ∃ (cs : List Cue), (∀ c ∈ cs, c.Ok) ∧ args = [.slice (cs.map Cue.enc)] ∧ K [.d (.clo 201 [.ptr [.slice (cs.map Cue.enc)]])] := by
  refine .of c164 t164_ok ?_
  rintro _ K ⟨cs, hl, rfl, hK⟩ hsm
  refine ⟨[.slice (cs.map Cue.enc)], rfl, ⟨cues_has hl, trivial⟩, ?_⟩
  simp only [zz, RT.den, den, O1.eval, O2.eval, D.eqb, Ags.none, reduceCtorEq, forall_const, if_true, if_false, ite_true, ite_false, D.sub, D.cell, D.elem, D.cells, D.padd, D.list, D.push, t164, D.list]
  exact hK
theorem forwards_it {l : Lis} (hl : l.Ok) : IterC Tryz.prog (.clo 162 [.ptr l.enc]) (txts (names l)) := by
  refine IterC.of c162 t162_ok (ρ := [.ptr l.enc]) rfl ⟨Lis.has hl, trivial⟩ ?_
  simp only [zz, RT.den, den, O1.eval, O2.eval, D.eqb, Ags.none, reduceCtorEq, forall_const, if_true, if_false, ite_true, ite_false, D.sub, D.cell, D.elem, D.cells, D.padd, D.list, D.push, t162, Lis.enc, List.length_map, D.cells, D.padd, D.cell, List.drop_zero, List.drop_succ_cons]
  intro hcap
  simp only [denR]
  refine ⟨fun c ys => ∃ i : Nat, i ≤ l.cues.length ∧ ys = [.int .i64 i] ∧ c = some i, fun ys => match ys with | [.int _ i] => l.cues.length - i.toNat | _ => 0, ⟨0, Nat.zero_le _, rfl, rfl⟩, ?_⟩
  rintro _ _ _ ⟨i, hi, rfl, rfl⟩
  simp only [zz, RT.den, den, O1.eval, O2.eval, D.eqb, Ags.none, reduceCtorEq, forall_const, if_true, if_false, ite_true, ite_false, D.sub, D.cell, D.elem, D.cells, D.padd, D.list, D.push, List.length_map, D.cells, D.padd, D.cell, List.drop_zero, List.drop_succ_cons]
  refine ⟨fun h => ⟨by omega, i, rfl, ?_, ?_⟩, fun h => .inr ?_⟩
  · simp only [Ags.wc, setAg, txts, names, List.getElem?_map, List.map_map]
    simp only [zz, RT.den, den, O1.eval, O2.eval, D.eqb, Ags.none, reduceCtorEq, forall_const, if_true, if_false, ite_true, ite_false, D.sub, D.cell, D.elem, D.cells, D.padd, D.list, D.push, getD_map h, Cue.enc]
    simp [h]
  · rintro (_ | _)
    · simp only [zz, RT.den, den, O1.eval, O2.eval, D.eqb, Ags.none, reduceCtorEq, forall_const, if_true, if_false, ite_true, ite_false, D.sub, D.cell, D.elem, D.cells, D.padd, D.list, D.push]
      exact .inl rfl
    · simp only [zz, RT.den, den, O1.eval, O2.eval, D.eqb, Ags.none, reduceCtorEq, forall_const, if_true, if_false, ite_true, ite_false, D.sub, D.cell, D.elem, D.cells, D.padd, D.list, D.push]
      refine ⟨⟨i + 1, h, ?_, rfl⟩, ?_⟩
      · rw [wr64_eq (by omega)]; simp
      · rw [wr64_eq (by omega)]
        show l.cues.length - ((i : Int) + 1).toNat < l.cues.length - i
        omega
  · have : i = l.cues.length := by omega
    simp [Ags.wc, setAg, txts, names, this]
theorem backward_it {cs : List Cue} (hl : ∀ c ∈ cs, c.Ok) : IterC Tryz.prog (.clo 201 [.ptr [.slice (cs.map Cue.enc)]]) (cs.zipIdx.map fun x => [D.int .i64 (x.2 : Nat), .agg x.1.enc]).reverse := by
  refine IterC.of c201 t201_ok (ρ := [.ptr [.slice (cs.map Cue.enc)]]) rfl ⟨⟨cues_has hl, trivial⟩, trivial⟩ ?_
  simp only [zz, RT.den, den, O1.eval, O2.eval, D.eqb, Ags.none, reduceCtorEq, forall_const, if_true, if_false, ite_true, ite_false, D.sub, D.cell, D.elem, D.cells, D.padd, D.list, D.push, t201, List.length_map, D.cells, D.padd, D.cell]
  intro hcap
  simp only [denR]
  refine ⟨fun c ys => ∃ k : Nat, k ≤ cs.length ∧ ys = [.int .i64 ((cs.length : Int) - 1 - k)] ∧ c = some k, fun ys => match ys with | [.int _ i] => (i + 1).toNat | _ => 0, ⟨0, Nat.zero_le _, ?_, rfl⟩, ?_⟩
  · simp only [zz, RT.den, den, O1.eval, O2.eval, D.eqb, Ags.none, reduceCtorEq, forall_const, if_true, if_false, ite_true, ite_false, D.sub, D.cell, D.elem, D.cells, D.padd, D.list, D.push, List.length_map, D.cells, D.cell]
    rw [wr64_eq (by omega)]; simp
  rintro _ _ _ ⟨i, hi, rfl, rfl⟩
  simp only [zz, RT.den, den, O1.eval, O2.eval, D.eqb, Ags.none, reduceCtorEq, forall_const, if_true, if_false, ite_true, ite_false, D.sub, D.cell, D.elem, D.cells, D.padd, D.list, D.push, List.length_map, D.cells, D.padd, D.cell]
  refine ⟨fun h => ⟨h, by omega, i, rfl, ?_, ?_⟩, fun h => .inr ?_⟩
  · have hj : cs.length - 1 - i < cs.length := by omega
    have e : ((cs.length : Int) - 1 - i) = ((cs.length - 1 - i : Nat) : Int) := by omega
    simp only [Ags.wc, setAg]
    rw [List.getElem?_reverse (by simp; omega)]
    simp only [zz, RT.den, den, O1.eval, O2.eval, D.eqb, Ags.none, reduceCtorEq, forall_const, if_true, if_false, ite_true, ite_false, D.sub, D.cell, D.elem, D.cells, D.padd, D.list, D.push, e, getD_map hj, Cue.enc, List.length_map, List.length_zipIdx, List.getElem?_map, D.list]
    simp [hj, Cue.enc]
  · rintro (_ | _)
    · simp only [zz, RT.den, den, O1.eval, O2.eval, D.eqb, Ags.none, reduceCtorEq, forall_const, if_true, if_false, ite_true, ite_false, D.sub, D.cell, D.elem, D.cells, D.padd, D.list, D.push]
      exact .inl rfl
    · simp only [zz, RT.den, den, O1.eval, O2.eval, D.eqb, Ags.none, reduceCtorEq, forall_const, if_true, if_false, ite_true, ite_false, D.sub, D.cell, D.elem, D.cells, D.padd, D.list, D.push]
      refine ⟨⟨i + 1, by omega, ?_, rfl⟩, ?_⟩
      · rw [wr64_eq (by omega)]; congr 2; omega
      · rw [wr64_eq (by omega)]
        show ((cs.length : Int) - 1 - i - 1 + 1).toNat < ((cs.length : Int) - 1 - i + 1).toNat
        omega
  · have : i = cs.length := by omega
    simp [Ags.wc, setAg, this]
theorem backwards_it {l : Lis} (hl : l.Ok) : IterC Tryz.prog (.clo 163 [.ptr l.enc]) (txts (names l).reverse) := by
  refine IterC.of c163 t163_ok (ρ := [.ptr l.enc]) rfl ⟨Lis.has hl, trivial⟩ ?_
  refine denR_call backward_ok ⟨l.cues, hl.cues, rfl, _, rfl, ?_⟩
  simp only [denR]
  refine ⟨_, backward_it hl.cues, ?_, fun i c ys => ys = [] ∧ c = some i, ⟨rfl, rfl⟩, ?_, ?_⟩
  · intro x hx
    rw [List.mem_reverse] at hx
    obtain ⟨⟨c, i⟩, hc, rfl⟩ := List.mem_map.1 hx
    refine ⟨c.enc, rfl, ?_⟩
    have : c ∈ l.cues := by
      have := List.mem_zipIdx hc
      simp at this
      obtain ⟨h1, h2⟩ := this
      rw [h2]; exact List.getElem_mem _
    exact Cue.has (hl.cues c this)
  · rintro i x fx _ ys hx hfx _ _ ⟨rfl, rfl⟩
    have hlt : i < l.cues.length := by have := (List.getElem?_eq_some_iff.1 hx).1; simpa using this
    have hj : l.cues.length - 1 - i < l.cues.length := by omega
    rw [List.getElem?_reverse (by simpa using hlt)] at hx
    simp only [List.length_map, List.length_zipIdx, List.getElem?_map, List.getElem?_zipIdx, List.getElem?_eq_getElem hj, Option.map_some, Option.some.injEq] at hx
    subst hx
    cases hfx
    simp only [zz, RT.den, den, O1.eval, O2.eval, D.eqb, Ags.none, reduceCtorEq, forall_const, if_true, if_false, ite_true, ite_false, D.sub, D.cell, D.elem, D.cells, D.padd, D.list, D.push, Cue.enc]
    refine ⟨i, rfl, ?_, ?_⟩
    · simp only [Ags.wc, setAg, txts, names]
      rw [List.getElem?_map, List.getElem?_reverse (by simpa using hlt)]
      simp [hj]
    · rintro (_ | _)
      · simp only [zz, RT.den, den, O1.eval, O2.eval, D.eqb, Ags.none, reduceCtorEq, forall_const, if_true, if_false, ite_true, ite_false, D.sub, D.cell, D.elem, D.cells, D.padd, D.list, D.push]
        exact .inl rfl
      · simp only [zz, RT.den, den, O1.eval, O2.eval, D.eqb, Ags.none, reduceCtorEq, forall_const, if_true, if_false, ite_true, ite_false, D.sub, D.cell, D.elem, D.cells, D.padd, D.list, D.push]
        exact ⟨rfl, rfl⟩
  · rintro _ ys _ ⟨rfl, rfl⟩
    exact .inr (by simp [Ags.wc, txts, names])
def pick : Option (List UInt8) → List UInt8 × Bool
  | some s => (s, true)
  | none => ([], false)
def SaysTxt (P : Program) (fv : D) (ss : List (List UInt8)) (p : List UInt8 → Bool) : Prop := ∃ sf, FvC P fv sf ∧ ∀ s ∈ ss, sf [.str s] fun rs => rs = [.d (.bool (p s))]
theorem first_ok : Contract Tryz.prog 97 fun args K => ∃ (it : D) (ss : List (List UInt8)) (p : List UInt8 → Bool) (f : FuncId) (caps : List D), HasK .fn it ∧ IterC Tryz.prog it (txts ss) ∧ args = [it, .clo f caps] ∧ SaysTxt Tryz.prog (.clo f caps) ss p ∧
    K [.d (.str (pick (ss.find? p)).1), .d (.bool (pick (ss.find? p)).2), .d (.int .i64 0)] := by
  refine .of c97 t97_ok ?_
  rintro _ K ⟨it, ss, p, f, caps, hfn, hit, rfl, ⟨sf, hf, hs⟩, hK⟩ hsm
  refine ⟨[it, .clo f caps], rfl, ⟨hfn, trivial, trivial⟩, ?_⟩
  unfold t97
  rw [denR_iter]
  refine ⟨txts ss, hit, ?_, fun i c ys => ys = [] ∧ (ss.drop i).find? p = ss.find? p, ⟨rfl, rfl⟩, ?_, ?_⟩
  · intro x hx
    obtain ⟨s, hs, rfl⟩ := List.mem_map.1 hx
    exact ⟨[.str s], rfl, ⟨trivial, trivial⟩⟩
  · rintro i x fx c ys hx hfx _ _ ⟨rfl, hgo⟩
    obtain ⟨s, hsi, rfl⟩ := txts_at hx
    cases hfx
    have hi := (List.getElem?_eq_some_iff.1 hsi).1
    have es : ss[i] = s := (List.getElem?_eq_some_iff.1 hsi).2
    rw [List.drop_eq_getElem_cons hi, es, List.find?_cons] at hgo
    refine denR_fcall (FvC.up' (s := sf) (fv := .clo f caps) hf) ⟨fun rs => rs = [.d (.bool (p s))], ?_, fun rs h => ⟨[.bool (p s)], by rw [h]; rfl, by simp [RK.all, RK.kinds, HasKs, HasK], ?_⟩⟩
    · exact hs s (es ▸ List.getElem_mem hi)
    · simp only [zz, RT.den, den, O1.eval, O2.eval, D.eqb, Ags.none, reduceCtorEq, forall_const, if_true, if_false, ite_true, ite_false, D.sub, D.cell, D.elem, D.cells, D.padd, D.list, D.push]
      cases hp : p s
      · rw [hp] at hgo
        exact ⟨fun h => by simp at h, fun _ => hgo⟩
      · rw [hp] at hgo
        rw [← hgo] at hK
        exact ⟨fun _ => hK, fun h => by simp at h⟩
  · rintro c ys _ ⟨rfl, hgo⟩
    rw [txts_len, List.drop_length] at hgo
    rw [← hgo] at hK
    simp only [zz, RT.den, den, O1.eval, O2.eval, D.eqb, Ags.none, reduceCtorEq, forall_const, if_true, if_false, ite_true, ite_false, D.sub, D.cell, D.elem, D.cells, D.padd, D.list, D.push]
    exact hK
theorem after1_ok : Contract Tryz.prog 99 fun args K => ∃ (x s : List UInt8), args = [.str x, .ptr [.str s]] ∧ K [.d (.bool (decide (0 < comp x s)))] := by
  refine .of c99 t99_ok ?_
  rintro _ K ⟨x, s, rfl, hK⟩ hsm
  refine ⟨[.str x, .ptr [.str s]], rfl, ⟨trivial, ⟨trivial, trivial⟩, trivial⟩, ?_⟩
  refine denR_call compare_ok ⟨x, s, rfl, _, rfl, ?_⟩
  simp only [zz, RT.den, den, O1.eval, O2.eval, D.eqb, Ags.none, reduceCtorEq, forall_const, if_true, if_false, ite_true, ite_false, D.sub, D.cell, D.elem, D.cells, D.padd, D.list, D.push]
  exact hK
theorem before1_ok : Contract Tryz.prog 102 fun args K => ∃ (x s : List UInt8), args = [.str x, .ptr [.str s]] ∧ K [.d (.bool (decide (comp x s < 0)))] := by
  refine .of c102 t102_ok ?_
  rintro _ K ⟨x, s, rfl, hK⟩ hsm
  refine ⟨[.str x, .ptr [.str s]], rfl, ⟨trivial, ⟨trivial, trivial⟩, trivial⟩, ?_⟩
  refine denR_call compare_ok ⟨x, s, rfl, _, rfl, ?_⟩
  simp only [zz, RT.den, den, O1.eval, O2.eval, D.eqb, Ags.none, reduceCtorEq, forall_const, if_true, if_false, ite_true, ite_false, D.sub, D.cell, D.elem, D.cells, D.padd, D.list, D.push]
  exact hK
theorem after_ok : Contract Tryz.prog 30 fun args K => ∃ (l : Lis) (s : List UInt8), l.Ok ∧ args = [.agg l.enc, .str s] ∧
    K (if checkedL l [s] ≠ 0 then [.d (.str []), .d (.bool false), .d (.int .i64 (checkedL l [s]))] else [.d (.str (pick ((names l).find? fun x => decide (0 < comp x s))).1), .d (.bool (pick ((names l).find? fun x => decide (0 < comp x s))).2), .d (.int .i64 0)]) := by
  refine .of c30 t30_ok ?_
  rintro _ K ⟨l, s, hl, rfl, hK⟩ hsm
  refine ⟨l.enc ++ [.str s], rfl, by exact has_li hl ⟨trivial, trivial⟩, ?_⟩
  refine denR_call checked_ok ⟨l, [s], hl, rfl, _, rfl, ?_⟩
  simp only [zz, RT.den, den, O1.eval, O2.eval, D.eqb, Ags.none, reduceCtorEq, forall_const, if_true, if_false, ite_true, ite_false, D.sub, D.cell, D.elem, D.cells, D.padd, D.list, D.push, Lis.enc]
  refine ⟨fun h => ?_, fun h => ?_⟩
  · rw [if_pos (by simpa using h)] at hK; exact hK
  · rw [if_neg (by simpa using h)] at hK
    refine denR_call forwards_ok ⟨l, hl, rfl, _, rfl, ?_⟩
    refine denR_call first_ok ⟨_, names l, fun x => decide (0 < comp x s), 99, [.ptr [.str s]], ?_, forwards_it hl, rfl, ⟨fun as_ K => ∃ x, as_ = [.str x] ∧ K [.d (.bool (decide (0 < comp x s)))], FvC.of c99 after1_ok ?_, fun x _ => ⟨x, rfl, rfl⟩⟩, _, rfl, ?_⟩
    · trivial
    · rintro _ K ⟨x, rfl, hK⟩
      refine ⟨⟨x, s, rfl, hK⟩, argsTyped_of [some (.cell .str)] (by kernel_rfl) ?_⟩
      intro i rk d h1 h2
      cases i with
      | zero => simp at h1 h2; subst h1 h2; trivial
      | succ i => simp at h1
    · simp only [zz, RT.den, den, O1.eval, O2.eval, D.eqb, Ags.none, reduceCtorEq, forall_const, if_true, if_false, ite_true, ite_false, D.sub, D.cell, D.elem, D.cells, D.padd, D.list, D.push]
      exact hK
theorem before_ok : Contract Tryz.prog 32 fun args K => ∃ (l : Lis) (s : List UInt8), l.Ok ∧ args = [.agg l.enc, .str s] ∧
    K (if checkedL l [s] ≠ 0 then [.d (.str []), .d (.bool false), .d (.int .i64 (checkedL l [s]))] else [.d (.str (pick ((names l).reverse.find? fun x => decide (comp x s < 0))).1), .d (.bool (pick ((names l).reverse.find? fun x => decide (comp x s < 0))).2), .d (.int .i64 0)]) := by
  refine .of c32 t32_ok ?_
  rintro _ K ⟨l, s, hl, rfl, hK⟩ hsm
  refine ⟨l.enc ++ [.str s], rfl, by exact has_li hl ⟨trivial, trivial⟩, ?_⟩
  refine denR_call checked_ok ⟨l, [s], hl, rfl, _, rfl, ?_⟩
  simp only [zz, RT.den, den, O1.eval, O2.eval, D.eqb, Ags.none, reduceCtorEq, forall_const, if_true, if_false, ite_true, ite_false, D.sub, D.cell, D.elem, D.cells, D.padd, D.list, D.push, Lis.enc]
  refine ⟨fun h => ?_, fun h => ?_⟩
  · rw [if_pos (by simpa using h)] at hK; exact hK
  · rw [if_neg (by simpa using h)] at hK
    refine denR_call backwards_ok ⟨l, hl, rfl, _, rfl, ?_⟩
    refine denR_call first_ok ⟨_, (names l).reverse, fun x => decide (comp x s < 0), 102, [.ptr [.str s]], ?_, backwards_it hl, rfl, ⟨fun as_ K => ∃ x, as_ = [.str x] ∧ K [.d (.bool (decide (comp x s < 0)))], FvC.of c102 before1_ok ?_, fun x _ => ⟨x, rfl, rfl⟩⟩, _, rfl, ?_⟩
    · trivial
    · rintro _ K ⟨x, rfl, hK⟩
      refine ⟨⟨x, s, rfl, hK⟩, argsTyped_of [some (.cell .str)] (by kernel_rfl) ?_⟩
      intro i rk d h1 h2
      cases i with
      | zero => simp at h1 h2; subst h1 h2; trivial
      | succ i => simp at h1
    · simp only [zz, RT.den, den, O1.eval, O2.eval, D.eqb, Ags.none, reduceCtorEq, forall_const, if_true, if_false, ite_true, ite_false, D.sub, D.cell, D.elem, D.cells, D.padd, D.list, D.push]
      exact hK
end Go.Sx.La
set_option maxRecDepth 100000
namespace Go.Sx.La
open Go Go.Sx Go.RowKit Go.Proofs
noncomputable def t36 : R := .fact (.o2 .le (.o1 .len (.var 0)) (.int .i64 140737488355328)) (.fact (.o2 .le (.o1 .len (.var 1)) (.int .i64 140737488355328)) (.ite (.o2 .ne (.o1 .len (.var 0)) (.o1 .len (.var 1))) (.ret [.d (.bool false)]) (.loop 0 [.int .i64 0] [.int .i64] (.ite (.o2 .lt (.var 2) (.o1 .len (.var 0))) (.need (.o2 .le (.int .i64 0) (.var 2)) (.need (.o2 .lt (.var 2) (.o1 .len (.var 1))) (.ite (.o2 .ne (.idx (.var 0) (.var 2) 0 .str) (.idx (.var 1) (.var 2) 0 .str)) (.ret [.d (.bool false)]) (.again 0 [.o2 (.add .i64) (.var 2) (.int .i64 1)])))) (.ret [.d (.bool true)])))))
theorem t36_ok : fnO Tryz.prog mdA 36 [.cell (.slice [.str]), .cell (.slice [.str])] = t36 := by kernel_rfl
theorem c36 : callable Tryz.prog 36 = true := by kernel_rfl
noncomputable def t40 : R := .fact (.o2 .le (.o1 .len (.var 2)) (.int .i64 140737488355328)) (.loop 0 [.nils, .int .i64 0] [.slice [.str], .int .i64] (.ite (.o2 .lt (.var 4) (.o1 .len (.var 2))) (.need (.o2 .le (.int .i64 0) (.var 4)) (.need (.o2 .le (.o1 .len (.o2 .app (.var 3) (.push .nils (.lcons (.idx (.var 2) (.var 4) 0 .str) .lnil)))) (.int .i64 8796093022208)) (.again 0 [.o2 .app (.var 3) (.push .nils (.lcons (.idx (.var 2) (.var 4) 0 .str) .lnil)), .o2 (.add .i64) (.var 4) (.int .i64 1)]))) (.ret [.own 1 (.var 3)])))
theorem t40_ok : fnO Tryz.prog mdA 40 [.agg [.int .i64, .int .i64, .slice [.str, .str, .slice [.int .i64, .int .i64, .int .i64, .int .i64, .int .i64], .slice [.int .i64, .int .i64, .int .i64, .int .i64, .int .i64, .int .i64], .bool, .bool, .int .i64, .str, .int .i64]]] = t40 := by kernel_rfl
theorem c40 : callable Tryz.prog 40 = true := by kernel_rfl
def lastGo (p : List UInt8 → Bool) (ss : List (List UInt8)) (a : List UInt8 × Bool) : List UInt8 × Bool := match ss.reverse.find? p with
  | some x => (x, true)
  | none => a
def firstOf (cs : List Cue) : List UInt8 × Bool := pick (cs.map (·.num)).head?
def lastOf (cs : List Cue) : List UInt8 × Bool := pick (cs.map (·.num)).getLast?
def eqGo : List (List UInt8) → List (List UInt8) → Bool
  | [], _ => true
  | a :: as_, b :: bs => if a = b then eqGo as_ bs else false
  | _, _ => false
theorem eqTxt_ok : Contract Tryz.prog 36 fun args K => ∃ (a b : List (List UInt8)), args = [.slice (txts a), .slice (txts b)] ∧ K [.d (.bool (decide (a = b)))] := by
  refine .of c36 t36_ok ?_
  rintro _ K ⟨a, b, rfl, hK⟩ hsm
  refine ⟨[.slice (txts a), .slice (txts b)], rfl, ⟨txts_has a, txts_has b, trivial⟩, ?_⟩
  simp only [zz, RT.den, den, O1.eval, O2.eval, D.eqb, Ags.none, reduceCtorEq, forall_const, if_true, if_false, ite_true, ite_false, D.sub, D.cell, D.elem, D.cells, D.padd, D.list, D.push, t36, txts_len]
  refine fun h1 h2 => ⟨fun h => ?_, fun h => ?_⟩
  · have : a ≠ b := by rintro rfl; simp at h
    simpa [this] using hK
  · have hl : a.length = b.length := by
      have h' : (a.length : Int) = b.length := by simpa using h
      omega
    refine loop_go a (fun i l' (_ : Unit) => decide (l' = b.drop i)) (fun i _ => [.int .i64 i]) () (decide (a = b)) (by simp) 0 (fun _ _ => rfl) rfl ?_ ?_
    · intro i hi _ hgo
      have hib : i < b.length := by omega
      rw [List.drop_eq_getElem_cons hib] at hgo
      simp only [List.cons.injEq] at hgo
      simp only [zz, RT.den, den, O1.eval, O2.eval, D.eqb, Ags.none, reduceCtorEq, forall_const, if_true, if_false, ite_true, ite_false, D.sub, D.cell, D.elem, D.cells, D.padd, D.list, D.push, txts_len, hi, hib, txts, List.length_map, getD_map hi, getD_map hib]
      refine ⟨by omega, fun h => ?_, fun h => ⟨(), by rw [wr64_eq] <;> omega, ?_⟩⟩
      · have h' : ¬ a[i] = b[i] := by simpa using h
        have : decide (a = b) = false := by rw [← hgo]; simp [h']
        rw [this] at hK; exact hK
      · have h' : a[i] = b[i] := by simpa using h
        simpa [h'] using hgo
    · intro _ hgo
      simp only [zz, RT.den, den, O1.eval, O2.eval, D.eqb, Ags.none, reduceCtorEq, forall_const, if_true, if_false, ite_true, ite_false, D.sub, D.cell, D.elem, D.cells, D.padd, D.list, D.push, txts_len]
      have : decide (a = b) = true := by rw [← hgo, hl, List.drop_length]; simp
      rw [this] at hK
      exact hK
theorem numbersLaw_ok : Contract Tryz.prog 40 fun args K => ∃ (l : Lis), l.Ok ∧ l.cues.length ≤ 1000000 ∧ args = [.agg l.enc] ∧ K [.own 1 (txts (names l))] := by
  refine .of c40 t40_ok ?_
  rintro _ K ⟨l, hl, hlen, rfl, hK⟩ hsm
  refine ⟨l.enc, rfl, Lis.has hl, ?_⟩
  simp only [zz, RT.den, den, O1.eval, O2.eval, D.eqb, Ags.none, reduceCtorEq, forall_const, if_true, if_false, ite_true, ite_false, D.sub, D.cell, D.elem, D.cells, D.padd, D.list, D.push, t40, Lis.enc, List.length_map]
  intro hcap
  refine loop_goI l.cues (fun i l' acc => acc ++ l'.map (·.num)) (fun i acc => [.slice (txts acc), .int .i64 i]) (fun i acc => acc.length ≤ i) [] (names l) (by simp [names]) (by simp) 1 (fun _ _ => rfl) rfl ?_ ?_
  · intro i hi acc hacc hgo
    simp only [zz, RT.den, den, O1.eval, O2.eval, D.eqb, Ags.none, reduceCtorEq, forall_const, if_true, if_false, ite_true, ite_false, D.sub, D.cell, D.elem, D.cells, D.padd, D.list, D.push, hi, List.length_map, getD_map hi, Cue.enc, D.push, List.length_append, D.list, txts]
    refine ⟨by omega, by simp; omega, acc ++ [(l.cues[i]).num], by simp [txts]; rw [wr64_eq] <;> omega, by simp; omega, (List.append_assoc ..).trans hgo⟩
  · intro acc hacc hgo
    simp only [List.map_nil, List.append_nil] at hgo
    simp only [zz, RT.den, den, O1.eval, O2.eval, D.eqb, Ags.none, reduceCtorEq, forall_const, if_true, if_false, ite_true, ite_false, D.sub, D.cell, D.elem, D.cells, D.padd, D.list, D.push, List.length_map]
    refine ?_
    rw [← hgo] at hK
    exact hK
end Go.Sx.La
set_option maxRecDepth 100000
namespace Go.Sx.La
open Go Go.Sx Go.RowKit Go.Proofs
def valOf (c : Cue) : Int := value05 c.num
def Rising (cs : List Cue) : Prop := cs.Pairwise fun a b => valOf a < valOf b
theorem order_neg (a b : List UInt8) : order05 a b < 0 ↔ value05 a < value05 b := by unfold order05; split <;> (try split) <;> simp_all
theorem order_pos (a b : List UInt8) : 0 < order05 a b ↔ value05 b < value05 a := by unfold order05; split <;> (try split) <;> simp_all <;> omega
theorem order_zero (a b : List UInt8) : order05 a b = 0 ↔ value05 a = value05 b := by unfold order05; split <;> (try split) <;> simp_all <;> omega
theorem perm_sorted_eq {X : Type} (key : X → Int) : ∀ (b a : List X), a.Perm b → a.Pairwise (fun x y => key x ≤ key y) → b.Pairwise (fun x y => key x < key y) → a = b
  | [], a, h, _, _ => by simpa using h
  | y :: b, [], h, _, _ => by simp at h
  | y :: b, x :: a, h, ha, hb => by
    rw [List.pairwise_cons] at ha hb
    have hx : x ∈ y :: b := h.mem_iff.1 (by simp)
    have hy : y ∈ x :: a := h.mem_iff.2 (by simp)
    have e : x = y := by
      rcases List.mem_cons.1 hx with e | hx
      · exact e
      · rcases List.mem_cons.1 hy with e | hy
        · exact e.symm
        · have := hb.1 x hx; have := ha.1 y hy; omega
    subst e
    rw [perm_sorted_eq key b a (List.Perm.cons_inv h) ha.2 hb.2]
def ins (c : Cue) : List Cue → List Cue
  | [] => [c]
  | x :: xs => if valOf x < valOf c then x :: ins c xs else c :: x :: xs
theorem ins_perm (c : Cue) : ∀ xs, (ins c xs).Perm (c :: xs)
  | [] => .refl _
  | x :: xs => by
    simp only [ins]
    split
    · exact ((ins_perm c xs).cons x).trans (.swap ..)
    · exact .refl _
theorem ins_rising {c : Cue} : ∀ {xs : List Cue}, Rising xs → (∀ x ∈ xs, valOf x ≠ valOf c) → Rising (ins c xs)
  | [], _, _ => by simp [Rising, ins]
  | x :: xs, h, hne => by
    have h' := h
    simp only [Rising, List.pairwise_cons] at h
    simp only [ins]
    have hx := hne x (by simp)
    split
    · rename_i hlt
      simp only [Rising, List.pairwise_cons]
      refine ⟨fun y hy => ?_, ins_rising h.2 fun z hz => hne z (by simp [hz])⟩
      rcases List.mem_cons.1 ((ins_perm c xs).mem_iff.1 hy) with rfl | hy
      · exact hlt
      · exact h.1 y hy
    · rename_i hlt
      simp only [Rising, List.pairwise_cons]
      refine ⟨fun y hy => ?_, h⟩
      rcases List.mem_cons.1 hy with rfl | hy
      · omega
      · have := h.1 y hy; omega
theorem placedGo_done {c : Cue} : ∀ (xs : List Cue) (acc : List Cue), (∀ x ∈ xs, valOf x ≠ valOf c) → placedGo c xs (acc, true) = (acc ++ xs, true)
  | [], acc, _ => by simp [placedGo]
  | x :: xs, acc, h => by
    have hx : order05 x.num c.num ≠ 0 := fun e => h x (by simp) ((order_zero _ _).1 e)
    simp only [placedGo, Bool.not_true, Bool.false_and, Bool.false_eq_true, if_false, hx]
    rw [placedGo_done xs _ fun y hy => h y (by simp [hy])]
    simp
theorem placedGo_ins {c : Cue} : ∀ (xs : List Cue) (acc : List Cue), Rising xs → (∀ x ∈ xs, valOf x ≠ valOf c) → (if (placedGo c xs (acc, false)).2 then (placedGo c xs (acc, false)).1 else (placedGo c xs (acc, false)).1 ++ [c]) = acc ++ ins c xs
  | [], acc, _, _ => by simp [placedGo, ins]
  | x :: xs, acc, hr, h => by
    have hx : order05 x.num c.num ≠ 0 := fun e => h x (by simp) ((order_zero _ _).1 e)
    simp only [Rising, List.pairwise_cons] at hr
    by_cases hlt : valOf x < valOf c
    · have hn : ¬ (0 ≤ order05 x.num c.num) := by have := (order_neg x.num c.num).2 hlt; omega
      simp only [placedGo, hn, decide_false, Bool.and_false, Bool.false_eq_true, if_false, hx, ins, hlt, if_true]
      rw [placedGo_ins xs _ hr.2 fun y hy => h y (by simp [hy])]
      simp
    · have hn : 0 ≤ order05 x.num c.num := by
        rcases Int.lt_or_le (order05 x.num c.num) 0 with h1 | h1
        · exact absurd ((order_neg x.num c.num).1 h1) hlt
        · exact h1
      simp only [placedGo, hn, decide_true, Bool.and_true, Bool.not_false, if_true, hx, if_false, ins, hlt]
      rw [placedGo_done xs _ fun y hy => h y (by simp [hy])]
      simp
theorem placed_ins {xs : List Cue} {c : Cue} (hr : Rising xs) (h : ∀ x ∈ xs, valOf x ≠ valOf c) : placed xs c = ins c xs := by
  have := placedGo_ins xs [] hr h
  simpa [placed] using this
theorem cuesGo_zero {xs : List Cue} : ∀ (cs : List Cue) (i : Nat), cs = xs.drop i → cuesGo order05 xs i cs = 0 → (∀ c ∈ cs, check16 c = 0) ∧ (∀ j, i ≤ j → 0 < j → j < xs.length → valOf (xs[j - 1]!) < valOf (xs[j]!))
  | [], i, he, _ => ⟨by simp, fun j h1 h2 h3 => by
      have := congrArg List.length he
      simp at this
      omega⟩
  | c :: cs, i, he, h => by
    have hlt : i < xs.length := by
      rcases Nat.lt_or_ge i xs.length with h | h
      · exact h
      · rw [List.drop_eq_nil_of_le h] at he; cases he
    rw [List.drop_eq_getElem_cons hlt] at he
    obtain ⟨rfl, rfl⟩ := List.cons.inj he
    simp only [cuesGo] at h
    split at h
    · rename_i hc; exact absurd h hc
    · rename_i hc
      have hc : check16 xs[i] = 0 := by simpa using hc
      split at h
      · cases h
      · rename_i ho
        obtain ⟨g1, g2⟩ := cuesGo_zero (xs.drop (i + 1)) (i + 1) rfl h
        refine ⟨fun d hd => ?_, fun j h1 h2 h3 => ?_⟩
        · rcases List.mem_cons.1 hd with rfl | hd
          · exact hc
          · exact g1 d hd
        · rcases Nat.eq_or_lt_of_le h1 with rfl | h1
          · rw [getElem!_pos xs i h3]
            have : ¬ 0 ≤ order05 (xs[i - 1]!).num (xs[i]).num := fun h => ho ⟨h2, h⟩
            exact (order_neg _ _).1 (by omega)
          · exact g2 j h1 h2 h3
structure RightL (l : Lis) : Prop where
  cues : ∀ c ∈ l.cues, check16 c = 0
  rising : Rising l.cues
  len : l.cues.length ≤ 64
theorem rightL_of {l : Lis} (h : checkL order05 l = 0) : RightL l := by
  have hlen := cuesGo_len h
  simp only [checkL] at h
  split at h
  · cases h
  · split at h
    · cases h
    · obtain ⟨g1, g2⟩ := cuesGo_zero l.cues 0 rfl h
      refine ⟨g1, ?_, hlen⟩
      rw [Rising, List.pairwise_iff_getElem]
      have step : ∀ (n i : Nat) (hi : i + n + 1 < l.cues.length), valOf (l.cues[i]'(by omega)) < valOf (l.cues[i + n + 1]) := by
        intro n
        induction n with
        | zero =>
          intro i hi
          have := g2 (i + 1) (Nat.zero_le _) (by omega) (by omega)
          rw [getElem!_pos l.cues (i + 1) (by omega), getElem!_pos l.cues (i + 1 - 1) (by omega)] at this
          exact this
        | succ n ih =>
          intro i hi
          have h1 := ih i (by omega)
          have := g2 (i + (n + 1) + 1) (Nat.zero_le _) (by omega) (by omega)
          rw [getElem!_pos l.cues (i + (n + 1) + 1) (by omega), getElem!_pos l.cues (i + (n + 1) + 1 - 1) (by omega)] at this
          have e : i + (n + 1) + 1 - 1 = i + n + 1 := by omega
          simp only [e] at this
          omega
      intro i j hi hj hij
      obtain ⟨n, rfl⟩ : ∃ n, j = i + n + 1 := ⟨j - i - 1, by omega⟩
      exact step n i hj
theorem RightL.num {l : Lis} (h : RightL l) : ∀ c ∈ l.cues, check05 c.num = 0 := fun c hc => check16_num (h.cues c hc)
theorem idxGo_spec {X : Type} (p : X → Bool) : ∀ (xs : List X) (i : Nat), (idxGo p i xs = -1 ∧ ∀ x ∈ xs, p x = false) ∨ ∃ (j : Nat) (h : j < xs.length), idxGo p i xs = (i + j : Nat) ∧ p xs[j] = true ∧ ∀ k (hk : k < j), p (xs[k]'(by omega)) = false
  | [], i => .inl ⟨rfl, by simp⟩
  | x :: xs, i => by
    simp only [idxGo]
    by_cases hx : p x = true
    · refine .inr ⟨0, by simp, by simp [hx], by simpa using hx, fun k hk => by omega⟩
    · have hx' : p x = false := by simpa using hx
      simp only [hx, if_false]
      rcases idxGo_spec p xs (i + 1) with ⟨h1, h2⟩ | ⟨j, hj, h1, h2, h3⟩
      · exact .inl ⟨by simpa [hx'] using h1, fun y hy => by
          rcases List.mem_cons.1 hy with rfl | hy
          · exact hx'
          · exact h2 y hy⟩
      · refine .inr ⟨j + 1, by simp; omega, by simp [hx', h1]; omega, by simpa using h2, fun k hk => ?_⟩
        match k, hk with
        | 0, _ => simpa using hx'
        | k + 1, hk => simpa using h3 k (by omega)
theorem place_neg {cs : List Cue} {s : List UInt8} : place cs s < 0 ↔ ∀ c ∈ cs, c.num ≠ s := by
  unfold place
  rcases idxGo_spec (fun c : Cue => c.num == s) cs 0 with ⟨h1, h2⟩ | ⟨j, hj, h1, h2, _⟩
  · rw [h1]; exact ⟨fun _ c hc => by simpa using h2 c hc, fun _ => by omega⟩
  · rw [h1]
    refine ⟨fun h => by omega, fun h => absurd (by simpa using h2) (h cs[j] (List.getElem_mem _))⟩
theorem place_pos {cs : List Cue} {s : List UInt8} (h : ¬ place cs s < 0) : ∃ (j : Nat) (hj : j < cs.length), place cs s = j ∧ (cs[j]).num = s ∧ ∀ k (hk : k < j), (cs[k]'(by omega)).num ≠ s := by
  unfold place at h ⊢
  rcases idxGo_spec (fun c : Cue => c.num == s) cs 0 with ⟨h1, h2⟩ | ⟨j, hj, h1, h2, h3⟩
  · rw [h1] at h; omega
  · exact ⟨j, hj, by simpa using h1, by simpa using h2, fun k hk => by simpa using h3 k hk⟩
end Go.Sx.La
set_option maxRecDepth 100000
namespace Go.Sx.La
open Go Go.Sx Go.RowKit Go.Proofs Go.Sort Go.Shelf
theorem grow_of_below {W w' : World} (h : BelowD W.heap.size W w') : ∃ q os', w' = Sort.grow (W.drewN q) os' := by
  refine ⟨w'.drawn - W.drawn, w'.heap.extract W.heap.size w'.heap.size, ?_⟩
  have hh : W.heap ++ w'.heap.extract W.heap.size w'.heap.size = w'.heap := by
    apply Array.ext_getElem?
    intro i
    rw [Array.getElem?_append]
    split
    · rename_i hi; exact (h.block i hi).symm
    · rename_i hi
      rw [Array.getElem?_extract]
      have hs := h.size
      split
      · congr 1; omega
      · rw [Array.getElem?_eq_none (by omega)]
  have hd : W.drawn + (w'.drawn - W.drawn) = w'.drawn := by have := h.drawn; omega
  have e1 := h.os
  have e2 := h.tape
  have e3 := h.output
  obtain ⟨hp, tp, dr, o, out⟩ := w'
  obtain ⟨hp0, tp0, dr0, o0, out0⟩ := W
  simp only at hh hd e1 e2 e3
  simp only [Sort.grow, World.drewN, hh, hd, e1, e2, e3]
structure El (m : Mem) (X : Type) (enc : X → List D) (k : Nat) (l : List X) where
  x : X
  mem : x ∈ l
  vs : List Value
  len : vs.length = k
  rep : ∀ (i : Nat) d v, (enc x)[i]? = some d → vs[i]? = some v → RepD m d v
def D.flat : D → Bool
  | .agg _ => false
  | _ => true
theorem RepD.one {m : Mem} {d : D} {v : Value} (h : RepD m d v) (hf : D.flat d = true) : v.oneCell' = true := by
  cases h <;> first | rfl | cases hf
theorem own_inv {m : Mem} {w : World} {B : Nat → Prop} {e : Nat} {xs : List (List D)} {v : Value} (h : RepR m w B (.own e xs) v) (hne : xs ≠ []) :
    ∃ b c arr t, v = .slice (some ⟨b, 0, none⟩) xs.length c ∧ B b ∧ m b = none ∧ w.heap[b]? = some (.cells arr t (0, 0)) ∧ 0 < c ∧ xs.length ≤ c ∧ c ≤ maxLen ∧ xs.length ≤ cap ∧ arr.size = c * e ∧ (∀ x ∈ xs, x.length = e) ∧
      ∀ (i j : Nat) x d v, xs[i]? = some x → x[j]? = some d → arr[i * e + j]? = some v → RepD m d v := by
  cases h with
  | none => exact absurd rfl hne
  | own hB hm hb h0 hc hcc hcap hsz he hv => exact ⟨_, _, _, _, rfl, hB, hm, hb, h0, hc, hcc, hcap, hsz, he, hv⟩
section
variable {α : Type} [Inhabited α]
theorem sortWorldK_other (enc : α → List Value) (k : Nat) (w : World) (blk off n : Nat) (d : Array α) (os : Array Obj) {b : Nat} (hb : b < w.heap.size) (hne : b ≠ blk) : (sortWorldK enc k w blk off n d os).heap[b]? = w.heap[b]? := by
  have hsz : (putRowK enc k (Sort.ahead w n) blk off d).heap.size = w.heap.size := by simp [putRowK, putRow, mapBlock, Sort.ahead]
  unfold sortWorldK
  simp only [Sort.grow]
  rw [Array.getElem?_append, if_pos (by omega)]
  simp only [putRowK, putRow, mapBlock, Sort.ahead, Array.getElem?_modify]
  rw [if_neg (by omega)]
theorem sortWorldK_row (enc : α → List Value) (k : Nat) (w : World) (blk off n : Nat) (d : Array α) (os : Array Obj) {c : Array Value} {t : TypeId} {fz : Nat × Nat} (hb : w.heap[blk]? = some (.cells c t fz)) :
    (sortWorldK enc k w blk off n d os).heap[blk]? = some (.cells (Go.Sort.putCells id off (flatK enc k d) c) t fz) := by
  have hlt : blk < w.heap.size := by
    rcases Nat.lt_or_ge blk w.heap.size with h | h
    · exact h
    · rw [Array.getElem?_eq_none h] at hb; cases hb
  have hsz : (putRowK enc k (Sort.ahead w n) blk off d).heap.size = w.heap.size := by simp [putRowK, putRow, mapBlock, Sort.ahead]
  unfold sortWorldK
  simp only [Sort.grow]
  rw [Array.getElem?_append, if_pos (by omega)]
  simp only [putRowK, putRow, mapBlock, Sort.ahead, Array.getElem?_modify, hb]
  simp [onCells]
end
theorem sort_ok {P : Program} {f : FuncId} {ρ : Ren} (L : SlLaysF0.n6 P ρ) (hf : ρ.f 6 = f) (hcl : callable P f = true) {X : Type} {enc : X → List D} {ks : List K} {k : Nat} (hkk : ks.length = k) (h0 : 0 < k) (hflat : ∀ x, ∀ d ∈ enc x, D.flat d = true) (hlen : ∀ x, (enc x).length = k)
    (aE : ∀ w, (isAgg (ρ.t 24)).run P w = .ok true w) (zE : ∀ w, (Go.sizeOf (ρ.t 24)).run P w = .ok k w) (hres : resKinds P false (fnTypes P f) = some []) :
    ContractX P f [.own ks, .cell .fn] true fun args K => ∃ (l : List X) (g : FuncId) (caps : List D) (key : X → Int) (cf : X → X → Int) (sf : Spec), l ≠ [] ∧ (∀ x ∈ l, HasKs ks (enc x)) ∧ args = [.own k (l.map enc), .d (.clo g caps)] ∧ FvC P (.clo g caps) sf ∧
      (∀ x ∈ l, ∀ y ∈ l, (cf x y < 0 ↔ key x < key y) ∧ sf [.agg (enc x), .agg (enc y)] fun rs => rs = [.d (.int .i64 (cf x y))]) ∧ ∀ l' : List X, l'.Perm l → l'.Pairwise (fun a b => key a ≤ key b) → K [.own k (l'.map enc)] := by
  refine ⟨hcl, ?_⟩
  rintro _ K ⟨l, g, caps, key, cf, sf, hne, hks, rfl, hfv, hcf, hK⟩ _ w m vs hm hr
  have hlen2 : vs.length = 2 := hr.len
  match vs, hlen2 with
  | [v, u], _ =>
  have r0 := hr.rep 0 _ v rfl rfl
  have r1 := hr.rep 1 _ u rfl rfl
  cases r1 with
  | d h1 =>
  obtain ⟨cb, rfl, hcsz, hcb⟩ := RepD.clo_inv h1
  obtain ⟨b, c, arr, t, rfl, _, hmb, hb, hc0, hc, hcm, hcap, hasz, he, hv⟩ := own_inv r0 (by simpa using hne)
  have hblt : b < w.heap.size := by
    rcases Nat.lt_or_ge b w.heap.size with h | h
    · exact h
    · rw [Array.getElem?_eq_none h] at hb; cases hb
  simp only [List.length_map] at hc hcap
  have hin : ∀ i j, i < l.length → j < k → i * k + j < arr.size := by
    intro i j hi hj
    have h1 : (i + 1) * k ≤ c * k := Nat.mul_le_mul_right _ (by omega)
    rw [Nat.succ_mul] at h1
    omega
  let d : Array (El m X enc k l) := Array.ofFn fun i : Fin l.length => ⟨l[i], List.getElem_mem _, (arr.toList.drop (i * k)).take k, by
      have h1 : (i.val + 1) * k ≤ c * k := Nat.mul_le_mul_right _ (by omega)
      rw [Nat.succ_mul] at h1
      simp only [List.length_take, List.length_drop, Array.length_toList]; omega, fun j dd u h2 h3 => by
      have hj : j < k := by
        have := (List.getElem?_eq_some_iff.1 h2).1
        rw [hlen] at this; exact this
      rw [List.getElem?_take, if_pos hj, List.getElem?_drop] at h3
      exact hv i j (enc l[i]) dd u (by simp) h2 (by simpa using h3)⟩
  have hds : d.size = l.length := by simp [d]
  have hpos : 0 < l.length := List.length_pos_iff.2 hne
  letI : Inhabited (El m X enc k l) := ⟨d[0]'(by omega)⟩
  have hdi : ∀ i (hi : i < l.length), d[i]! = d[i]'(by omega) := fun i hi => getElem!_pos d i (by omega)
  have hdx : ∀ i (hi : i < l.length), (d[i]!).x = l[i] := fun i hi => by rw [hdi i hi]; simp [d]
  have hdv : ∀ i j (hi : i < l.length) (hj : j < k), (d[i]!).vs[j]! = arr[i * k + j]'(hin i j hi hj) := fun i j hi hj => by
    rw [hdi i hi]
    have : (d[i]'(by omega)).vs = (arr.toList.drop (i * k)).take k := by simp [d]
    rw [this, List.getElem!_eq_getElem?_getD, List.getElem?_take, if_pos hj, List.getElem?_drop]
    simp [hin i j hi hj]
  have hH : HoldsK El.vs k w b 0 d := by
    intro j hj
    rw [size_flatK, hds] at hj
    have hq : j / k < l.length := Nat.div_lt_of_lt_mul (by rw [Nat.mul_comm]; exact hj)
    have hrm : j % k < k := Nat.mod_lt _ h0
    have e : j / k * k + j % k = j := by rw [Nat.mul_comm]; exact Nat.div_add_mod j k
    constructor
    · rw [get_flatK _ _ _ _ (by rw [hds]; exact hj), id_eq, hdv _ _ hq hrm]
      simp only [World.cell?, hb, e]
      have := hin _ _ hq hrm
      rw [e] at this
      simp [this]
    · simp [World.frozen?, hb]
  have hmem : ∀ n os dk, MemOk m (sortWorldK El.vs k w b 0 n (dk : Array (El m X enc k l)) os) := by
    intro n os dk b' o ho
    have hne' : b' ≠ b := by rintro rfl; rw [hmb] at ho; cases ho
    rw [sortWorldK_other _ _ _ _ _ _ _ _ (hm.lt ho) hne']
    exact hm b' o ho
  have hcmp : CmpLays P g cb (El.vs (m := m) (X := X) (enc := enc) (k := k) (l := l)) k (fun x y => cf x.x y.x) b 0 d.size w := by
    intro n os dk _ x y
    refine (fv_calls hfv (hmem n os dk) hcsz hcb (as_ := [.agg (enc x.x), .agg (enc y.x)]) (vs := #[.agg x.vs.toArray, .agg y.vs.toArray]) rfl ?_ (hcf x.x x.mem y.x y.mem).2).mono ?_
    · intro i dd u h2 h3
      match i, h2, h3 with
      | 0, h2, h3 =>
        simp at h2 h3; subst h2 h3
        exact .agg _ _ (by simp [x.len, hlen]) fun j e u a1 a2 => x.rep j e u a1 (by simpa using a2)
      | 1, h2, h3 =>
        simp at h2 h3; subst h2 h3
        exact .agg _ _ (by simp [y.len, hlen]) fun j e u a1 a2 => y.rep j e u a1 (by simpa using a2)
    · rintro e w' ⟨u, m', rfl, hu, hbw⟩
      rw [hu.int_inv]
      exact ⟨rfl, grow_of_below hbw⟩
  have hO : SWO (ltOf fun x y : El m X enc k l => cf x.x y.x) := by
    have key' : ∀ x y : El m X enc k l, ltOf (fun x y : El m X enc k l => cf x.x y.x) x y = decide (key x.x < key y.x) := fun x y => by
      simp only [ltOf]
      rw [Bool.eq_iff_iff]; simpa using (hcf x.x x.mem y.x y.mem).1
    refine ⟨fun x => ?_, fun x y z h1 h2 => ?_, fun x y z h1 h2 => ?_⟩
    · rw [key']; simp
    · rw [key'] at *; simp at *; omega
    · rw [key'] at *; simp at *; omega
  have hargs : ([Value.slice (some ⟨b, 0, none⟩) (l.map enc).length c, Value.func (.func g) #[] cb] : List Value).toArray = #[.slice (some ⟨b, 0, none⟩) d.size c, .func (.func g) #[] cb] := by rw [hds, List.length_map]
  rw [hargs, ← hf]
  refine (AnyQ.slices_SortFunc L k aE zE El.vs El.len ?_ (fun x y => cf x.x y.x) hO g cb b 0 c d w (callable_enters hfv.1) hcmp hH hblt (by rw [hds]; simp only [cap] at hcap; omega)).mono ?_
  · intro x u hu
    obtain ⟨j, hj⟩ := List.mem_iff_getElem?.1 hu
    have hjk : j < (enc x.x).length := by
      have := (List.getElem?_eq_some_iff.1 hj).1
      rw [x.len] at this; rw [hlen]; exact this
    exact RepD.one (x.rep j _ u (List.getElem?_eq_getElem hjk) hj) (hflat x.x _ (List.getElem_mem hjk))
  · rintro e w' ⟨rfl, d', n, os, ⟨hs', _, hperm⟩, hsort, rfl⟩
    rw [hds] at hs'
    have hd'i : ∀ i (hi : i < l.length), d'[i]! = d'[i]'(by omega) := fun i hi => getElem!_pos d' i (by omega)
    have hfull : ∀ (a : Array (El m X enc k l)), a.size = l.length → (a.extract 0 d.size).toList = a.toList := by
      intro a ha
      rw [hds, ← ha]; simp
    rw [hfull d' hs', hfull d hds] at hperm
    let l' : List X := d'.toList.map El.x
    have hl' : l'.length = l.length := by simp [l', hs']
    have hpl : l'.Perm l := by
      have h1 := hperm.map El.x
      have h2 : d.toList.map El.x = l := by
        apply List.ext_getElem
        · simp [hds]
        · intro i h1 h2
          simp [d]
      rw [h2] at h1
      exact h1
    have hgx : ∀ i (hi : i < l.length), l'[i]'(by omega) = (d'[i]!).x := fun i hi => by rw [hd'i i hi]; simp [l']
    have hpw : l'.Pairwise (fun a b => key a ≤ key b) := by
      rw [List.pairwise_iff_getElem]
      intro i j hi hj hij
      rw [hgx i (by omega), hgx j (by omega)]
      have := hsort i j (Nat.zero_le _) hij (by rw [hds]; omega)
      simp only [ltOf] at this
      have h2 := (hcf _ (d'[j]!).mem _ (d'[i]!).mem).1
      have h3 : ¬ cf (d'[j]!).x (d'[i]!).x < 0 := by simpa using this
      rw [h2] at h3
      omega
    have hrow := sortWorldK_row El.vs k w b 0 n d' os hb
    have hflt : ∀ i j, i < l.length → j < k → (flatK El.vs k d')[i * k + j]! = (d'[i]!).vs[j]! := by
      intro i j hi hj
      have h1 : (i + 1) * k ≤ l.length * k := Nat.mul_le_mul_right _ (by omega)
      rw [Nat.succ_mul] at h1
      rw [get_flatK _ _ _ _ (by rw [hs']; omega)]
      have e1 : (i * k + j) / k = i := by rw [Nat.mul_comm, Nat.mul_add_div h0, Nat.div_eq_of_lt hj, Nat.add_zero]
      have e2 : (i * k + j) % k = j := by rw [Nat.mul_comm, Nat.mul_add_mod, Nat.mod_eq_of_lt hj]
      rw [e1, e2]
    have hown : OwnBlk [.own k (l.map enc), .d (.clo g caps)] [.slice (some ⟨b, 0, none⟩) (l.map enc).length c, .func (.func g) #[] cb] b := ⟨0, _, _, rfl, rfl, rfl, by simp [blk]; omega⟩
    refine ⟨[.own k (l'.map enc)], [], _, m, hK l' hpl hpw, ?_, rfl, rfl, ⟨rfl, ?_, ?_⟩, Mem.le_refl m, hmem n os d', fun _ _ _ => rfl, ⟨rfl, rfl, rfl, ?_, ?_, ?_⟩⟩
    · intro rk hrk
      rw [hf, hres] at hrk
      cases hrk
      refine ⟨[.slice (l'.map enc)], ?_, ?_⟩
      · simp [ownKs, RV.all, RV.cells, hkk]
      · simp only [ownKs, if_true, List.nil_append, RK.all, List.map_cons, List.map_nil, RK.kinds, List.flatten_cons, List.flatten_nil, List.append_nil, HasKs, HasK, and_true]
        intro x hx
        obtain ⟨y, hy, rfl⟩ := List.mem_map.1 hx
        exact hks y (hpl.mem_iff.1 hy)
    · intro i r u h2 h3
      cases i with
      | succ i => simp at h2
      | zero =>
        simp [ownVals] at h2 h3
        subst h2 h3
        have hll : (l'.map enc).length = l.length := by simp [hl']
        have := RepR.own (m := m) (w := sortWorldK El.vs k w b 0 n d' os) (B := fun b' => w.heap.size ≤ b' ∨ OwnBlk [.own k (l.map enc), .d (.clo g caps)] [.slice (some ⟨b, 0, none⟩) (l.map enc).length c, .func (.func g) #[] cb] b') (e := k) (xs := l'.map enc) (.inr hown) hmb hrow hc0 (by omega) hcm (by omega) (by simp [Go.Sort.putCells, hasz]) (by
          intro x hx
          obtain ⟨y, hy, rfl⟩ := List.mem_map.1 hx
          exact hlen y) (by
          intro i j x dd u hx hd hu
          have hi : i < l.length := by rw [← hll]; exact (List.getElem?_eq_some_iff.1 hx).1
          simp only [List.getElem?_map, Option.map_eq_some_iff] at hx
          obtain ⟨y, hy, rfl⟩ := hx
          have hj : j < k := by have := (List.getElem?_eq_some_iff.1 hd).1; rw [hlen] at this; exact this
          have hyx : y = (d'[i]!).x := by
            rw [← hgx i hi]
            exact ((List.getElem?_eq_some_iff.1 hy).2).symm
          subst hyx
          have hlt : i * k + j < l.length * k := by
            have h1 : (i + 1) * k ≤ l.length * k := Nat.mul_le_mul_right _ (by omega)
            rw [Nat.succ_mul] at h1
            omega
          simp only [Go.Sort.putCells, Array.getElem?_mapIdx, size_flatK, hs', Option.map_eq_some_iff] at hu
          obtain ⟨z, hz, hu⟩ := hu
          rw [if_pos ⟨Nat.zero_le _, by omega⟩, id_eq, Nat.sub_zero, hflt i j hi hj] at hu
          refine (d'[i]!).rep j dd u hd ?_
          rw [← hu, List.getElem!_eq_getElem?_getD, List.getElem?_eq_getElem (by rw [(d'[i]!).len]; exact hj)]
          rfl)
        rw [hll] at this
        exact this
    · intro i j r r' u u' b' hij h2 h3
      exfalso
      have h4 := (List.getElem?_eq_some_iff.1 h2).1
      have h5 := (List.getElem?_eq_some_iff.1 h3).1
      simp at h4 h5
      omega
    · simp [sortWorldK, Sort.grow, putRowK, putRow, mapBlock, Sort.ahead]
    · simp [sortWorldK, Sort.grow, putRowK, putRow, mapBlock, Sort.ahead]
    · intro b' hb' hnb
      refine sortWorldK_other _ _ _ _ _ _ _ _ hb' ?_
      rintro rfl
      exact hnb hown
end Go.Sx.La
set_option maxRecDepth 100000
namespace Go.Sx.La
open Go Go.Sx Go.RowKit Go.Proofs
noncomputable def t86 : R := .guess (.o2 .eq (.o1 .len (.var 0)) (.int .i64 0)) (.ite (.var 1) (.ret [.own 9 .nils]) (.need (.o2 .le (.o1 .len (.o2 .app .nils (.var 0))) (.int .i64 1172812402961)) (.ret [.own 9 (.o2 .app .nils (.var 0))])))
theorem t86_ok : fnO Tryz.prog mdA 86 [.cell (.slice [.str, .str, .slice [.int .i64, .int .i64, .int .i64, .int .i64, .int .i64], .slice [.int .i64, .int .i64, .int .i64, .int .i64, .int .i64, .int .i64], .bool, .bool, .int .i64, .str, .int .i64])] = t86 := by kernel_rfl
theorem c86 : callable Tryz.prog 86 = true := by kernel_rfl
noncomputable def t87 : R := .callX true 152 [.own 9 (.var 3), .d (.fn 153)] [.own [.str, .str, .slice [.int .i64, .int .i64, .int .i64, .int .i64, .int .i64], .slice [.int .i64, .int .i64, .int .i64, .int .i64, .int .i64, .int .i64], .bool, .bool, .int .i64, .str, .int .i64]] (.ret [.d (.lcons (.var 0) (.lcons (.var 1) (.lcons (.var 4) .lnil)))])
theorem t87_ok : fnXO Tryz.prog mdA 87 [.agg liKs, .own cueKs] = t87 := by kernel_rfl
theorem c87 : callable Tryz.prog 87 = true := by kernel_rfl
noncomputable def t153 : R := .call none (.fn 95) [.var 0, .var 9] [.cell (.int .i64)] (.ret [.d (.var 18)])
theorem t153_ok : fnO Tryz.prog mdA 153 [.agg [.str, .str, .slice [.int .i64, .int .i64, .int .i64, .int .i64, .int .i64], .slice [.int .i64, .int .i64, .int .i64, .int .i64, .int .i64, .int .i64], .bool, .bool, .int .i64, .str, .int .i64], .agg [.str, .str, .slice [.int .i64, .int .i64, .int .i64, .int .i64, .int .i64], .slice [.int .i64, .int .i64, .int .i64, .int .i64, .int .i64, .int .i64], .bool, .bool, .int .i64, .str, .int .i64]] = t153 := by kernel_rfl
theorem c153 : callable Tryz.prog 153 = true := by kernel_rfl
noncomputable def t19 : R := .call none (.fn 84) [.lcons (.var 0) (.lcons (.var 1) (.lcons (.var 2) .lnil)), .push (.push .nils (.lcons (.var 3) .lnil)) (.lcons (.var 4) .lnil)] [.cell (.int .i64)] (.ite (.o2 .ne (.var 5) (.int .i64 0)) (.ret [.d (.lcons (.int .i64 0) (.lcons (.int .i64 0) (.lcons .nils .lnil))), .d (.var 5)]) (.call none (.fn 85) [.lcons (.var 0) (.lcons (.var 1) (.lcons (.var 2) .lnil)), .var 3] [.cell (.int .i64)] (.ite (.o2 .lt (.var 6) (.int .i64 0)) (.ret [.d (.lcons (.int .i64 0) (.lcons (.int .i64 0) (.lcons .nils .lnil))), .d (.int .i64 6)]) (.ite (.o2 .eq (.var 3) (.var 4)) (.ret [.d (.lcons (.var 0) (.lcons (.var 1) (.lcons (.var 2) .lnil))), .d (.int .i64 0)]) (.call none (.fn 85) [.lcons (.var 0) (.lcons (.var 1) (.lcons (.var 2) .lnil)), .var 4] [.cell (.int .i64)] (.ite (.o2 .ge (.var 7) (.int .i64 0)) (.ret [.d (.lcons (.int .i64 0) (.lcons (.int .i64 0) (.lcons .nils .lnil))), .d (.int .i64 7)]) (.call none (.fn 86) [.var 2] [.own [.str, .str, .slice [.int .i64, .int .i64, .int .i64, .int .i64, .int .i64], .slice [.int .i64, .int .i64, .int .i64, .int .i64, .int .i64, .int .i64], .bool, .bool, .int .i64, .str, .int .i64]] (.need (.o2 .le (.int .i64 0) (.var 6)) (.need (.o2 .lt (.var 6) (.o1 .len (.var 8))) (.fact (.o2 .le (.o1 .len (.upd (.var 8) (.var 6) 0 (.lcons (.var 4) .lnil))) (.int .i64 140737488355328)) (.loop 0 [.int .i64 0, .upd (.var 8) (.var 6) 0 (.lcons (.var 4) .lnil)] [.int .i64, .slice [.str, .str, .slice [.int .i64, .int .i64, .int .i64, .int .i64, .int .i64], .slice [.int .i64, .int .i64, .int .i64, .int .i64, .int .i64, .int .i64], .bool, .bool, .int .i64, .str, .int .i64]] (.ite (.o2 .lt (.var 9) (.o1 .len (.upd (.var 8) (.var 6) 0 (.lcons (.var 4) .lnil)))) (.need (.o2 .le (.int .i64 0) (.var 9)) (.need (.o2 .lt (.var 9) (.o1 .len (.var 10))) (.lets [.ite (.o2 .eq (.idx (.var 10) (.var 9) 7 .str) (.var 3)) (.upd (.var 10) (.var 9) 7 (.lcons (.var 4) .lnil)) (.var 10)] (.again 0 [.o2 (.add .i64) (.var 9) (.int .i64 1), .var 11])))) (.callX false 87 [.d (.lcons (.var 0) (.lcons (.var 1) (.lcons (.var 2) .lnil))), .own 9 (.var 10)] [.agg [.int .i64, .int .i64, .slice [.str, .str, .slice [.int .i64, .int .i64, .int .i64, .int .i64, .int .i64], .slice [.int .i64, .int .i64, .int .i64, .int .i64, .int .i64, .int .i64], .bool, .bool, .int .i64, .str, .int .i64]]] (.ret [.d (.lcons (.var 11) (.lcons (.var 12) (.lcons (.var 13) .lnil))), .d (.int .i64 0)]))))))))))))))
theorem t19_ok : fnO Tryz.prog mdA 19 [.agg [.int .i64, .int .i64, .slice [.str, .str, .slice [.int .i64, .int .i64, .int .i64, .int .i64, .int .i64], .slice [.int .i64, .int .i64, .int .i64, .int .i64, .int .i64, .int .i64], .bool, .bool, .int .i64, .str, .int .i64]], .cell .str, .cell .str] = t19 := by kernel_rfl
theorem c19 : callable Tryz.prog 19 = true := by kernel_rfl
theorem clone_ok : Contract Tryz.prog 86 fun args K => ∃ (cs : List Cue), (∀ c ∈ cs, c.Ok) ∧ cs ≠ [] ∧ cs.length ≤ 1000000 ∧ args = [.slice (cs.map Cue.enc)] ∧ K [.own 9 (cs.map Cue.enc)] := by
  refine .of c86 t86_ok ?_
  rintro _ K ⟨cs, hcs, hne, hlen, rfl, hK⟩ hsm
  refine ⟨[.slice (cs.map Cue.enc)], rfl, ⟨cues_has hcs, trivial⟩, ?_⟩
  have hpos := List.length_pos_iff.2 hne
  unfold t86
  simp only [denR]
  intro b hb
  simp only [zz, RT.den, den, O1.eval, O2.eval, D.eqb, Ags.none, reduceCtorEq, forall_const, if_true, if_false, ite_true, ite_false, D.sub, D.cell, D.elem, D.cells, D.padd, D.list, D.push, List.length_map]
  cases b with
  | true =>
    exfalso
    have := hb rfl
    simp only [zz, RT.den, den, O1.eval, O2.eval, D.eqb, Ags.none, reduceCtorEq, forall_const, if_true, if_false, ite_true, ite_false, D.sub, D.cell, D.elem, D.cells, D.padd, D.list, D.push, List.length_map] at this
    omega
  | false =>
    exact ⟨fun h => by simp at h, fun _ => ⟨by omega, hK⟩⟩
theorem withCmp_ok : Contract Tryz.prog 153 fun args K => ∃ (a b : Cue), a.Ok ∧ b.Ok ∧ args = [.agg a.enc, .agg b.enc] ∧ K [.d (.int .i64 (comp a.num b.num))] := by
  refine .of c153 t153_ok ?_
  rintro _ K ⟨a, b, ha, hb, rfl, hK⟩ hsm
  refine ⟨a.enc ++ b.enc, rfl, by exact (Cue.has ha).append (Cue.has hb), ?_⟩
  refine denR_call compare_ok ⟨a.num, b.num, rfl, _, rfl, ?_⟩
  simp only [zz, RT.den, den, O1.eval, O2.eval, D.eqb, Ags.none, reduceCtorEq, forall_const, if_true, if_false, ite_true, ite_false, D.sub, D.cell, D.elem, D.cells, D.padd, D.list, D.push, Cue.enc]
  exact hK
theorem cue_flat (c : Cue) : ∀ d ∈ c.enc, D.flat d = true := by
  intro d hd
  simp only [Cue.enc, List.mem_cons, List.not_mem_nil, or_false] at hd
  rcases hd with rfl | rfl | rfl | rfl | rfl | rfl | rfl | rfl | rfl <;> rfl
theorem sort152_ok : ContractX Tryz.prog 152 [.own cueKs, .cell .fn] true fun args K => ∃ (l : List Cue) (g : FuncId) (caps : List D) (key : Cue → Int) (cf : Cue → Cue → Int) (sf : Spec), l ≠ [] ∧ (∀ x ∈ l, HasKs cueKs (Cue.enc x)) ∧ args = [.own 9 (l.map Cue.enc), .d (.clo g caps)] ∧ FvC Tryz.prog (.clo g caps) sf ∧
      (∀ x ∈ l, ∀ y ∈ l, (cf x y < 0 ↔ key x < key y) ∧ sf [.agg (Cue.enc x), .agg (Cue.enc y)] fun rs => rs = [.d (.int .i64 (cf x y))]) ∧ ∀ l' : List Cue, l'.Perm l → l'.Pairwise (fun a b => key a ≤ key b) → K [.own 9 (l'.map Cue.enc)] :=
  sort_ok (X := Cue) (enc := Cue.enc) (ks := cueKs) (k := 9) Tryz.sort152 (by kernel_rfl) (by kernel_rfl) rfl (by omega) cue_flat (fun _ => rfl) (fun w => by kernel_rfl) (fun w => by kernel_rfl) (by kernel_rfl)
theorem with_ok : ContractX Tryz.prog 87 [.agg liKs, .own cueKs] false fun args K => ∃ (l : Lis) (cs : List Cue), l.Ok ∧ (∀ c ∈ cs, c.Ok) ∧ (∀ c ∈ cs, check05 c.num = 0) ∧ cs ≠ [] ∧ args = [.d (.agg l.enc), .own 9 (cs.map Cue.enc)] ∧
    ∀ cs' : List Cue, cs'.Perm cs → cs'.Pairwise (fun a b => valOf a ≤ valOf b) → K [.d (.agg (Lis.enc { l with cues := cs' }))] := by
  refine .of c87 t87_ok ?_
  rintro _ K ⟨l, cs, hl, hcs, hnum, hne, rfl, hK⟩
  refine ⟨l.enc ++ [.slice (cs.map Cue.enc)], rfl, by exact has_li hl ⟨cues_has hcs, trivial⟩, ?_⟩
  unfold t87
  simp only [denR]
  refine ⟨[.own cueKs, .cell .fn], _, sort152_ok, ⟨[.slice (cs.map Cue.enc), .clo 153 []], rfl, ⟨cues_has hcs, trivial, trivial⟩⟩, fun _ => rfl, ?_⟩
  refine ⟨cs, 153, [], valOf, fun a b => comp a.num b.num, fun as_ K => ∃ a b : Cue, a.Ok ∧ b.Ok ∧ as_ = [.agg a.enc, .agg b.enc] ∧ K [.d (.int .i64 (comp a.num b.num))], hne, fun c hc => Cue.has (hcs c hc), rfl, FvC.of c153 withCmp_ok ?_, ?_, ?_⟩
  · rintro _ K ⟨a, b, ha, hb, rfl, hK⟩
    refine ⟨⟨a, b, ha, hb, rfl, hK⟩, argsTyped_of [some (.agg cueKs), some (.agg cueKs)] (by kernel_rfl) ?_⟩
    intro i rk d h1 h2
    match i, h1, h2 with
    | 0, h1, h2 => simp at h1 h2; subst h1 h2; exact Cue.has ha
    | 1, h1, h2 => simp at h1 h2; subst h1 h2; exact Cue.has hb
  · intro a ha b hb
    refine ⟨?_, a, b, hcs a ha, hcs b hb, rfl, rfl⟩
    show comp a.num b.num < 0 ↔ _
    rw [comp_order (hnum a ha) (hnum b hb)]
    exact order_neg _ _
  · intro cs' hp hs
    refine ⟨[.slice (cs'.map Cue.enc)], rfl, ?_⟩
    simp only [zz, RT.den, den, O1.eval, O2.eval, D.eqb, Ags.none, reduceCtorEq, forall_const, if_true, if_false, ite_true, ite_false, D.sub, D.cell, D.elem, D.cells, D.padd, D.list, D.push, Lis.enc, D.list]
    exact hK cs' hp hs
def relink (f t : List UInt8) (c : Cue) : Cue := { c with link := if c.link = f then t else c.link }
theorem relink_ok {f t : List UInt8} {c : Cue} (h : c.Ok) : (relink f t c).Ok := ⟨h.moves, h.parts, h.follow, h.loops⟩
def renum (t : List UInt8) (c : Cue) : Cue := { c with num := t }
theorem renum_ok {t : List UInt8} {c : Cue} (h : c.Ok) : (renum t c).Ok := ⟨h.moves, h.parts, h.follow, h.loops⟩
def renumbered (cs : List Cue) (f t : List UInt8) : List Cue := placed (without (cs.map (relink f t)) f) (renum t ((cs.map (relink f t))[(place cs f).toNat]!))
def zeroL : Lis := ⟨0, 0, []⟩
def renumRef (l : Lis) (f t : List UInt8) : Lis × Int :=
  if given17 l f ≠ 0 then (zeroL, given17 l f) else if check05 t ≠ 0 then (zeroL, check05 t) else if place l.cues f < 0 then (zeroL, 6) else if f ≠ t ∧ 0 ≤ place l.cues t then (zeroL, 7) else ({ l with cues := renumbered l.cues f t }, 0)
end Go.Sx.La
set_option maxRecDepth 100000
namespace Go.Sx.La
open Go Go.Sx Go.RowKit Go.Proofs
theorem split_at {X : Type} {cs : List X} {j : Nat} (hj : j < cs.length) : cs = cs.take j ++ cs[j] :: cs.drop (j + 1) := by
  rw [← List.drop_eq_getElem_cons hj, List.take_append_drop]
theorem modify_at {X : Type} : ∀ {cs : List X} {j : Nat} (hj : j < cs.length) (g : X → X), cs.modify j g = cs.take j ++ g cs[j] :: cs.drop (j + 1)
  | [], _, h, _ => by simp at h
  | c :: cs, 0, _, g => by simp
  | c :: cs, j + 1, h, g => by
    have := modify_at (cs := cs) (j := j) (by simpa using h) g
    simp [this]
theorem rising_ne {cs : List Cue} (h : Rising cs) {i j : Nat} (hi : i < cs.length) (hj : j < cs.length) (hne : i ≠ j) : valOf cs[i] ≠ valOf cs[j] := by
  rw [Rising, List.pairwise_iff_getElem] at h
  rcases Nat.lt_or_gt_of_ne hne with h1 | h1
  · have := h i j hi hj h1; omega
  · have := h j i hj hi h1; omega
theorem without_at {cs : List Cue} (hr : Rising cs) {f : List UInt8} {j : Nat} (hj : j < cs.length) (hf : (cs[j]).num = f) : without cs f = cs.take j ++ cs.drop (j + 1) := by
  have keep : ∀ {xs : List Cue}, (∀ x ∈ xs, valOf x ≠ value05 f) → without xs f = xs := by
    intro xs h
    refine List.filter_eq_self.2 fun x hx => ?_
    have := h x hx
    simp only [valOf] at this
    simp only [Bool.not_eq_true', beq_eq_false_iff_ne, ne_eq]
    intro e; exact this (by rw [e])
  have ev : valOf cs[j] = value05 f := by simp [valOf, hf]
  have h1 : without (cs.take j) f = cs.take j := keep fun x hx => by
    obtain ⟨i, hi, rfl⟩ := List.mem_iff_getElem.1 hx
    rw [List.length_take] at hi
    rw [List.getElem_take, ← ev]
    exact rising_ne hr (by omega) hj (by omega)
  have h2 : without (cs.drop (j + 1)) f = cs.drop (j + 1) := keep fun x hx => by
    obtain ⟨i, hi, rfl⟩ := List.mem_iff_getElem.1 hx
    rw [List.length_drop] at hi
    rw [List.getElem_drop, ← ev]
    exact rising_ne hr (by omega) hj (by omega)
  conv => lhs; rw [split_at hj]
  simp only [without, List.filter_append, List.filter_cons] at h1 h2 ⊢
  rw [h1, h2]
  simp [hf]
theorem rising_map {g : Cue → Cue} (hg : ∀ c, (g c).num = c.num) {cs : List Cue} (h : Rising cs) : Rising (cs.map g) := by
  rw [Rising, List.pairwise_map]
  exact h.imp fun {a b} hab => by simpa [valOf, hg] using hab
theorem renumbered_eq {cs cs' : List Cue} {f t : List UInt8} {j : Nat} (hr : Rising cs) (hn : ∀ c ∈ cs, check05 c.num = 0) (ht : check05 t = 0) (hj : j < cs.length) (hf : (cs[j]).num = f) (hp : place cs f = j) (hft : f = t ∨ ∀ c ∈ cs, c.num ≠ t)
    (hperm : cs'.Perm ((cs.modify j (renum t)).map (relink f t))) (hs : cs'.Pairwise fun a b => valOf a ≤ valOf b) : cs' = renumbered cs f t := by
  have hr' := rising_map (g := relink f t) (fun _ => rfl) hr
  have hj' : j < (cs.map (relink f t)).length := by simpa using hj
  have e1 : (cs.map (relink f t))[(place cs f).toNat]! = relink f t cs[j] := by
    rw [hp, Int.toNat_natCast, getElem!_pos _ j hj', List.getElem_map]
  have e2 := without_at hr' hj' (f := f) (by rw [List.getElem_map]; exact hf)
  have hw : Rising (without (cs.map (relink f t)) f) := List.Pairwise.filter _ hr'
  have hne : ∀ x ∈ without (cs.map (relink f t)) f, valOf x ≠ valOf (renum t (relink f t cs[j])) := by
    intro x hx
    obtain ⟨hx1, hx2⟩ := List.mem_filter.1 hx
    obtain ⟨y, hy, rfl⟩ := List.mem_map.1 hx1
    show value05 y.num ≠ value05 t
    intro e
    have e' := value05_inj (hn y hy) ht e
    rcases hft with rfl | h
    · have : y.num ≠ f := by simpa [relink] using hx2
      exact this e'
    · exact h y hy e'
  unfold renumbered
  rw [e1, placed_ins hw hne]
  refine perm_sorted_eq valOf _ _ ?_ hs (ins_rising hw hne)
  refine hperm.trans (List.Perm.trans ?_ (ins_perm _ _).symm)
  rw [modify_at hj, List.map_append, List.map_cons, e2]
  have e3 : relink f t (renum t cs[j]) = renum t (relink f t cs[j]) := rfl
  rw [e3, ← List.map_take, ← List.map_drop]
  exact List.perm_middle
theorem renumbered_self {cs : List Cue} {f : List UInt8} {j : Nat} (hr : Rising cs) (hn : ∀ c ∈ cs, check05 c.num = 0) (hj : j < cs.length) (hf : (cs[j]).num = f) (hp : place cs f = j) : cs = renumbered cs f f := by
  have e : (cs.modify j (renum f)).map (relink f f) = cs := by
    have e1 : cs.modify j (renum f) = cs := by
      rw [modify_at hj]
      have : renum f cs[j] = cs[j] := by rw [← hf]; rfl
      rw [this, ← split_at hj]
    rw [e1]
    have : relink f f = id := by
      funext c
      simp only [relink, id_eq]
      split
      · rename_i h; rw [← h]
      · rfl
    rw [this, List.map_id]
  refine renumbered_eq hr hn (by rw [← hf]; exact hn _ (List.getElem_mem hj)) hj hf hp (.inl rfl) (by rw [e]) ?_
  exact hr.imp fun {a b} h => Int.le_of_lt h
end Go.Sx.La
set_option maxRecDepth 100000
namespace Go.Sx.La
open Go Go.Sx Go.RowKit Go.Proofs
theorem map_modify {X Y : Type} {enc : X → Y} {g : X → X} {h : Y → Y} (hg : ∀ c, h (enc c) = enc (g c)) : ∀ (xs : List X) (j : Nat), (xs.map enc).modify j h = (xs.modify j g).map enc
  | [], _ => by simp
  | c :: cs, 0 => by simp [hg]
  | c :: cs, j + 1 => by simp [map_modify hg cs j]
def setLink (t : List UInt8) (c : Cue) : Cue := { c with link := t }
theorem upd_num (cs : List Cue) (j : Nat) (t : List UInt8) : D.upd (.slice (cs.map Cue.enc)) (.int .i64 (j : Nat)) 0 [.str t] = .slice ((cs.modify j (renum t)).map Cue.enc) := by
  simp only [D.upd, Int.toNat_natCast]
  rw [map_modify (g := renum t)]
  intro c; rfl
theorem upd_link (cs : List Cue) (j : Nat) (t : List UInt8) : D.upd (.slice (cs.map Cue.enc)) (.int .i64 (j : Nat)) 7 [.str t] = .slice ((cs.modify j (setLink t)).map Cue.enc) := by
  simp only [D.upd, Int.toNat_natCast]
  rw [map_modify (g := setLink t)]
  intro c; rfl
def ReI (out : List Cue) (f t : List UInt8) (i : Nat) (a : List Cue) : Prop := a = (out.take i).map (relink f t) ++ out.drop i
theorem given_zero {l : Lis} {f : List UInt8} (h1 : checkL order05 l = 0) (h2 : check05 f = 0) : given17 l f = 0 := by simp [given17, h1, h2]
theorem denR_callX {P : Program} {F : Option Nat → List RV → Prop} {upd : Bool} {f : FuncId} {args : List RT} {res : List RK} {r : R} {ags : Ags} {ρ : List D} {pk : List PK} {s : SpecX} (hc : ContractX P f pk upd s) (h1 : ∃ τ, pkRhoX pk (args.map (RT.den ρ)) = some τ ∧ HasKs (pkKinds pk) τ) (h2 : upd = true → res.drop (fnTypes P f).length = ownKs pk)
    (h : s (args.map (RT.den ρ)) fun rvs => ∃ rs, RV.all res rvs = some rs ∧ denR P F noK r ags (ρ ++ rs)) : denR P F noK (.callX upd f args res r) ags ρ := ⟨pk, s, hc, h1, h2, h⟩
theorem renumber_ok : Contract Tryz.prog 19 fun args K => ∃ (l : Lis) (f t : List UInt8), l.Ok ∧ args = [.agg l.enc, .str f, .str t] ∧ K [.d (.agg (renumRef l f t).1.enc), .d (.int .i64 (renumRef l f t).2)] := by
  refine .of c19 t19_ok ?_
  rintro _ K ⟨l, f, t, hl, rfl, hK⟩ hsm
  refine ⟨l.enc ++ [.str f, .str t], rfl, by exact has_ss hl, ?_⟩
  refine denR_call checked_ok ⟨l, [f, t], hl, rfl, _, rfl, ?_⟩
  simp only [zz, RT.den, den, O1.eval, O2.eval, D.eqb, Ags.none, reduceCtorEq, forall_const, if_true, if_false, ite_true, ite_false, D.sub, D.cell, D.elem, D.cells, D.padd, D.list, D.push, Lis.enc]
  by_cases h1 : checkL order05 l = 0
  rotate_left
  · have e1 : checkedL l [f, t] = checkL order05 l := by simp [checkedL, h1]
    have e2 : given17 l f = checkL order05 l := by simp [given17, h1]
    have e3 : renumRef l f t = (zeroL, checkL order05 l) := by simp [renumRef, e2, h1]
    rw [e3] at hK
    rw [e1]
    exact ⟨fun _ => hK, fun h => by simp [h1] at h⟩
  by_cases h2 : check05 f = 0
  rotate_left
  · have e1 : checkedL l [f, t] = check05 f := by simp [checkedL, h1, checkedGo, h2]
    have e2 : given17 l f = check05 f := by simp [given17, h1]
    have e3 : renumRef l f t = (zeroL, check05 f) := by simp [renumRef, e2, h2]
    rw [e3] at hK
    rw [e1]
    exact ⟨fun _ => hK, fun h => by simp [h2] at h⟩
  have hg := given_zero h1 h2
  by_cases h3 : check05 t = 0
  rotate_left
  · have e1 : checkedL l [f, t] = check05 t := by simp [checkedL, h1, checkedGo, h2, h3]
    have e3 : renumRef l f t = (zeroL, check05 t) := by simp [renumRef, hg, h3]
    rw [e3] at hK
    rw [e1]
    exact ⟨fun _ => hK, fun h => by simp [h3] at h⟩
  have e1 : checkedL l [f, t] = 0 := by simp [checkedL, h1, checkedGo, h2, h3]
  rw [e1]
  refine ⟨fun h => by simp at h, fun _ => ?_⟩
  have hR := rightL_of h1
  unfold renumRef at hK
  rw [if_neg (by simp [hg]), if_neg (by simp [h3])] at hK
  refine denR_call place_ok ⟨l, f, hl, rfl, _, rfl, ?_⟩
  simp only [zz, RT.den, den, O1.eval, O2.eval, D.eqb, Ags.none, reduceCtorEq, forall_const, if_true, if_false, ite_true, ite_false, D.sub, D.cell, D.elem, D.cells, D.padd, D.list, D.push]
  refine ⟨fun h => ?_, fun h => ?_⟩
  · rw [if_pos h] at hK; exact hK
  have hpl : ¬ place l.cues f < 0 := by omega
  rw [if_neg hpl] at hK
  obtain ⟨j, hj, hp, hjf, _⟩ := place_pos hpl
  refine ⟨fun h => ?_, fun h => ?_⟩
  · have e : f = t := by simpa using h
    subst e
    rw [if_neg (by simp), ← renumbered_self hR.rising hR.num hj hjf hp] at hK
    exact hK
  have hft : f ≠ t := by simpa using h
  refine denR_call place_ok ⟨l, t, hl, rfl, _, rfl, ?_⟩
  simp only [zz, RT.den, den, O1.eval, O2.eval, D.eqb, Ags.none, reduceCtorEq, forall_const, if_true, if_false, ite_true, ite_false, D.sub, D.cell, D.elem, D.cells, D.padd, D.list, D.push]
  refine ⟨fun h => ?_, fun h => ?_⟩
  · rw [if_pos ⟨hft, h⟩] at hK; exact hK
  rw [if_neg (by omega)] at hK
  have hlen := hR.len
  have hne : l.cues ≠ [] := by rintro e; rw [e] at hj; simp at hj
  refine denR_call clone_ok ⟨l.cues, hl.cues, hne, by omega, rfl, _, rfl, ?_⟩
  rw [hp]
  simp only [zz, RT.den, den, O1.eval, O2.eval, D.eqb, Ags.none, reduceCtorEq, forall_const, if_true, if_false, ite_true, ite_false, D.sub, D.cell, D.elem, D.cells, D.padd, D.list, D.push, upd_num, List.length_map, List.length_modify]
  refine ⟨by omega, hj, fun hcap => ?_⟩
  generalize hout : l.cues.modify j (renum t) = out
  have hol : out.length = l.cues.length := by rw [← hout]; simp
  have hoo : ∀ c ∈ out, c.Ok ∧ check05 c.num = 0 := by
    intro c hc
    rw [← hout, modify_at hj] at hc
    rcases List.mem_append.1 hc with hc | hc
    · have := List.mem_of_mem_take hc; exact ⟨hl.cues c this, hR.num c this⟩
    · rcases List.mem_cons.1 hc with rfl | hc
      · exact ⟨renum_ok (hl.cues _ (List.getElem_mem hj)), h3⟩
      · have := List.mem_of_mem_drop hc; exact ⟨hl.cues c this, hR.num c this⟩
  refine loop_goI out (fun _ _ (_ : List Cue) => ()) (fun i a => [.int .i64 i, .slice (a.map Cue.enc)]) (ReI out f t) out () rfl (by simp [ReI]) 0 (fun _ _ => rfl) ?_ ?_ ?_
  · simp only [zz, RT.den, den, O1.eval, O2.eval, D.eqb, Ags.none, reduceCtorEq, forall_const, if_true, if_false, ite_true, ite_false, D.sub, D.cell, D.elem, D.cells, D.padd, D.list, D.push, upd_num, hout]
    rfl
  · intro i hi a haI _
    have ha : a = (out.take i).map (relink f t) ++ out.drop i := haI
    clear haI
    have hal : a.length = out.length := by rw [ha]; simp; omega
    have hia : i < a.length := by omega
    have hil : i < l.cues.length := by omega
    have hai : a[i] = out[i] := by
      have hd : out.drop i = out[i] :: out.drop (i + 1) := List.drop_eq_getElem_cons hi
      simp only [ha, hd]
      rw [List.getElem_append_right (by simp; omega)]
      simp [Nat.min_eq_left (Nat.le_of_lt hi)]
    simp only [zz, RT.den, den, O1.eval, O2.eval, D.eqb, Ags.none, reduceCtorEq, forall_const, if_true, if_false, ite_true, ite_false, D.sub, D.cell, D.elem, D.cells, D.padd, D.list, D.push, upd_num, hout, List.length_map, hol, hi, hia, hil, getD_map hia, hai, Cue.enc, upd_link]
    refine ⟨by omega, ?_⟩
    have hstep : (if (out[i]).link = f then a.modify i (setLink t) else a) = (out.take (i + 1)).map (relink f t) ++ out.drop (i + 1) := by
      have h0 : a = (out.take i).map (relink f t) ++ out[i] :: out.drop (i + 1) := by rw [ha, ← List.drop_eq_getElem_cons hi]
      have ht : out.take (i + 1) = out.take i ++ [out[i]] := List.take_succ_eq_append_getElem hi
      have hm : a.modify i (setLink t) = (out.take i).map (relink f t) ++ setLink t out[i] :: out.drop (i + 1) := by
        rw [modify_at hia, hai]
        have e1 : a.take i = (out.take i).map (relink f t) := by
          rw [h0]; rw [List.take_append_of_le_length (by simp; omega)]; rw [List.take_of_length_le (by simp; omega)]
        have e2 : a.drop (i + 1) = out.drop (i + 1) := by
          rw [h0, List.drop_append]
          simp [Nat.min_eq_left (Nat.le_of_lt hi)]
        rw [e1, e2]
      rw [hm, ht, List.map_append, List.map_singleton, List.append_assoc, List.singleton_append]
      split
      · rename_i h; simp [relink, h, setLink]
      · rename_i h
        rw [h0]
        have : relink f t out[i] = out[i] := by simp [relink, h]
        rw [this]
    refine ⟨if (out[i]).link = f then a.modify i (setLink t) else a, ⟨by rw [wr64_eq] <;> omega, ?_⟩, hstep⟩
    by_cases h : (out[i]).link = f <;> simp [h]
  · intro a haI _
    have ha : a = (out.take out.length).map (relink f t) ++ out.drop out.length := haI
    clear haI
    rw [List.take_length, List.drop_length, List.append_nil] at ha
    simp only [zz, RT.den, den, O1.eval, O2.eval, D.eqb, Ags.none, reduceCtorEq, forall_const, if_true, if_false, ite_true, ite_false, D.sub, D.cell, D.elem, D.cells, D.padd, D.list, D.push, upd_num, hout, List.length_map, hol]
    have haa : ∀ c ∈ a, c.Ok ∧ check05 c.num = 0 := by
      intro c hc
      rw [ha] at hc
      obtain ⟨x, hx, rfl⟩ := List.mem_map.1 hc
      exact ⟨relink_ok (hoo x hx).1, (hoo x hx).2⟩
    refine denR_callX with_ok ⟨l.enc ++ [.slice (a.map Cue.enc)], rfl, by exact has_li hl ⟨cues_has fun c hc => (haa c hc).1, trivial⟩⟩ (fun h => by cases h) ⟨l, a, hl, fun c hc => (haa c hc).1, fun c hc => (haa c hc).2, ?_, rfl, ?_⟩
    · intro e
      have : a.length = l.cues.length := by rw [ha]; simp [hol]
      rw [e] at this; simp at this; omega
    · intro cs' hperm hs
      have := renumbered_eq hR.rising hR.num h3 hj hjf hp (.inr fun c hc e => by
        have h5 : place l.cues t < 0 := by omega
        exact place_neg.1 h5 c hc e) (by rw [hout, ← ha]; exact hperm) hs
      subst this
      refine ⟨_, rfl, ?_⟩
      simp only [zz, RT.den, den, O1.eval, O2.eval, D.eqb, Ags.none, reduceCtorEq, forall_const, if_true, if_false, ite_true, ite_false, D.sub, D.cell, D.elem, D.cells, D.padd, D.list, D.push, Lis.enc, D.list]
      exact hK
end Go.Sx.La
set_option maxRecDepth 100000
namespace Go.Sx.La
open Go Go.Sx Go.RowKit Go.Proofs
noncomputable def t149 : R := .ret [.d (.lcons (.var 0) (.lcons (.str []) (.lcons .nils (.lcons (.rep (.int .i64 1) (.lcons (.int .i64 0) (.lcons (.int .i64 0) (.lcons (.int .i64 0) (.lcons (.int .i64 0) (.lcons (.int .i64 0) (.lcons (.int .i64 0) .lnil))))))) (.lcons (.bool false) (.lcons (.bool false) (.lcons (.int .i64 (-1)) (.lcons (.var 1) (.lcons (.int .i64 0) .lnil)))))))))]
theorem t149_ok : fnO Tryz.prog mdA 149 [.cell .str, .cell .str] = t149 := by kernel_rfl
theorem c149 : callable Tryz.prog 149 = true := by kernel_rfl
noncomputable def t83 : R := .call none (.fn 149) [.str [49], .str []] [.agg [.str, .str, .slice [.int .i64, .int .i64, .int .i64, .int .i64, .int .i64], .slice [.int .i64, .int .i64, .int .i64, .int .i64, .int .i64, .int .i64], .bool, .bool, .int .i64, .str, .int .i64]] (.call none (.fn 149) [.str [50, 46, 53], .str [49]] [.agg [.str, .str, .slice [.int .i64, .int .i64, .int .i64, .int .i64, .int .i64], .slice [.int .i64, .int .i64, .int .i64, .int .i64, .int .i64, .int .i64], .bool, .bool, .int .i64, .str, .int .i64]] (.call none (.fn 149) [.str [51], .str [52]] [.agg [.str, .str, .slice [.int .i64, .int .i64, .int .i64, .int .i64, .int .i64], .slice [.int .i64, .int .i64, .int .i64, .int .i64, .int .i64, .int .i64], .bool, .bool, .int .i64, .str, .int .i64]] (.ret [.d (.lcons (.int .i64 1) (.lcons (.int .i64 0) (.lcons (.push (.push (.push .nils (.lcons (.var 0) (.lcons (.var 1) (.lcons (.var 2) (.lcons (.var 3) (.lcons (.var 4) (.lcons (.var 5) (.lcons (.var 6) (.lcons (.var 7) (.lcons (.var 8) .lnil)))))))))) (.lcons (.var 9) (.lcons (.var 10) (.lcons (.var 11) (.lcons (.var 12) (.lcons (.var 13) (.lcons (.var 14) (.lcons (.var 15) (.lcons (.var 16) (.lcons (.var 17) .lnil)))))))))) (.lcons (.var 18) (.lcons (.var 19) (.lcons (.var 20) (.lcons (.var 21) (.lcons (.var 22) (.lcons (.var 23) (.lcons (.var 24) (.lcons (.var 25) (.lcons (.var 26) .lnil)))))))))) .lnil)))])))
theorem t83_ok : fnO Tryz.prog mdA 83 [] = t83 := by kernel_rfl
theorem c83 : callable Tryz.prog 83 = true := by kernel_rfl
noncomputable def t18 : R := .call none (.fn 83) [] [.agg [.int .i64, .int .i64, .slice [.str, .str, .slice [.int .i64, .int .i64, .int .i64, .int .i64, .int .i64], .slice [.int .i64, .int .i64, .int .i64, .int .i64, .int .i64, .int .i64], .bool, .bool, .int .i64, .str, .int .i64]]] (.call none (.fn 30) [.lcons (.var 0) (.lcons (.var 1) (.lcons (.var 2) .lnil)), .str [50]] [.cell .str, .cell .bool, .cell (.int .i64)] (.call none (.fn 32) [.lcons (.var 0) (.lcons (.var 1) (.lcons (.var 2) .lnil)), .str [50, 46, 53]] [.cell .str, .cell .bool, .cell (.int .i64)] (.call none (.fn 30) [.lcons (.var 0) (.lcons (.var 1) (.lcons (.var 2) .lnil)), .str [51]] [.cell .str, .cell .bool, .cell (.int .i64)] (.call none (.fn 24) [.lcons (.var 0) (.lcons (.var 1) (.lcons (.var 2) .lnil))] [.cell (.slice [.str]), .cell (.int .i64)] (.ite (.o1 .not (.ite (.ite (.ite (.ite (.ite (.o2 .ne (.o2 (.add .i64) (.o2 (.add .i64) (.o2 (.add .i64) (.var 5) (.var 8)) (.var 11)) (.var 13)) (.int .i64 0)) (.bool true) (.o2 .ne (.var 3) (.str [50, 46, 53]))) (.bool true) (.o1 .not (.var 4))) (.bool true) (.o2 .ne (.var 6) (.str [49]))) (.bool true) (.o1 .not (.var 7))) (.bool true) (.var 10))) (.call none (.fn 36) [.var 12, .push .nils (.lcons (.str [51]) .lnil)] [.cell .bool] (.ite (.ite (.var 10) (.bool true) (.o1 .not (.var 14))) (.ret [.d (.bool false)]) (.call none (.fn 19) [.lcons (.var 0) (.lcons (.var 1) (.lcons (.var 2) .lnil)), .str [49], .str [53]] [.agg [.int .i64, .int .i64, .slice [.str, .str, .slice [.int .i64, .int .i64, .int .i64, .int .i64, .int .i64], .slice [.int .i64, .int .i64, .int .i64, .int .i64, .int .i64, .int .i64], .bool, .bool, .int .i64, .str, .int .i64]], .cell (.int .i64)] (.call none (.fn 19) [.lcons (.var 0) (.lcons (.var 1) (.lcons (.var 2) .lnil)), .str [49], .str [51]] [.agg [.int .i64, .int .i64, .slice [.str, .str, .slice [.int .i64, .int .i64, .int .i64, .int .i64, .int .i64], .slice [.int .i64, .int .i64, .int .i64, .int .i64, .int .i64, .int .i64], .bool, .bool, .int .i64, .str, .int .i64]], .cell (.int .i64)] (.call (some (.ite (.o2 .eq (.var 18) (.int .i64 0)) (.o2 .eq (.var 22) (.int .i64 7)) (.bool false))) (.fn 40) [.lcons (.var 15) (.lcons (.var 16) (.lcons (.var 17) .lnil))] [.cell (.slice [.str])] (.ite (.ite (.o2 .eq (.var 18) (.int .i64 0)) (.o2 .eq (.var 22) (.int .i64 7)) (.bool false)) (.call none (.fn 36) [.var 23, .push (.push (.push .nils (.lcons (.str [50, 46, 53]) .lnil)) (.lcons (.str [51]) .lnil)) (.lcons (.str [53]) .lnil)] [.cell .bool] (.need (.ite (.var 24) (.o2 .lt (.int .i64 0) (.o1 .len (.var 17))) (.bool true)) (.ret [.d (.ite (.var 24) (.o2 .eq (.idx (.var 17) (.int .i64 0) 7 .str) (.str [53])) (.bool false))]))) (.call (some (.bool false)) (.fn 36) [.var 23, .nils] [.cell .bool] (.ret [.d (.bool false)])))))))) (.call (some (.bool false)) (.fn 36) [.var 12, .nils] [.cell .bool] (.ite (.ite (.ite (.ite (.ite (.ite (.ite (.o2 .ne (.o2 (.add .i64) (.o2 (.add .i64) (.o2 (.add .i64) (.var 5) (.var 8)) (.var 11)) (.var 13)) (.int .i64 0)) (.bool true) (.o2 .ne (.var 3) (.str [50, 46, 53]))) (.bool true) (.o1 .not (.var 4))) (.bool true) (.o2 .ne (.var 6) (.str [49]))) (.bool true) (.o1 .not (.var 7))) (.bool true) (.var 10)) (.bool true) (.o1 .not (.var 14))) (.ret [.d (.bool false)]) (.call none (.fn 19) [.lcons (.var 0) (.lcons (.var 1) (.lcons (.var 2) .lnil)), .str [49], .str [53]] [.agg [.int .i64, .int .i64, .slice [.str, .str, .slice [.int .i64, .int .i64, .int .i64, .int .i64, .int .i64], .slice [.int .i64, .int .i64, .int .i64, .int .i64, .int .i64, .int .i64], .bool, .bool, .int .i64, .str, .int .i64]], .cell (.int .i64)] (.call none (.fn 19) [.lcons (.var 0) (.lcons (.var 1) (.lcons (.var 2) .lnil)), .str [49], .str [51]] [.agg [.int .i64, .int .i64, .slice [.str, .str, .slice [.int .i64, .int .i64, .int .i64, .int .i64, .int .i64], .slice [.int .i64, .int .i64, .int .i64, .int .i64, .int .i64, .int .i64], .bool, .bool, .int .i64, .str, .int .i64]], .cell (.int .i64)] (.call (some (.ite (.o2 .eq (.var 18) (.int .i64 0)) (.o2 .eq (.var 22) (.int .i64 7)) (.bool false))) (.fn 40) [.lcons (.var 15) (.lcons (.var 16) (.lcons (.var 17) .lnil))] [.cell (.slice [.str])] (.ite (.ite (.o2 .eq (.var 18) (.int .i64 0)) (.o2 .eq (.var 22) (.int .i64 7)) (.bool false)) (.call none (.fn 36) [.var 23, .push (.push (.push .nils (.lcons (.str [50, 46, 53]) .lnil)) (.lcons (.str [51]) .lnil)) (.lcons (.str [53]) .lnil)] [.cell .bool] (.need (.ite (.var 24) (.o2 .lt (.int .i64 0) (.o1 .len (.var 17))) (.bool true)) (.ret [.d (.ite (.var 24) (.o2 .eq (.idx (.var 17) (.int .i64 0) 7 .str) (.str [53])) (.bool false))]))) (.call (some (.bool false)) (.fn 36) [.var 23, .nils] [.cell .bool] (.ret [.d (.bool false)])))))))))))))
theorem t18_ok : fnO Tryz.prog mdA 18 [] = t18 := by kernel_rfl
theorem c18 : callable Tryz.prog 18 = true := by kernel_rfl
theorem denR_iteT {P : Program} {F : Option Nat → List RV → Prop} {t : T} {a b : R} {ags : Ags} {ρ : List D} (h : den ρ t = .bool true) (ha : denR P F noK a ags ρ) : denR P F noK (.ite t a b) ags ρ := ⟨fun _ => ha, fun h' => by rw [h] at h'; cases h'⟩
theorem denR_iteF {P : Program} {F : Option Nat → List RV → Prop} {t : T} {a b : R} {ags : Ags} {ρ : List D} (h : den ρ t = .bool false) (hb : denR P F noK b ags ρ) : denR P F noK (.ite t a b) ags ρ := ⟨fun h' => absurd (h.symm.trans h') (by simp), fun _ => hb⟩
theorem denR_needT {P : Program} {F : Option Nat → List RV → Prop} {t : T} {a : R} {ags : Ags} {ρ : List D} (h : den ρ t = .bool true) (ha : denR P F noK a ags ρ) : denR P F noK (.need t a) ags ρ := ⟨h, ha⟩
def tc (n l : List UInt8) : Cue := ⟨n, [], [], [⟨0, 0, 0, 0, 0, 0⟩], false, false, -1, l, 0⟩
def three : Lis := ⟨1, 0, [tc [49] [], tc [50, 46, 53] [49], tc [51] [52]]⟩
theorem tc_Ok (n l : List UInt8) : (tc n l).Ok := ⟨by simp [tc], by simp [tc, Tim.Ok, I64], by simp [tc, I64], by simp [tc, I64]⟩
theorem three_Ok : three.Ok := ⟨by simp [three, I64], by simp [three, I64], fun c hc => by
  simp only [three, List.mem_cons, List.not_mem_nil, or_false] at hc
  rcases hc with rfl | rfl | rfl <;> exact tc_Ok _ _⟩
theorem tc_ok : Contract Tryz.prog 149 fun args K => ∃ n l, args = [.str n, .str l] ∧ K [.d (.agg (tc n l).enc)] := by
  refine .of c149 t149_ok ?_
  rintro _ K ⟨n, l, rfl, hK⟩ hsm
  refine ⟨[.str n, .str l], rfl, ⟨trivial, trivial, trivial⟩, ?_⟩
  exact hK
theorem three_ok : Contract Tryz.prog 83 fun args K => args = [] ∧ K [.d (.agg three.enc)] := by
  refine .of c83 t83_ok ?_
  rintro _ K ⟨rfl, hK⟩ hsm
  refine ⟨[], rfl, trivial, ?_⟩
  refine denR_call tc_ok ⟨[49], [], rfl, _, rfl, ?_⟩
  refine denR_call tc_ok ⟨[50, 46, 53], [49], rfl, _, rfl, ?_⟩
  refine denR_call tc_ok ⟨[51], [52], rfl, _, rfl, ?_⟩
  exact hK
theorem three_a2 : checkedL three [[50]] = 0 := by kernel_rfl
theorem three_b25 : checkedL three [[50, 46, 53]] = 0 := by kernel_rfl
theorem three_a3 : checkedL three [[51]] = 0 := by kernel_rfl
theorem three_c : checkL order05 three = 0 := by kernel_rfl
theorem three_p1 : pick ((names three).find? fun x => decide (0 < comp x [50])) = ([50, 46, 53], true) := by kernel_rfl
theorem three_p2 : pick ((names three).reverse.find? fun x => decide (comp x [50, 46, 53] < 0)) = ([49], true) := by kernel_rfl
theorem three_p3 : pick ((names three).find? fun x => decide (0 < comp x [51])) = ([], false) := by kernel_rfl
theorem three_open : openL three.cues = [[51]] := by kernel_rfl
theorem three_r5 : renumRef three [49] [53] = (⟨1, 0, [tc [50, 46, 53] [53], tc [51] [52], tc [53] []]⟩, 0) := by kernel_rfl
theorem three_r3 : renumRef three [49] [51] = (zeroL, 7) := by kernel_rfl
theorem awake_ok : Contract Tryz.prog 18 fun args K => args = [] ∧ K [.d (.bool true)] := by
  refine .of c18 t18_ok ?_
  rintro _ K ⟨rfl, hK⟩ hsm
  refine ⟨[], rfl, trivial, ?_⟩
  refine denR_call three_ok ⟨rfl, _, rfl, ?_⟩
  refine denR_call after_ok ⟨three, [50], three_Ok, rfl, ?_⟩
  rw [if_neg (by simp [three_a2]), three_p1]
  refine ⟨_, rfl, ?_⟩
  refine denR_call before_ok ⟨three, [50, 46, 53], three_Ok, rfl, ?_⟩
  rw [if_neg (by simp [three_b25]), three_p2]
  refine ⟨_, rfl, ?_⟩
  refine denR_call after_ok ⟨three, [51], three_Ok, rfl, ?_⟩
  rw [if_neg (by simp [three_a3]), three_p3]
  refine ⟨_, rfl, ?_⟩
  refine denR_call open_ok ⟨three, three_Ok, rfl, ?_⟩
  rw [if_neg (by simp [three_c]), three_open]
  refine ⟨_, rfl, ?_⟩
  refine denR_iteT (by kernel_rfl) ?_
  refine denR_call eqTxt_ok ⟨[[51]], [[51]], rfl, _, rfl, ?_⟩
  refine denR_iteF (by kernel_rfl) ?_
  refine denR_call renumber_ok ⟨three, [49], [53], three_Ok, rfl, ?_⟩
  rw [three_r5]
  refine ⟨_, rfl, ?_⟩
  refine denR_call renumber_ok ⟨three, [49], [51], three_Ok, rfl, ?_⟩
  rw [three_r3]
  refine ⟨_, rfl, ?_⟩
  have hA : Lis.Ok ⟨1, 0, [tc [50, 46, 53] [53], tc [51] [52], tc [53] []]⟩ := ⟨by simp [I64], by simp [I64], fun c hc => by
    simp only [List.mem_cons, List.not_mem_nil, or_false] at hc
    rcases hc with rfl | rfl | rfl <;> exact tc_Ok _ _⟩
  refine denR_gcall numbersLaw_ok true [.slice (txts [[50, 46, 53], [51], [53]])] (by kernel_rfl) (fun _ => ⟨_, hA, by simp, rfl, rfl⟩) (fun h => by cases h) ?_
  refine denR_iteT (by kernel_rfl) ?_
  refine denR_call eqTxt_ok ⟨[[50, 46, 53], [51], [53]], [[50, 46, 53], [51], [53]], rfl, _, rfl, ?_⟩
  refine denR_needT (by kernel_rfl) ?_
  exact hK
end Go.Sx.La
set_option maxRecDepth 100000
namespace Go.Sx.La
open Go Go.Sx Go.RowKit Go.Proofs
noncomputable def t63 : R := .fact (.o2 .le (.o1 .len (.var 0)) (.int .i64 140737488355328)) (.fact (.ite (.o2 .le (.o1 .len (.var 0)) (.int .i64 40)) (.o2 .le (.o1 .len (.var 1)) (.int .i64 140737488355328)) (.bool true)) (.fact (.ite (.ite (.o2 .le (.o1 .len (.var 0)) (.int .i64 40)) (.o2 .le (.o1 .len (.var 1)) (.int .i64 100)) (.bool false)) (.o2 .le (.o1 .len (.var 7)) (.int .i64 140737488355328)) (.bool true)) (.fact (.ite (.ite (.ite (.o2 .le (.o1 .len (.var 0)) (.int .i64 40)) (.o2 .le (.o1 .len (.var 1)) (.int .i64 100)) (.bool false)) (.o2 .le (.o1 .len (.var 7)) (.int .i64 40)) (.bool false)) (.o2 .le (.o1 .len (.var 3)) (.int .i64 140737488355328)) (.bool true)) (.call (some (.ite (.ite (.ite (.o2 .le (.o1 .len (.var 0)) (.int .i64 40)) (.o2 .le (.o1 .len (.var 1)) (.int .i64 100)) (.bool false)) (.o2 .le (.o1 .len (.var 7)) (.int .i64 40)) (.bool false)) (.o2 .le (.o1 .len (.var 3)) (.int .i64 10)) (.bool false))) (.fn 129) [.var 2] [.cell .bool] (.ret [.d (.ite (.ite (.ite (.ite (.o2 .le (.o1 .len (.var 0)) (.int .i64 40)) (.o2 .le (.o1 .len (.var 1)) (.int .i64 100)) (.bool false)) (.o2 .le (.o1 .len (.var 7)) (.int .i64 40)) (.bool false)) (.o2 .le (.o1 .len (.var 3)) (.int .i64 10)) (.bool false)) (.var 9) (.bool false))])))))
theorem t63_ok : fnO Tryz.prog mdA 63 [.agg [.str, .str, .slice [.int .i64, .int .i64, .int .i64, .int .i64, .int .i64], .slice [.int .i64, .int .i64, .int .i64, .int .i64, .int .i64, .int .i64], .bool, .bool, .int .i64, .str, .int .i64]] = t63 := by kernel_rfl
theorem c63 : callable Tryz.prog 63 = true := by kernel_rfl
noncomputable def t17 : R := .fact (.o2 .le (.o1 .len (.var 2)) (.int .i64 140737488355328)) (.ite (.o2 .gt (.o1 .len (.var 2)) (.int .i64 128)) (.ret [.d (.bool false)]) (.loop 0 [.int .i64 0] [.int .i64] (.ite (.o2 .lt (.var 3) (.o1 .len (.var 2))) (.need (.o2 .le (.int .i64 0) (.var 3)) (.call none (.fn 63) [.lcons (.idx (.var 2) (.var 3) 0 .str) (.lcons (.idx (.var 2) (.var 3) 1 .str) (.lcons (.idx (.var 2) (.var 3) 2 (.slice [.int .i64, .int .i64, .int .i64, .int .i64, .int .i64])) (.lcons (.idx (.var 2) (.var 3) 3 (.slice [.int .i64, .int .i64, .int .i64, .int .i64, .int .i64, .int .i64])) (.lcons (.idx (.var 2) (.var 3) 4 .bool) (.lcons (.idx (.var 2) (.var 3) 5 .bool) (.lcons (.idx (.var 2) (.var 3) 6 (.int .i64)) (.lcons (.idx (.var 2) (.var 3) 7 .str) (.lcons (.idx (.var 2) (.var 3) 8 (.int .i64)) .lnil))))))))] [.cell .bool] (.ite (.o1 .not (.var 4)) (.ret [.d (.bool false)]) (.again 0 [.o2 (.add .i64) (.var 3) (.int .i64 1)])))) (.ret [.d (.bool true)]))))
theorem t17_ok : fnO Tryz.prog mdA 17 [.agg [.int .i64, .int .i64, .slice [.str, .str, .slice [.int .i64, .int .i64, .int .i64, .int .i64, .int .i64], .slice [.int .i64, .int .i64, .int .i64, .int .i64, .int .i64, .int .i64], .bool, .bool, .int .i64, .str, .int .i64]]] = t17 := by kernel_rfl
theorem c17 : callable Tryz.prog 17 = true := by kernel_rfl
noncomputable def t28 : R := .call none (.fn 84) [.lcons (.var 0) (.lcons (.var 1) (.lcons (.var 2) .lnil)), .push .nils (.lcons (.var 3) .lnil)] [.cell (.int .i64)] (.ite (.o2 .ne (.var 4) (.int .i64 0)) (.ret [.d (.int .i64 0), .d (.bool false), .d (.var 4)]) (.call none (.fn 85) [.lcons (.var 0) (.lcons (.var 1) (.lcons (.var 2) .lnil)), .var 3] [.cell (.int .i64)] (.ret [.d (.ite (.o2 .gt (.int .i64 0) (.var 5)) (.int .i64 0) (.var 5)), .d (.o2 .ge (.var 5) (.int .i64 0)), .d (.int .i64 0)])))
theorem t28_ok : fnO Tryz.prog mdA 28 [.agg [.int .i64, .int .i64, .slice [.str, .str, .slice [.int .i64, .int .i64, .int .i64, .int .i64, .int .i64], .slice [.int .i64, .int .i64, .int .i64, .int .i64, .int .i64, .int .i64], .bool, .bool, .int .i64, .str, .int .i64]], .cell .str] = t28 := by kernel_rfl
theorem c28 : callable Tryz.prog 28 = true := by kernel_rfl
def few16 (c : Cue) : Bool := decide (c.num.length ≤ 40) && decide (c.label.length ≤ 100) && decide (c.link.length ≤ 40) && decide (c.parts.length ≤ 10) && fewMoves c.moves
theorem few16_ok : Contract Tryz.prog 63 fun args K => ∃ c : Cue, c.Ok ∧ args = [.agg c.enc] ∧ K [.d (.bool (few16 c))] := by
  refine .of c63 t63_ok ?_
  rintro _ K ⟨c, hc, rfl, hK⟩ hsm
  refine ⟨c.enc, rfl, Cue.has hc, ?_⟩
  simp only [few16] at hK
  simp only [zz, RT.den, den, O1.eval, O2.eval, D.eqb, Ags.none, reduceCtorEq, forall_const, if_true, if_false, ite_true, ite_false, D.sub, D.cell, D.elem, D.cells, D.padd, D.list, D.push, t63, Cue.enc, List.length_map]
  intro _ _ _ _
  refine denR_gcall fewMoves_ok (decide (c.num.length ≤ 40) && decide (c.label.length ≤ 100) && decide (c.link.length ≤ 40) && decide (c.parts.length ≤ 10)) [.bool (decide (c.num.length ≤ 40) && decide (c.label.length ≤ 100) && decide (c.link.length ≤ 40) && decide (c.parts.length ≤ 10) && fewMoves c.moves)] ?_ (fun h => ⟨c.moves, hc.moves, rfl, ?_⟩) (fun h => ?_) ?_
  · simp only [zz, RT.den, den, O1.eval, O2.eval, D.eqb, Ags.none, reduceCtorEq, forall_const, if_true, if_false, ite_true, ite_false, D.sub, D.cell, D.elem, D.cells, D.padd, D.list, D.push, List.length_map]
    by_cases h1 : c.num.length ≤ 40 <;> by_cases h2 : c.label.length ≤ 100 <;> by_cases h3 : c.link.length ≤ 40 <;> by_cases h4 : c.parts.length ≤ 10 <;> simp [h1, h2, h3, h4] <;> omega
  · rw [h]; rfl
  · rw [h]; rfl
  · simp only [zz, RT.den, den, O1.eval, O2.eval, D.eqb, Ags.none, reduceCtorEq, forall_const, if_true, if_false, ite_true, ite_false, D.sub, D.cell, D.elem, D.cells, D.padd, D.list, D.push, List.length_map]
    revert hK
    by_cases h1 : c.num.length ≤ 40 <;> by_cases h2 : c.label.length ≤ 100 <;> by_cases h3 : c.link.length ≤ 40 <;> by_cases h4 : c.parts.length ≤ 10 <;> simp [h1, h2, h3, h4] <;> grind
def fewGo : List Cue → Bool
  | [] => true
  | c :: cs => if few16 c then fewGo cs else false
def few17 (l : Lis) : Bool := if 128 < l.cues.length then false else fewGo l.cues
theorem few17_ok : Contract Tryz.prog 17 fun args K => ∃ l : Lis, l.Ok ∧ args = [.agg l.enc] ∧ K [.d (.bool (few17 l))] := by
  refine .of c17 t17_ok ?_
  rintro _ K ⟨l, hl, rfl, hK⟩ hsm
  refine ⟨l.enc, rfl, Lis.has hl, ?_⟩
  simp only [few17] at hK
  simp only [zz, RT.den, den, O1.eval, O2.eval, D.eqb, Ags.none, reduceCtorEq, forall_const, if_true, if_false, ite_true, ite_false, D.sub, D.cell, D.elem, D.cells, D.padd, D.list, D.push, t17, Lis.enc, List.length_map]
  refine fun hcap => ⟨fun h => by rw [if_pos (by omega)] at hK; exact hK, fun h => ?_⟩
  rw [if_neg (by omega)] at hK
  refine loop_go l.cues (fun i l' (_ : Unit) => fewGo l') (fun i _ => [.int .i64 i]) () _ rfl 0 (fun _ _ => rfl) rfl ?_ ?_
  · intro i hi _ hgo
    simp only [fewGo] at hgo
    simp only [zz, RT.den, den, O1.eval, O2.eval, D.eqb, Ags.none, reduceCtorEq, forall_const, if_true, if_false, ite_true, ite_false, D.sub, D.cell, D.elem, D.cells, D.padd, D.list, D.push, hi, List.length_map]
    refine ⟨by omega, denR_call few16_ok ⟨l.cues[i], hl.cues _ (List.getElem_mem hi), by simp only [zz, RT.den, den, O1.eval, O2.eval, D.eqb, Ags.none, reduceCtorEq, forall_const, if_true, if_false, ite_true, ite_false, D.sub, D.cell, D.elem, D.cells, D.padd, D.list, D.push, getD_map hi, Cue.enc], _, rfl, ?_⟩⟩
    simp only [zz, RT.den, den, O1.eval, O2.eval, D.eqb, Ags.none, reduceCtorEq, forall_const, if_true, if_false, ite_true, ite_false, D.sub, D.cell, D.elem, D.cells, D.padd, D.list, D.push]
    cases hf : few16 l.cues[i]
    · rw [hf] at hgo; rw [← hgo] at hK
      exact ⟨fun _ => hK, fun h => by simp at h⟩
    · rw [hf] at hgo
      exact ⟨fun h => by simp at h, fun _ => ⟨(), by rw [wr64_eq] <;> omega, hgo⟩⟩
  · intro _ hgo
    simp only [fewGo] at hgo
    simp only [zz, RT.den, den, O1.eval, O2.eval, D.eqb, Ags.none, reduceCtorEq, forall_const, if_true, if_false, ite_true, ite_false, D.sub, D.cell, D.elem, D.cells, D.padd, D.list, D.push, List.length_map]
    rw [← hgo] at hK
    exact hK
theorem checkedL_one (l : Lis) (s : List UInt8) : checkedL l [s] = given17 l s := by
  simp only [checkedL, given17, checkedGo]
  split
  · rfl
  · split
    · rfl
    · rename_i h; exact (by simpa using h : check05 s = 0).symm
theorem given_right {l : Lis} {s : List UInt8} (h : given17 l s = 0) : RightL l ∧ check05 s = 0 := by
  simp only [given17] at h
  split at h
  · rename_i h1; exact absurd h h1
  · rename_i h1; exact ⟨rightL_of (by simpa using h1), h⟩
def findR (l : Lis) (s : List UInt8) : Int × Bool × Int := if given17 l s ≠ 0 then (0, false, given17 l s) else (if place l.cues s < 0 then 0 else place l.cues s, decide (0 ≤ place l.cues s), 0)
theorem findR_ok : Contract Tryz.prog 28 fun args K => ∃ (l : Lis) (s : List UInt8), l.Ok ∧ args = [.agg l.enc, .str s] ∧ K [.d (.int .i64 (findR l s).1), .d (.bool (findR l s).2.1), .d (.int .i64 (findR l s).2.2)] := by
  refine .of c28 t28_ok ?_
  rintro _ K ⟨l, s, hl, rfl, hK⟩ hsm
  refine ⟨l.enc ++ [.str s], rfl, by exact has_s hl, ?_⟩
  refine denR_call checked_ok ⟨l, [s], hl, rfl, _, rfl, ?_⟩
  simp only [findR] at hK
  simp only [zz, RT.den, den, O1.eval, O2.eval, D.eqb, Ags.none, reduceCtorEq, forall_const, if_true, if_false, ite_true, ite_false, D.sub, D.cell, D.elem, D.cells, D.padd, D.list, D.push, Lis.enc, checkedL_one]
  refine ⟨fun h => ?_, fun h => ?_⟩
  · rw [if_pos (by simpa using h)] at hK; exact hK
  · rw [if_neg (by simpa using h)] at hK
    refine denR_call place_ok ⟨l, s, hl, rfl, _, rfl, ?_⟩
    simp only [zz, RT.den, den, O1.eval, O2.eval, D.eqb, Ags.none, reduceCtorEq, forall_const, if_true, if_false, ite_true, ite_false, D.sub, D.cell, D.elem, D.cells, D.padd, D.list, D.push]
    exact hK
def afterR (l : Lis) (s : List UInt8) : List UInt8 × Bool × Int := if given17 l s ≠ 0 then ([], false, given17 l s) else ((pick ((names l).find? fun x => decide (0 < order05 x s))).1, (pick ((names l).find? fun x => decide (0 < order05 x s))).2, 0)
def beforeR (l : Lis) (s : List UInt8) : List UInt8 × Bool × Int := if given17 l s ≠ 0 then ([], false, given17 l s) else ((pick ((names l).reverse.find? fun x => decide (order05 x s < 0))).1, (pick ((names l).reverse.find? fun x => decide (order05 x s < 0))).2, 0)
def uses (c : Cue) (p : Int) : Bool := c.moves.any fun m => decide (0 < m.va.pal) && decide (m.va.pal = p)
def refersL (cs : List Cue) (p : Int) : List (List UInt8) := (cs.filter fun c => uses c p).map (·.num)
def refersR (l : Lis) (p : Int) : List (List UInt8) × Int := if checkL order05 l ≠ 0 then ([], checkL order05 l) else (refersL l.cues p, 0)
def usesGo (p : Int) : List Mov → Bool
  | [] => false
  | m :: ms => if 0 < m.va.pal ∧ m.va.pal = p then true else usesGo p ms
end Go.Sx.La
set_option maxRecDepth 100000
namespace Go.Sx.La
open Go Go.Sx Go.RowKit Go.Proofs
theorem checkL_of {l : Lis} (h0 : ¬ (l.num < 1 ∨ 1048576 < l.num ∨ l.prio < 0 ∨ 9 < l.prio)) (h1 : l.cues.length ≤ 64) (h2 : ∀ c ∈ l.cues, check16 c = 0) (h3 : Rising l.cues) : checkL order05 l = 0 := by
  have key : ∀ (cs : List Cue) (i : Nat), cs = l.cues.drop i → cuesGo order05 l.cues i cs = 0 := by
    intro cs
    induction cs with
    | nil => intro i _; rfl
    | cons c cs ih =>
      intro i he
      have hlt : i < l.cues.length := by
        rcases Nat.lt_or_ge i l.cues.length with h | h
        · exact h
        · rw [List.drop_eq_nil_of_le h] at he; cases he
      rw [List.drop_eq_getElem_cons hlt] at he
      obtain ⟨rfl, rfl⟩ := List.cons.inj he
      simp only [cuesGo]
      rw [if_neg (by simp [h2 _ (List.getElem_mem hlt)]), if_neg ?_]
      · exact ih (i + 1) rfl
      · rintro ⟨hi, ho⟩
        rw [getElem!_pos l.cues (i - 1) (by omega)] at ho
        rw [Rising, List.pairwise_iff_getElem] at h3
        have := h3 (i - 1) i (by omega) hlt (by omega)
        have := (order_neg _ _).2 this
        omega
  simp only [checkL]
  rw [if_neg h0, if_neg (by omega)]
  exact key l.cues 0 rfl
theorem head_of {l : Lis} (h : checkL order05 l = 0) : ¬ (l.num < 1 ∨ 1048576 < l.num ∨ l.prio < 0 ∨ 9 < l.prio) := by
  simp only [checkL] at h
  split at h
  · cases h
  · assumption
end Go.Sx.La
