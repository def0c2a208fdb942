/-
  A law as a contract (and what it needs).
-/
import Derived.Test.YtieoaedbfdmocaaGreatDoorQWb
set_option linter.unusedSimpArgs false
set_option linter.unusedVariables false
set_option linter.unusedSectionVars false
set_option linter.defProp false
set_option maxRecDepth 100000
set_option maxRecDepth 100000
namespace Go.Sx.La
open Go Go.Sx Go.RowKit Go.Proofs
noncomputable def t181 : R := .call none (.fn 96) [.var 0, .var 1] [.cell (.int .i64)] (.ite (.o2 .eq (.var 2) (.int .i64 (-1))) (.ret [.own 9 (.var 0)]) (.loop 0 [.var 2, .o2 (.add .i64) (.var 2) (.int .i64 1), .var 0] [.int .i64, .int .i64, .slice [.str, .str, .slice [.int .i64, .int .i64, .int .i64, .int .i64, .int .i64], .slice [.int .i64, .int .i64, .int .i64, .int .i64, .int .i64, .int .i64], .bool, .bool, .int .i64, .str, .int .i64]] (.fact (.o2 .le (.o1 .len (.var 5)) (.int .i64 140737488355328)) (.ite (.o2 .lt (.var 4) (.o1 .len (.var 5))) (.need (.o2 .le (.int .i64 0) (.var 4)) (.call none (.val (.var 1)) [.lcons (.idx (.var 5) (.var 4) 0 .str) (.lcons (.idx (.var 5) (.var 4) 1 .str) (.lcons (.idx (.var 5) (.var 4) 2 (.slice [.int .i64, .int .i64, .int .i64, .int .i64, .int .i64])) (.lcons (.idx (.var 5) (.var 4) 3 (.slice [.int .i64, .int .i64, .int .i64, .int .i64, .int .i64, .int .i64])) (.lcons (.idx (.var 5) (.var 4) 4 .bool) (.lcons (.idx (.var 5) (.var 4) 5 .bool) (.lcons (.idx (.var 5) (.var 4) 6 (.int .i64)) (.lcons (.idx (.var 5) (.var 4) 7 .str) (.lcons (.idx (.var 5) (.var 4) 8 (.int .i64)) .lnil))))))))] [.cell .bool] (.need (.ite (.o1 .not (.var 6)) (.o2 .le (.int .i64 0) (.var 3)) (.bool true)) (.need (.ite (.o1 .not (.var 6)) (.o2 .lt (.var 3) (.o1 .len (.var 5))) (.bool true)) (.lets [.ite (.o1 .not (.var 6)) (.o2 (.add .i64) (.var 3) (.int .i64 1)) (.var 3), .ite (.o1 .not (.var 6)) (.upd (.var 5) (.var 3) 0 (.lcons (.idx (.var 5) (.var 4) 0 .str) (.lcons (.idx (.var 5) (.var 4) 1 .str) (.lcons (.idx (.var 5) (.var 4) 2 (.slice [.int .i64, .int .i64, .int .i64, .int .i64, .int .i64])) (.lcons (.idx (.var 5) (.var 4) 3 (.slice [.int .i64, .int .i64, .int .i64, .int .i64, .int .i64, .int .i64])) (.lcons (.idx (.var 5) (.var 4) 4 .bool) (.lcons (.idx (.var 5) (.var 4) 5 .bool) (.lcons (.idx (.var 5) (.var 4) 6 (.int .i64)) (.lcons (.idx (.var 5) (.var 4) 7 .str) (.lcons (.idx (.var 5) (.var 4) 8 (.int .i64)) .lnil)))))))))) (.var 5)] (.again 0 [.var 7, .o2 (.add .i64) (.var 4) (.int .i64 1), .var 8])))))) (.need (.o2 .le (.int .i64 0) (.var 3)) (.need (.o2 .le (.var 3) (.o1 .len (.var 5))) (.need (.o2 .le (.var 3) (.o1 .len (.o2 .app (.o2 .app (.sub (.var 5) (.int .i64 0) (.var 3)) (.rep (.o2 (.sub .i64) (.o1 .len (.var 5)) (.var 3)) (.lcons (.str []) (.lcons (.str []) (.lcons .nils (.lcons .nils (.lcons (.bool false) (.lcons (.bool false) (.lcons (.int .i64 0) (.lcons (.str []) (.lcons (.int .i64 0) .lnil))))))))))) (.sub (.var 5) (.o1 .len (.var 5)) (.o1 .len (.var 5)))))) (.ret [.own 9 (.sub (.o2 .app (.o2 .app (.sub (.var 5) (.int .i64 0) (.var 3)) (.rep (.o2 (.sub .i64) (.o1 .len (.var 5)) (.var 3)) (.lcons (.str []) (.lcons (.str []) (.lcons .nils (.lcons .nils (.lcons (.bool false) (.lcons (.bool false) (.lcons (.int .i64 0) (.lcons (.str []) (.lcons (.int .i64 0) .lnil))))))))))) (.sub (.var 5) (.o1 .len (.var 5)) (.o1 .len (.var 5)))) (.int .i64 0) (.var 3))]))))))))
theorem t181_ok : fnXO Tryz.prog mdA 181 [.own cueKs, .cell .fn] = t181 := by kernel_rfl
theorem c181 : callable Tryz.prog 181 = true := by kernel_rfl
def kept {X : Type} (p : X → Bool) (l : List X) (n : Nat) : List X := (l.take n).filter fun x => !p x
theorem kept_succ {X : Type} (p : X → Bool) {l : List X} {n : Nat} (h : n < l.length) : kept p l (n + 1) = kept p l n ++ if p l[n] then [] else [l[n]] := by
  unfold kept
  rw [List.take_succ_eq_append_getElem h, List.filter_append]
  congr 1
  by_cases hp : p l[n] = true
  · simp [hp]
  · simp [hp]
theorem kept_all {X : Type} (p : X → Bool) (l : List X) : kept p l l.length = l.filter fun x => !p x := by simp [kept]
theorem kept_start {X : Type} {p : X → Bool} {l : List X} {j : Nat} (hj : j < l.length) (h1 : p l[j] = true) (h2 : ∀ k (hk : k < j), p (l[k]'(by omega)) = false) : kept p l (j + 1) = l.take j := by
  rw [kept_succ p hj, if_pos h1, List.append_nil]
  unfold kept
  refine List.filter_eq_self.2 fun x hx => ?_
  obtain ⟨k, hk, rfl⟩ := List.getElem_of_mem hx
  simp only [List.length_take] at hk
  rw [List.getElem_take, h2 k (by omega)]; rfl
structure Swept {X : Type} (p : X → Bool) (l a : List X) (n : Nat) : Prop where
  len : a.length = l.length
  le : n ≤ l.length
  lt : (kept p l n).length < n
  head : a.take (kept p l n).length = kept p l n
  rest : a.drop n = l.drop n
theorem Swept.get {X : Type} {p : X → Bool} {l a : List X} {n : Nat} (h : Swept p l a n) (hn : n < l.length) : a[n]'(by rw [h.len]; exact hn) = l[n] := by
  have h1 := h.rest
  have hn' : n < a.length := by rw [h.len]; exact hn
  rw [List.drop_eq_getElem_cons hn, List.drop_eq_getElem_cons hn'] at h1
  exact (List.cons.inj h1).1
theorem Swept.skip {X : Type} {p : X → Bool} {l a : List X} {n : Nat} (h : Swept p l a n) (hn : n < l.length) (hp : p l[n] = true) : Swept p l a (n + 1) := by
  have e : kept p l (n + 1) = kept p l n := by rw [kept_succ p hn, if_pos hp, List.append_nil]
  exact ⟨h.len, hn, by rw [e]; have := h.lt; omega, by rw [e]; exact h.head, by rw [← List.drop_drop, ← List.drop_drop, h.rest]⟩
theorem Swept.keep {X : Type} {p : X → Bool} {l a : List X} {n : Nat} (h : Swept p l a n) (hn : n < l.length) (hp : p l[n] = false) : Swept p l (a.set (kept p l n).length l[n]) (n + 1) ∧ (kept p l (n + 1)).length = (kept p l n).length + 1 := by
  have e : kept p l (n + 1) = kept p l n ++ [l[n]] := by rw [kept_succ p hn, if_neg (by simp [hp])]
  have el : (kept p l (n + 1)).length = (kept p l n).length + 1 := by rw [e]; simp
  have hlt := h.lt
  refine ⟨⟨by simp [h.len], hn, by rw [el]; omega, ?_, ?_⟩, el⟩
  · rw [el, List.take_succ_eq_append_getElem (by simp [h.len]; omega), e]
    rw [List.getElem_set_self, List.take_set_of_le (Nat.le_refl _), h.head]
  · rw [List.drop_set_of_lt (by omega), ← List.drop_drop, ← List.drop_drop, h.rest]
theorem take_swept {A R B : List (List D)} {i : Nat} (h : i ≤ A.length) : (A.take i ++ R ++ B).take i = A.take i := by
  rw [List.append_assoc, List.take_append_of_le_length (by simp; omega), List.take_take, Nat.min_self]
theorem setCue {l : List Cue} {k : Nat} (hk : k < l.length) (e : Cue) : ((l.map Cue.enc).modify k fun x => setCells x 0 e.enc) = (l.set k e).map Cue.enc := by
  apply List.ext_getElem?
  intro i
  rw [List.getElem?_modify, List.getElem?_map, List.getElem?_map, List.getElem?_set]
  by_cases h : k = i
  · subst h
    simp [hk, setCells, Cue.enc]
  · simp [h]
theorem delCue_ok : ContractX Tryz.prog 181 [.own cueKs, .cell .fn] false fun args K => ∃ (l : List Cue) (p : Cue → Bool) (f : FuncId) (caps : List D), (∀ m ∈ l, m.Ok) ∧ l.length ≤ 1000000 ∧ args = [.own 9 (l.map Cue.enc), .d (.clo f caps)] ∧ SaysOf Tryz.prog (.clo f caps) Cue.enc l p ∧ K [.own 9 ((l.filter fun c => !p c).map Cue.enc)] := by
  refine .of c181 t181_ok ?_
  rintro _ K ⟨l, p, f, caps, hl, hlen, rfl, hsay, hK⟩
  have hhas : HasK (.slice cueKs) (.slice (l.map Cue.enc)) := slice_has fun m hm => Cue.has (hl m hm)
  refine ⟨[.slice (l.map Cue.enc), .clo f caps], rfl, ⟨hhas, trivial, trivial⟩, ?_⟩
  refine denR_call indexCue_ok ⟨l, p, f, caps, hl, by simp only [zz, RT.den, den, O1.eval, O2.eval, D.eqb, Ags.none, reduceCtorEq, forall_const, if_true, if_false, ite_true, ite_false, D.sub, D.cell, D.elem, D.cells, D.padd, D.list, D.push], hsay, _, rfl, ?_⟩
  simp only [zz, RT.den, den, O1.eval, O2.eval, D.eqb, Ags.none, reduceCtorEq, forall_const, if_true, if_false, ite_true, ite_false, D.sub, D.cell, D.elem, D.cells, D.padd, D.list, D.push]
  rcases idxGo_spec p l 0 with ⟨h1, h2⟩ | ⟨j, hj, h1, h2, h3⟩
  · rw [h1]
    have e : (l.filter fun c => !p c) = l := List.filter_eq_self.2 fun x hx => by rw [h2 x hx]; rfl
    rw [e] at hK
    refine ⟨fun _ => hK, fun h => by simp at h⟩
  · rw [h1]
    simp only [Nat.zero_add]
    refine ⟨fun h => by omega, fun _ => ?_⟩
    obtain ⟨sf, hf, hs⟩ := hsay
    have hks := kept_start hj h2 h3
    rw [denR_loop]
    refine ⟨fun c ys => c = none ∧ ∃ (n : Nat) (a : List Cue), Swept p l a n ∧ ys = [.int .i64 ((kept p l n).length : Nat), .int .i64 n, .slice (a.map Cue.enc)],
      fun ys => match ys with | [_, .int _ n, _] => l.length - n.toNat | _ => 0, ⟨rfl, j + 1, l, ⟨rfl, hj, by rw [hks]; simp <;> omega, by rw [hks]; simp <;> omega, rfl⟩, ?_⟩, ?_⟩
    · rw [hks]
      simp only [zz, RT.den, den, O1.eval, O2.eval, D.eqb, Ags.none, reduceCtorEq, forall_const, if_true, if_false, ite_true, ite_false, D.sub, D.cell, D.elem, D.cells, D.padd, D.list, D.push]
      rw [wr64_eq (by omega)]
      simp; omega
    rintro _ _ _ ⟨rfl, n, a, hw, rfl⟩
    have hle := hw.le
    have hal := hw.len
    have hkl := hw.lt
    simp only [zz, RT.den, den, O1.eval, O2.eval, D.eqb, Ags.none, reduceCtorEq, forall_const, if_true, if_false, ite_true, ite_false, D.sub, D.cell, D.elem, D.cells, D.padd, D.list, D.push, List.length_map, hal, D.rep]
    intro hcap
    refine ⟨fun h => ?_, fun h => ?_⟩
    · have hn : n < l.length := by omega
      have hna : n < a.length := by omega
      have hga := hw.get hn
      refine ⟨by omega, denR_fcall (FvC.up' (s := sf) (fv := .clo f caps) hf) ⟨fun rs => rs = [.d (.bool (p l[n]))], ?_, fun rs h => ⟨[.bool (p l[n])], by rw [h]; rfl, by simp [RK.all, RK.kinds, HasKs, HasK], ?_⟩⟩⟩
      · simp only [zz, RT.den, den, O1.eval, O2.eval, D.eqb, Ags.none, reduceCtorEq, forall_const, if_true, if_false, ite_true, ite_false, D.sub, D.cell, D.elem, D.cells, D.padd, D.list, D.push, getD_map hna, hga, Cue.enc]
        exact hs l[n] (List.getElem_mem hn)
      · have hia : (kept p l n).length < a.length := by omega
        have hset := setCue hia l[n]
        simp only [Cue.enc] at hset
        cases hp : p l[n] with
        | true =>
          have hsk := hw.skip hn hp
          have ek : kept p l (n + 1) = kept p l n := by rw [kept_succ p hn, if_pos hp, List.append_nil]
          simp only [zz, RT.den, den, O1.eval, O2.eval, D.eqb, Ags.none, reduceCtorEq, forall_const, if_true, if_false, ite_true, ite_false, D.sub, D.cell, D.elem, D.cells, D.padd, D.list, D.push, hp]
          refine ⟨⟨rfl, n + 1, a, hsk, by rw [ek], by rw [wr64_eq] <;> omega, rfl⟩, ?_⟩
          rw [wr64_eq (by omega)]
          show l.length - ((n : Int) + 1).toNat < l.length - ((n : Int)).toNat
          omega
        | false =>
          obtain ⟨hsk, ek⟩ := hw.keep hn hp
          simp only [zz, RT.den, den, O1.eval, O2.eval, D.eqb, Ags.none, reduceCtorEq, forall_const, if_true, if_false, ite_true, ite_false, D.sub, D.cell, D.elem, D.cells, D.padd, D.list, D.push, hp, List.length_map, hia, getD_map hna, hga, Cue.enc, D.upd, hset]
          refine ⟨by omega, ⟨rfl, n + 1, _, hsk, by rw [ek, wr64_eq] <;> omega, by rw [wr64_eq] <;> omega, rfl⟩, ?_⟩
          rw [wr64_eq (n := (n : Int) + 1) (by omega)]
          show l.length - ((n : Int) + 1).toNat < l.length - ((n : Int)).toNat
          omega
    · have hn : n = l.length := by omega
      subst hn
      rw [kept_all] at hkl ⊢
      have hh := hw.head
      rw [kept_all] at hh
      generalize hfl : (l.filter fun c => !p c) = fl at *
      have hia : fl.length ≤ (a.map Cue.enc).length := by simp; omega
      have e2 : ((a.map Cue.enc).take fl.length) = fl.map Cue.enc := by rw [← List.map_take, hh]
      refine ⟨by omega, by omega, by simp <;> omega, ?_⟩
      rw [take_swept hia, e2]
      exact hK
end Go.Sx.La
set_option maxRecDepth 100000
namespace Go.Sx.La
open Go Go.Sx Go.RowKit Go.Proofs
noncomputable def t182 : R := .ret [.d (.o2 .eq (.var 0) (.fld (.var 9) 0 .str))]
theorem t182_ok : fnO Tryz.prog mdA 182 ([.agg [.str, .str, .slice [.int .i64, .int .i64, .int .i64, .int .i64, .int .i64], .slice [.int .i64, .int .i64, .int .i64, .int .i64, .int .i64, .int .i64], .bool, .bool, .int .i64, .str, .int .i64]] ++ [.cell (.ptr [.str])]) = t182 := by kernel_rfl
theorem c182 : callable Tryz.prog 182 = true := by kernel_rfl
noncomputable def t130 : R := .call none (.fn 86) [.var 2] [.own [.str, .str, .slice [.int .i64, .int .i64, .int .i64, .int .i64, .int .i64], .slice [.int .i64, .int .i64, .int .i64, .int .i64, .int .i64, .int .i64], .bool, .bool, .int .i64, .str, .int .i64]] (.callX false 181 [.own 9 (.var 4), .d (.clo 182 (.lcons (.ptr (.lcons (.var 3) .lnil)) .lnil))] [.own [.str, .str, .slice [.int .i64, .int .i64, .int .i64, .int .i64, .int .i64], .slice [.int .i64, .int .i64, .int .i64, .int .i64, .int .i64, .int .i64], .bool, .bool, .int .i64, .str, .int .i64]] (.ret [.own 9 (.var 5)]))
theorem t130_ok : fnO Tryz.prog mdA 130 [.agg [.int .i64, .int .i64, .slice [.str, .str, .slice [.int .i64, .int .i64, .int .i64, .int .i64, .int .i64], .slice [.int .i64, .int .i64, .int .i64, .int .i64, .int .i64, .int .i64], .bool, .bool, .int .i64, .str, .int .i64]], .cell .str] = t130 := by kernel_rfl
theorem c130 : callable Tryz.prog 130 = true := by kernel_rfl
noncomputable def t64 : R := .call none (.fn 25) [.lcons (.var 0) (.lcons (.var 1) (.lcons (.var 2) .lnil))] [.cell (.int .i64)] (.ite (.o2 .ne (.var 12) (.int .i64 0)) (.ret [.d (.lcons (.int .i64 0) (.lcons (.int .i64 0) (.lcons .nils .lnil))), .d (.var 12)]) (.call none (.fn 94) [.lcons (.var 3) (.lcons (.var 4) (.lcons (.var 5) (.lcons (.var 6) (.lcons (.var 7) (.lcons (.var 8) (.lcons (.var 9) (.lcons (.var 10) (.lcons (.var 11) .lnil))))))))] [.cell (.int .i64)] (.ite (.o2 .ne (.var 13) (.int .i64 0)) (.ret [.d (.lcons (.int .i64 0) (.lcons (.int .i64 0) (.lcons .nils .lnil))), .d (.var 13)]) (.guess (.bool true) (.ite (.var 14) (.call none (.fn 130) [.lcons (.var 0) (.lcons (.var 1) (.lcons (.var 2) .lnil)), .var 3] [.own [.str, .str, .slice [.int .i64, .int .i64, .int .i64, .int .i64, .int .i64], .slice [.int .i64, .int .i64, .int .i64, .int .i64, .int .i64, .int .i64], .bool, .bool, .int .i64, .str, .int .i64]] (.need (.o2 .le (.o1 .len (.o2 .app (.var 15) (.push .nils (.lcons (.var 3) (.lcons (.var 4) (.lcons (.var 5) (.lcons (.var 6) (.lcons (.var 7) (.lcons (.var 8) (.lcons (.var 9) (.lcons (.var 10) (.lcons (.var 11) .lnil)))))))))))) (.int .i64 1172812402961)) (.fact (.o2 .le (.o1 .len (.o2 .app (.var 15) (.push .nils (.lcons (.var 3) (.lcons (.var 4) (.lcons (.var 5) (.lcons (.var 6) (.lcons (.var 7) (.lcons (.var 8) (.lcons (.var 9) (.lcons (.var 10) (.lcons (.var 11) .lnil)))))))))))) (.int .i64 140737488355328)) (.ite (.o2 .gt (.o1 .len (.o2 .app (.var 15) (.push .nils (.lcons (.var 3) (.lcons (.var 4) (.lcons (.var 5) (.lcons (.var 6) (.lcons (.var 7) (.lcons (.var 8) (.lcons (.var 9) (.lcons (.var 10) (.lcons (.var 11) .lnil)))))))))))) (.int .i64 64)) (.ret [.d (.lcons (.int .i64 0) (.lcons (.int .i64 0) (.lcons .nils .lnil))), .d (.int .i64 5)]) (.callX false 87 [.d (.lcons (.var 0) (.lcons (.var 1) (.lcons (.var 2) .lnil))), .own 9 (.o2 .app (.var 15) (.push .nils (.lcons (.var 3) (.lcons (.var 4) (.lcons (.var 5) (.lcons (.var 6) (.lcons (.var 7) (.lcons (.var 8) (.lcons (.var 9) (.lcons (.var 10) (.lcons (.var 11) .lnil)))))))))))] [.agg [.int .i64, .int .i64, .slice [.str, .str, .slice [.int .i64, .int .i64, .int .i64, .int .i64, .int .i64], .slice [.int .i64, .int .i64, .int .i64, .int .i64, .int .i64, .int .i64], .bool, .bool, .int .i64, .str, .int .i64]]] (.ret [.d (.lcons (.var 16) (.lcons (.var 17) (.lcons (.var 18) .lnil))), .d (.int .i64 0)])))))) (.call none (.fn 130) [.lcons (.var 0) (.lcons (.var 1) (.lcons (.var 2) .lnil)), .var 3] [.own [.str, .str, .slice [.int .i64, .int .i64, .int .i64, .int .i64, .int .i64], .slice [.int .i64, .int .i64, .int .i64, .int .i64, .int .i64, .int .i64], .bool, .bool, .int .i64, .str, .int .i64]] (.need (.o2 .le (.o1 .len (.o2 .app (.var 15) (.push .nils (.lcons (.var 3) (.lcons (.var 4) (.lcons (.var 5) (.lcons (.var 6) (.lcons (.var 7) (.lcons (.var 8) (.lcons (.var 9) (.lcons (.var 10) (.lcons (.var 11) .lnil)))))))))))) (.int .i64 1172812402961)) (.fact (.o2 .le (.o1 .len (.o2 .app (.var 15) (.push .nils (.lcons (.var 3) (.lcons (.var 4) (.lcons (.var 5) (.lcons (.var 6) (.lcons (.var 7) (.lcons (.var 8) (.lcons (.var 9) (.lcons (.var 10) (.lcons (.var 11) .lnil)))))))))))) (.int .i64 140737488355328)) (.ite (.o2 .gt (.o1 .len (.o2 .app (.var 15) (.push .nils (.lcons (.var 3) (.lcons (.var 4) (.lcons (.var 5) (.lcons (.var 6) (.lcons (.var 7) (.lcons (.var 8) (.lcons (.var 9) (.lcons (.var 10) (.lcons (.var 11) .lnil)))))))))))) (.int .i64 64)) (.ret [.d (.lcons (.int .i64 0) (.lcons (.int .i64 0) (.lcons .nils .lnil))), .d (.int .i64 5)]) (.callX false 87 [.d (.lcons (.var 0) (.lcons (.var 1) (.lcons (.var 2) .lnil))), .own 9 (.o2 .app (.var 15) (.push .nils (.lcons (.var 3) (.lcons (.var 4) (.lcons (.var 5) (.lcons (.var 6) (.lcons (.var 7) (.lcons (.var 8) (.lcons (.var 9) (.lcons (.var 10) (.lcons (.var 11) .lnil)))))))))))] [.agg [.int .i64, .int .i64, .slice [.str, .str, .slice [.int .i64, .int .i64, .int .i64, .int .i64, .int .i64], .slice [.int .i64, .int .i64, .int .i64, .int .i64, .int .i64, .int .i64], .bool, .bool, .int .i64, .str, .int .i64]]] (.ret [.d (.lcons (.var 16) (.lcons (.var 17) (.lcons (.var 18) .lnil))), .d (.int .i64 0)])))))))))))
theorem t64_ok : fnO Tryz.prog mdA 64 [.agg [.int .i64, .int .i64, .slice [.str, .str, .slice [.int .i64, .int .i64, .int .i64, .int .i64, .int .i64], .slice [.int .i64, .int .i64, .int .i64, .int .i64, .int .i64, .int .i64], .bool, .bool, .int .i64, .str, .int .i64]], .agg [.str, .str, .slice [.int .i64, .int .i64, .int .i64, .int .i64, .int .i64], .slice [.int .i64, .int .i64, .int .i64, .int .i64, .int .i64, .int .i64], .bool, .bool, .int .i64, .str, .int .i64]] = t64 := by kernel_rfl
theorem c64 : callable Tryz.prog 64 = true := by kernel_rfl
noncomputable def t65 : R := .call none (.fn 42) [.lcons (.var 0) (.lcons (.var 1) (.lcons (.var 2) .lnil))] [.cell (.int .i64)] (.ite (.o2 .ne (.var 12) (.int .i64 0)) (.ret [.d (.lcons (.int .i64 0) (.lcons (.int .i64 0) (.lcons .nils .lnil))), .d (.var 12)]) (.call none (.fn 68) [.lcons (.var 3) (.lcons (.var 4) (.lcons (.var 5) (.lcons (.var 6) (.lcons (.var 7) (.lcons (.var 8) (.lcons (.var 9) (.lcons (.var 10) (.lcons (.var 11) .lnil))))))))] [.cell (.int .i64)] (.ite (.o2 .ne (.var 13) (.int .i64 0)) (.ret [.d (.lcons (.int .i64 0) (.lcons (.int .i64 0) (.lcons .nils .lnil))), .d (.var 13)]) (.call none (.fn 131) [.lcons (.var 0) (.lcons (.var 1) (.lcons (.var 2) .lnil)), .lcons (.var 3) (.lcons (.var 4) (.lcons (.var 5) (.lcons (.var 6) (.lcons (.var 7) (.lcons (.var 8) (.lcons (.var 9) (.lcons (.var 10) (.lcons (.var 11) .lnil))))))))] [.agg [.int .i64, .int .i64, .slice [.str, .str, .slice [.int .i64, .int .i64, .int .i64, .int .i64, .int .i64], .slice [.int .i64, .int .i64, .int .i64, .int .i64, .int .i64, .int .i64], .bool, .bool, .int .i64, .str, .int .i64]]] (.fact (.o2 .le (.o1 .len (.var 16)) (.int .i64 140737488355328)) (.ite (.o2 .gt (.o1 .len (.var 16)) (.int .i64 64)) (.ret [.d (.lcons (.int .i64 0) (.lcons (.int .i64 0) (.lcons .nils .lnil))), .d (.int .i64 5)]) (.ret [.d (.lcons (.var 14) (.lcons (.var 15) (.lcons (.var 16) .lnil))), .d (.int .i64 0)])))))))
theorem t65_ok : fnO Tryz.prog mdA 65 [.agg [.int .i64, .int .i64, .slice [.str, .str, .slice [.int .i64, .int .i64, .int .i64, .int .i64, .int .i64], .slice [.int .i64, .int .i64, .int .i64, .int .i64, .int .i64, .int .i64], .bool, .bool, .int .i64, .str, .int .i64]], .agg [.str, .str, .slice [.int .i64, .int .i64, .int .i64, .int .i64, .int .i64], .slice [.int .i64, .int .i64, .int .i64, .int .i64, .int .i64, .int .i64], .bool, .bool, .int .i64, .str, .int .i64]] = t65 := by kernel_rfl
theorem c65 : callable Tryz.prog 65 = true := by kernel_rfl
noncomputable def t132 : R := .fact (.o2 .le (.o1 .len (.var 0)) (.int .i64 140737488355328)) (.need (.o2 .le (.int .i64 0) (.var 1)) (.need (.o2 .le (.var 1) (.var 2)) (.need (.o2 .le (.var 2) (.o1 .len (.var 0))) (.ite (.o2 .eq (.var 1) (.var 2)) (.ret [.own 9 (.var 0)]) (.guess (.bool true) (.ite (.var 3) (.need (.o2 .le (.var 1) (.o1 .len (.var 0))) (.need (.o2 .le (.int .i64 0) (.var 2)) (.need (.o2 .le (.int .i64 0) (.o2 (.add .i64) (.var 1) (.o2 (.sub .i64) (.o1 .len (.var 0)) (.var 2)))) (.need (.o2 .le (.o2 (.add .i64) (.var 1) (.o2 (.sub .i64) (.o1 .len (.var 0)) (.var 2))) (.o1 .len (.var 0))) (.need (.o2 .le (.o1 .len (.var 0)) (.o1 .len (.o2 .app (.o2 .app (.sub (.var 0) (.int .i64 0) (.var 1)) (.sub (.var 0) (.var 2) (.o1 .len (.var 0)))) (.sub (.var 0) (.o2 (.add .i64) (.var 1) (.o2 (.sub .i64) (.o1 .len (.var 0)) (.var 2))) (.o1 .len (.var 0)))))) (.ret [.own 9 (.sub (.o2 .app (.o2 .app (.sub (.o2 .app (.o2 .app (.sub (.var 0) (.int .i64 0) (.var 1)) (.sub (.var 0) (.var 2) (.o1 .len (.var 0)))) (.sub (.var 0) (.o2 (.add .i64) (.var 1) (.o2 (.sub .i64) (.o1 .len (.var 0)) (.var 2))) (.o1 .len (.var 0)))) (.int .i64 0) (.o2 (.add .i64) (.var 1) (.o2 (.sub .i64) (.o1 .len (.var 0)) (.var 2)))) (.rep (.o2 (.sub .i64) (.o1 .len (.var 0)) (.o2 (.add .i64) (.var 1) (.o2 (.sub .i64) (.o1 .len (.var 0)) (.var 2)))) (.lcons (.str []) (.lcons (.str []) (.lcons .nils (.lcons .nils (.lcons (.bool false) (.lcons (.bool false) (.lcons (.int .i64 0) (.lcons (.str []) (.lcons (.int .i64 0) .lnil))))))))))) (.sub (.o2 .app (.o2 .app (.sub (.var 0) (.int .i64 0) (.var 1)) (.sub (.var 0) (.var 2) (.o1 .len (.var 0)))) (.sub (.var 0) (.o2 (.add .i64) (.var 1) (.o2 (.sub .i64) (.o1 .len (.var 0)) (.var 2))) (.o1 .len (.var 0)))) (.o1 .len (.var 0)) (.o1 .len (.o2 .app (.o2 .app (.sub (.var 0) (.int .i64 0) (.var 1)) (.sub (.var 0) (.var 2) (.o1 .len (.var 0)))) (.sub (.var 0) (.o2 (.add .i64) (.var 1) (.o2 (.sub .i64) (.o1 .len (.var 0)) (.var 2))) (.o1 .len (.var 0))))))) (.int .i64 0) (.o2 (.add .i64) (.var 1) (.o2 (.sub .i64) (.o1 .len (.var 0)) (.var 2))))])))))) (.need (.o2 .le (.int .i64 0) (.var 2)) (.need (.o2 .le (.var 1) (.o1 .len (.var 0))) (.need (.o2 .le (.int .i64 0) (.o2 (.add .i64) (.var 1) (.o2 (.sub .i64) (.o1 .len (.var 0)) (.var 2)))) (.need (.o2 .le (.o2 (.add .i64) (.var 1) (.o2 (.sub .i64) (.o1 .len (.var 0)) (.var 2))) (.o1 .len (.var 0))) (.need (.o2 .le (.o1 .len (.var 0)) (.o1 .len (.o2 .app (.o2 .app (.sub (.var 0) (.int .i64 0) (.var 1)) (.sub (.var 0) (.var 2) (.o1 .len (.var 0)))) (.sub (.var 0) (.o2 (.add .i64) (.var 1) (.o2 (.sub .i64) (.o1 .len (.var 0)) (.var 2))) (.o1 .len (.var 0)))))) (.ret [.own 9 (.sub (.o2 .app (.o2 .app (.sub (.o2 .app (.o2 .app (.sub (.var 0) (.int .i64 0) (.var 1)) (.sub (.var 0) (.var 2) (.o1 .len (.var 0)))) (.sub (.var 0) (.o2 (.add .i64) (.var 1) (.o2 (.sub .i64) (.o1 .len (.var 0)) (.var 2))) (.o1 .len (.var 0)))) (.int .i64 0) (.o2 (.add .i64) (.var 1) (.o2 (.sub .i64) (.o1 .len (.var 0)) (.var 2)))) (.rep (.o2 (.sub .i64) (.o1 .len (.var 0)) (.o2 (.add .i64) (.var 1) (.o2 (.sub .i64) (.o1 .len (.var 0)) (.var 2)))) (.lcons (.str []) (.lcons (.str []) (.lcons .nils (.lcons .nils (.lcons (.bool false) (.lcons (.bool false) (.lcons (.int .i64 0) (.lcons (.str []) (.lcons (.int .i64 0) .lnil))))))))))) (.sub (.o2 .app (.o2 .app (.sub (.var 0) (.int .i64 0) (.var 1)) (.sub (.var 0) (.var 2) (.o1 .len (.var 0)))) (.sub (.var 0) (.o2 (.add .i64) (.var 1) (.o2 (.sub .i64) (.o1 .len (.var 0)) (.var 2))) (.o1 .len (.var 0)))) (.o1 .len (.var 0)) (.o1 .len (.o2 .app (.o2 .app (.sub (.var 0) (.int .i64 0) (.var 1)) (.sub (.var 0) (.var 2) (.o1 .len (.var 0)))) (.sub (.var 0) (.o2 (.add .i64) (.var 1) (.o2 (.sub .i64) (.o1 .len (.var 0)) (.var 2))) (.o1 .len (.var 0))))))) (.int .i64 0) (.o2 (.add .i64) (.var 1) (.o2 (.sub .i64) (.o1 .len (.var 0)) (.var 2))))]))))))))))))
theorem t132_ok : fnXO Tryz.prog mdA 132 [.own cueKs, .cell (.int .i64), .cell (.int .i64)] = t132 := by kernel_rfl
theorem c132 : callable Tryz.prog 132 = true := by kernel_rfl
theorem denR_guess {P : Program} {F : Option Nat → List RV → Prop} (t : T) (r : R) (ags : Ags) (ρ : List D) : denR P F noK (.guess t r) ags ρ = (∀ b : Bool, (b = true → den ρ t = .bool true) → denR P F noK r ags (ρ ++ [.bool b])) := rfl
theorem cloneA_ok : Contract Tryz.prog 86 fun args K => ∃ (cs : List Cue), (∀ c ∈ cs, c.Ok) ∧ cs.length ≤ 1000000 ∧ args = [.slice (cs.map Cue.enc)] ∧ K [.own 9 (cs.map Cue.enc)] := by
  refine .of c86 t86_ok ?_
  rintro _ K ⟨cs, hcs, hlen, rfl, hK⟩ hsm
  refine ⟨[.slice (cs.map Cue.enc)], rfl, ⟨cues_has hcs, trivial⟩, ?_⟩
  unfold t86
  simp only [denR]
  intro b hb
  simp only [zz, RT.den, den, O1.eval, O2.eval, D.eqb, Ags.none, reduceCtorEq, forall_const, if_true, if_false, ite_true, ite_false, D.sub, D.cell, D.elem, D.cells, D.padd, D.list, D.push, List.length_map]
  cases b with
  | true =>
    have := hb rfl
    simp only [zz, RT.den, den, O1.eval, O2.eval, D.eqb, Ags.none, reduceCtorEq, forall_const, if_true, if_false, ite_true, ite_false, D.sub, D.cell, D.elem, D.cells, D.padd, D.list, D.push, List.length_map] at this
    have h0 : cs = [] := List.eq_nil_of_length_eq_zero (by omega)
    subst h0
    exact ⟨fun _ => hK, fun h => by simp at h⟩
  | false => exact ⟨fun h => by simp at h, fun _ => ⟨by omega, hK⟩⟩
theorem isWithout_ok : Contract Tryz.prog 182 fun args K => ∃ (c : Cue) (s : List UInt8), c.Ok ∧ args = [.agg c.enc, .ptr [.str s]] ∧ K [.d (.bool (c.num == s))] := by
  refine .of c182 t182_ok ?_
  rintro _ K ⟨c, s, hc, rfl, hK⟩ hsm
  refine ⟨c.enc ++ [.ptr [.str s]], rfl, by exact (Cue.has hc).append (show HasKs [.ptr [.str]] [.ptr [.str s]] from ⟨⟨trivial, trivial⟩, trivial⟩), ?_⟩
  simp only [zz, RT.den, den, O1.eval, O2.eval, D.eqb, Ags.none, reduceCtorEq, forall_const, if_true, if_false, ite_true, ite_false, D.sub, D.cell, D.elem, D.cells, D.padd, D.list, D.push, t182, Cue.enc]
  exact hK
theorem isWithout_says (l : List Cue) (hl : ∀ c ∈ l, c.Ok) (s : List UInt8) : SaysOf Tryz.prog (.clo 182 [.ptr [.str s]]) Cue.enc l (fun c => c.num == s) := by
  refine ⟨fun as_ K => ∃ c : Cue, c.Ok ∧ as_ = [.agg c.enc] ∧ K [.d (.bool (c.num == s))], FvC.of c182 isWithout_ok ?_, fun c hc => ⟨c, hl c hc, rfl, rfl⟩⟩
  rintro _ K ⟨c, hc, rfl, hK⟩
  refine ⟨⟨c, s, hc, rfl, hK⟩, argsTyped_of [some (.agg cueKs)] (by kernel_rfl) ?_⟩
  intro i rk d h1 h2
  cases i with
  | zero => simp at h1 h2; subst h1 h2; exact Cue.has hc
  | succ i => simp at h1
theorem cwithout_ok : Contract Tryz.prog 130 fun args K => ∃ (l : Lis) (s : List UInt8), l.Ok ∧ l.cues.length ≤ 1000000 ∧ args = [.agg l.enc, .str s] ∧ K [.own 9 ((without l.cues s).map Cue.enc)] := by
  refine .of c130 t130_ok ?_
  rintro _ K ⟨l, s, hl, hlen, rfl, hK⟩ hsm
  refine ⟨l.enc ++ [.str s], rfl, by exact has_s hl, ?_⟩
  refine denR_call cloneA_ok ⟨l.cues, hl.cues, hlen, by simp only [zz, RT.den, den, O1.eval, O2.eval, D.eqb, Ags.none, reduceCtorEq, forall_const, if_true, if_false, ite_true, ite_false, D.sub, D.cell, D.elem, D.cells, D.padd, D.list, D.push, Lis.enc], _, rfl, ?_⟩
  refine denR_callX delCue_ok ⟨[.slice (l.cues.map Cue.enc), .clo 182 [.ptr [.str s]]], rfl, ⟨cues_has hl.cues, trivial, trivial⟩⟩ (fun h => by cases h) ?_
  refine ⟨l.cues, fun c => c.num == s, 182, [.ptr [.str s]], hl.cues, hlen, rfl, isWithout_says l.cues hl.cues s, [.slice ((without l.cues s).map Cue.enc)], rfl, ?_⟩
  simp only [zz, RT.den, den, O1.eval, O2.eval, D.eqb, Ags.none, reduceCtorEq, forall_const, if_true, if_false, ite_true, ite_false, D.sub, D.cell, D.elem, D.cells, D.padd, D.list, D.push, Lis.enc]
  exact hK
theorem placedGo_put {c : Cue} : ∀ (xs : List Cue) (acc : List Cue), Rising xs → (if (placedGo c xs (acc, false)).2 then (placedGo c xs (acc, false)).1 else (placedGo c xs (acc, false)).1 ++ [c]) = acc ++ ins c (xs.filter fun x => decide (valOf x ≠ valOf c))
  | [], acc, _ => by simp [placedGo, ins]
  | x :: xs, acc, h => by
    have h' := h
    simp only [Rising, List.pairwise_cons] at h
    rcases Int.lt_trichotomy (valOf x) (valOf c) with hlt | heq | hgt
    · have o1 : order05 x.num c.num < 0 := (order_neg _ _).2 hlt
      have e1 : ¬ (0 : Int) ≤ order05 x.num c.num := by omega
      have e2 : ¬ order05 x.num c.num = 0 := by omega
      have ih := placedGo_put (c := c) xs (acc ++ [x]) h.2
      simp only [placedGo, e1, decide_false, Bool.and_false, Bool.false_eq_true, if_false, e2] at ih ⊢
      rw [ih]
      have : decide (valOf x ≠ valOf c) = true := by simp; omega
      rw [List.filter_cons, if_pos this]
      simp [ins, hlt]
    · have o1 : order05 x.num c.num = 0 := (order_zero _ _).2 heq
      have hne : ∀ y ∈ xs, valOf y ≠ valOf c := fun y hy => by have := h.1 y hy; omega
      have hd := placedGo_done xs (acc ++ [c]) hne
      simp only [placedGo, o1, Int.le_refl, decide_true, Bool.not_false, Bool.and_true, if_true, hd]
      have : ¬ decide (valOf x ≠ valOf c) = true := by simp [heq]
      rw [List.filter_cons, if_neg this]
      have hf : (xs.filter fun x => decide (valOf x ≠ valOf c)) = xs := List.filter_eq_self.2 fun y hy => by simpa using hne y hy
      rw [hf]
      cases xs with
      | nil => simp [ins]
      | cons y ys =>
        have := h.1 y (by simp)
        have : ¬ valOf y < valOf c := by omega
        simp [ins, this]
    · have o1 : 0 < order05 x.num c.num := (order_pos _ _).2 hgt
      have e1 : (0 : Int) ≤ order05 x.num c.num := by omega
      have e2 : ¬ order05 x.num c.num = 0 := by omega
      have hne : ∀ y ∈ xs, valOf y ≠ valOf c := fun y hy => by have := h.1 y hy; omega
      have hd := placedGo_done xs (acc ++ [c] ++ [x]) hne
      simp only [placedGo, e1, e2, decide_true, Bool.not_false, Bool.and_true, if_true, if_false, hd]
      have hf : ((x :: xs).filter fun x => decide (valOf x ≠ valOf c)) = x :: xs := List.filter_eq_self.2 fun y hy => by
        rcases List.mem_cons.1 hy with rfl | hy
        · simp; omega
        · simpa using hne y hy
      rw [hf]
      have : ¬ valOf x < valOf c := by omega
      simp [ins, this]
theorem without_val {cs : List Cue} {c : Cue} (h : ∀ x ∈ cs, check05 x.num = 0) (hc : check05 c.num = 0) : without cs c.num = cs.filter fun x => decide (valOf x ≠ valOf c) := by
  refine List.filter_congr fun x hx => ?_
  by_cases e : value05 x.num = value05 c.num
  · have : x.num = c.num := value05_inj (h x hx) hc e
    simp [valOf, this]
  · have : x.num ≠ c.num := fun e2 => e (by rw [e2])
    simp [valOf, e, this]
theorem placed_put {cs : List Cue} {c : Cue} (hr : Rising cs) (h : ∀ x ∈ cs, check05 x.num = 0) (hc : check05 c.num = 0) : placed cs c = ins c (without cs c.num) := by
  have := placedGo_put (c := c) cs [] hr
  rw [without_val h hc]
  simpa [placed] using this
theorem rising_without {cs : List Cue} (hr : Rising cs) (s : List UInt8) : Rising (without cs s) := hr.filter _
theorem mem_without {cs : List Cue} {s : List UInt8} {c : Cue} : c ∈ without cs s ↔ c ∈ cs ∧ c.num ≠ s := by simp [without, List.mem_filter]
theorem ins_len (c : Cue) (cs : List Cue) : (ins c cs).length = cs.length + 1 := by have := (ins_perm c cs).length_eq; simpa using this
def putR (l : Lis) (c : Cue) : Lis × Int := if checkL order05 l ≠ 0 then (zeroL, checkL order05 l) else if check16 c ≠ 0 then (zeroL, check16 c) else if 64 < (ins c (without l.cues c.num)).length then (zeroL, 5) else ({ l with cues := ins c (without l.cues c.num) }, 0)
def dropR (l : Lis) (s : List UInt8) : Lis × Bool × Int := if given17 l s ≠ 0 then (zeroL, false, given17 l s) else ({ l with cues := without l.cues s }, decide (0 ≤ place l.cues s), 0)
theorem without_Ok {cs : List Cue} (h : ∀ c ∈ cs, c.Ok) (s : List UInt8) : ∀ c ∈ without cs s, c.Ok := fun c hc => h c (mem_without.1 hc).1
theorem put_ok17 : Contract Tryz.prog 64 fun args K => ∃ (l : Lis) (c : Cue), l.Ok ∧ c.Ok ∧ args = [.agg l.enc, .agg c.enc] ∧ K [.d (.agg (putR l c).1.enc), .d (.int .i64 (putR l c).2)] := by
  refine .of c64 t64_ok ?_
  rintro _ K ⟨l, c, hl, hc, rfl, hK⟩ hsm
  refine ⟨l.enc ++ c.enc, rfl, by exact (Lis.has hl).append (Cue.has hc), ?_⟩
  refine denR_call clCheck17_ok ⟨l, hl, by simp only [zz, RT.den, den, O1.eval, O2.eval, D.eqb, Ags.none, reduceCtorEq, forall_const, if_true, if_false, ite_true, ite_false, D.sub, D.cell, D.elem, D.cells, D.padd, D.list, D.push, Lis.enc, Cue.enc], _, rfl, ?_⟩
  simp only [zz, RT.den, den, O1.eval, O2.eval, D.eqb, Ags.none, reduceCtorEq, forall_const, if_true, if_false, ite_true, ite_false, D.sub, D.cell, D.elem, D.cells, D.padd, D.list, D.push, Lis.enc, Cue.enc]
  unfold putR at hK
  refine ⟨fun h => ?_, fun h => ?_⟩
  · have h : checkL order05 l ≠ 0 := by simpa using h
    rw [if_pos h] at hK; exact hK
  have h : checkL order05 l = 0 := by simpa using h
  rw [if_neg (by simp [h])] at hK
  refine denR_call ccheck_ok ⟨c, hc, by simp only [zz, RT.den, den, O1.eval, O2.eval, D.eqb, Ags.none, reduceCtorEq, forall_const, if_true, if_false, ite_true, ite_false, D.sub, D.cell, D.elem, D.cells, D.padd, D.list, D.push, Lis.enc, Cue.enc], _, rfl, ?_⟩
  simp only [zz, RT.den, den, O1.eval, O2.eval, D.eqb, Ags.none, reduceCtorEq, forall_const, if_true, if_false, ite_true, ite_false, D.sub, D.cell, D.elem, D.cells, D.padd, D.list, D.push, Lis.enc, Cue.enc]
  refine ⟨fun h2 => ?_, fun h2 => ?_⟩
  · have h2 : check16 c ≠ 0 := by simpa using h2
    rw [if_pos h2] at hK; exact hK
  have h2 : check16 c = 0 := by simpa using h2
  rw [if_neg (by simp [h2])] at hK
  have hR := rightL_of h
  have hlen := hR.len
  have hnum := check16_num h2
  have hwo := without_Ok hl.cues c.num
  have hwl : (without l.cues c.num).length ≤ 64 := Nat.le_trans (List.length_filter_le _ _) hlen
  have hwn : ∀ x ∈ without l.cues c.num, check05 x.num = 0 := fun x hx => hR.num x (mem_without.1 hx).1
  have hwv : ∀ x ∈ without l.cues c.num, valOf x ≠ valOf c := fun x hx e => (mem_without.1 hx).2 (value05_inj (hwn x hx) hnum e)
  have hins := ins_rising (rising_without hR.rising c.num) hwv
  rw [ins_len] at hK
  have happ : ∀ x ∈ without l.cues c.num ++ [c], x.Ok ∧ check05 x.num = 0 := by
    intro x hx
    rcases List.mem_append.1 hx with hx | hx
    · exact ⟨hwo x hx, hwn x hx⟩
    · simp at hx; subst hx; exact ⟨hc, hnum⟩
  simp only [denR_guess]
  intro b _
  cases b <;> simp only [zz, RT.den, den, O1.eval, O2.eval, D.eqb, Ags.none, reduceCtorEq, forall_const, if_true, if_false, ite_true, ite_false, D.sub, D.cell, D.elem, D.cells, D.padd, D.list, D.push]
  all_goals
    refine denR_call cwithout_ok ⟨l, c.num, hl, by omega, by simp only [zz, RT.den, den, O1.eval, O2.eval, D.eqb, Ags.none, reduceCtorEq, forall_const, if_true, if_false, ite_true, ite_false, D.sub, D.cell, D.elem, D.cells, D.padd, D.list, D.push, Lis.enc, Cue.enc], _, rfl, ?_⟩
    generalize hW : without l.cues c.num = W at *
    simp only [zz, RT.den, den, O1.eval, O2.eval, D.eqb, Ags.none, reduceCtorEq, forall_const, if_true, if_false, ite_true, ite_false, D.sub, D.cell, D.elem, D.cells, D.padd, D.list, D.push, Lis.enc, Cue.enc, List.length_append, List.length_map, List.length_cons, List.length_nil]
    refine ⟨by omega, fun _ => ⟨fun h3 => ?_, fun h3 => ?_⟩⟩
    · rw [if_pos (by omega)] at hK; exact hK
    · rw [if_neg (by omega)] at hK
      have e1 : W.map Cue.enc ++ [[D.str c.num, .str c.label, .slice (c.moves.map Mov.enc), .slice (c.parts.map Tim.enc), .bool c.block, .bool c.mark, .int .i64 c.follow, .str c.link, .int .i64 c.loops]] = (W ++ [c]).map Cue.enc := by simp [Cue.enc]
      refine denR_callX with_ok ⟨l.enc ++ [.slice ((W ++ [c]).map Cue.enc)], by simp only [zz, RT.den, den, O1.eval, O2.eval, D.eqb, Ags.none, reduceCtorEq, forall_const, if_true, if_false, ite_true, ite_false, D.sub, D.cell, D.elem, D.cells, D.padd, D.list, D.push, Lis.enc, Cue.enc, D.push, e1]; rfl, by exact has_li hl ⟨cues_has fun x hx => (happ x hx).1, trivial⟩⟩ (fun h => by cases h) ?_
      refine ⟨l, W ++ [c], hl, fun x hx => (happ x hx).1, fun x hx => (happ x hx).2, by simp, by simp only [zz, RT.den, den, O1.eval, O2.eval, D.eqb, Ags.none, reduceCtorEq, forall_const, if_true, if_false, ite_true, ite_false, D.sub, D.cell, D.elem, D.cells, D.padd, D.list, D.push, Lis.enc, Cue.enc, D.push, e1], fun cs' hp hs => ?_⟩
      have e2 : cs' = ins c W := perm_sorted_eq valOf (ins c W) cs' (hp.trans ((List.perm_append_comm).trans (ins_perm c W).symm)) hs hins
      subst e2
      refine ⟨(Lis.enc { l with cues := ins c W }), rfl, ?_⟩
      simp only [zz, RT.den, den, O1.eval, O2.eval, D.eqb, Ags.none, reduceCtorEq, forall_const, if_true, if_false, ite_true, ite_false, D.sub, D.cell, D.elem, D.cells, D.padd, D.list, D.push, Lis.enc]
      exact hK
theorem putRef_ok17 : Contract Tryz.prog 65 fun args K => ∃ (l : Lis) (c : Cue), l.Ok ∧ c.Ok ∧ args = [.agg l.enc, .agg c.enc] ∧ K [.d (.agg (putR l c).1.enc), .d (.int .i64 (putR l c).2)] := by
  refine .of c65 t65_ok ?_
  rintro _ K ⟨l, c, hl, hc, rfl, hK⟩ hsm
  refine ⟨l.enc ++ c.enc, rfl, by exact (Lis.has hl).append (Cue.has hc), ?_⟩
  refine denR_call check17_ok ⟨l, hl, by simp only [zz, RT.den, den, O1.eval, O2.eval, D.eqb, Ags.none, reduceCtorEq, forall_const, if_true, if_false, ite_true, ite_false, D.sub, D.cell, D.elem, D.cells, D.padd, D.list, D.push, Lis.enc, Cue.enc], _, rfl, ?_⟩
  simp only [zz, RT.den, den, O1.eval, O2.eval, D.eqb, Ags.none, reduceCtorEq, forall_const, if_true, if_false, ite_true, ite_false, D.sub, D.cell, D.elem, D.cells, D.padd, D.list, D.push, Lis.enc, Cue.enc]
  unfold putR at hK
  refine ⟨fun h => ?_, fun h => ?_⟩
  · have h : checkL order05 l ≠ 0 := by simpa using h
    rw [if_pos h] at hK; exact hK
  have h : checkL order05 l = 0 := by simpa using h
  rw [if_neg (by simp [h])] at hK
  refine denR_call check16_ok ⟨c, hc, by simp only [zz, RT.den, den, O1.eval, O2.eval, D.eqb, Ags.none, reduceCtorEq, forall_const, if_true, if_false, ite_true, ite_false, D.sub, D.cell, D.elem, D.cells, D.padd, D.list, D.push, Lis.enc, Cue.enc], _, rfl, ?_⟩
  simp only [zz, RT.den, den, O1.eval, O2.eval, D.eqb, Ags.none, reduceCtorEq, forall_const, if_true, if_false, ite_true, ite_false, D.sub, D.cell, D.elem, D.cells, D.padd, D.list, D.push, Lis.enc, Cue.enc]
  refine ⟨fun h2 => ?_, fun h2 => ?_⟩
  · have h2 : check16 c ≠ 0 := by simpa using h2
    rw [if_pos h2] at hK; exact hK
  have h2 : check16 c = 0 := by simpa using h2
  rw [if_neg (by simp [h2])] at hK
  have hR := rightL_of h
  have hlen := hR.len
  refine denR_call placed17_ok ⟨l, c, hl, hc, by omega, by simp only [zz, RT.den, den, O1.eval, O2.eval, D.eqb, Ags.none, reduceCtorEq, forall_const, if_true, if_false, ite_true, ite_false, D.sub, D.cell, D.elem, D.cells, D.padd, D.list, D.push, Lis.enc, Cue.enc], _, rfl, ?_⟩
  rw [placed_put hR.rising hR.num (check16_num h2)]
  simp only [zz, RT.den, den, O1.eval, O2.eval, D.eqb, Ags.none, reduceCtorEq, forall_const, if_true, if_false, ite_true, ite_false, D.sub, D.cell, D.elem, D.cells, D.padd, D.list, D.push, Lis.enc, Cue.enc, List.length_map]
  refine fun _ => ⟨fun h3 => ?_, fun h3 => ?_⟩
  · rw [if_pos (by omega)] at hK; exact hK
  · rw [if_neg (by omega)] at hK; exact hK
theorem delete_ok : ContractX Tryz.prog 132 [.own cueKs, .cell (.int .i64), .cell (.int .i64)] false fun args K => ∃ (l : List Cue) (i j : Nat), (∀ m ∈ l, m.Ok) ∧ l.length ≤ 1000000 ∧ i ≤ j ∧ j ≤ l.length ∧ args = [.own 9 (l.map Cue.enc), .d (.int .i64 i), .d (.int .i64 j)] ∧ K [.own 9 ((l.take i ++ l.drop j).map Cue.enc)] := by
  refine .of c132 t132_ok ?_
  rintro _ K ⟨l, i, j, hl, hlen, hij, hjl, rfl, hK⟩
  have hi : I64 i := ⟨by omega, by omega⟩
  have hj : I64 j := ⟨by omega, by omega⟩
  refine ⟨[.slice (l.map Cue.enc), .int .i64 i, .int .i64 j], rfl, ⟨cues_has hl, i64_has hi, i64_has hj, trivial⟩, ?_⟩
  have hw1 : wr64 ((l.length : Int) - (j : Int)) = ((l.length - j : Nat) : Int) := by rw [wr64_eq (by omega)]; omega
  have hw2 : wr64 ((i : Int) + ((l.length - j : Nat) : Int)) = ((i + (l.length - j) : Nat) : Int) := by rw [wr64_eq (by omega)]; omega
  have hT : (l.map Cue.enc).take l.length = l.map Cue.enc := List.take_of_length_le (by simp)
  have hA : (l.map Cue.enc).length = l.length := by simp
  have hfin : (l.take i ++ l.drop j).map Cue.enc = (l.map Cue.enc).take i ++ (l.map Cue.enc).drop j := by simp
  rw [hfin] at hK
  generalize hAA : l.map Cue.enc = A at *
  have hX : ∀ B : List (List D), (A.take i ++ A.drop j ++ B).take (i + (l.length - j)) = A.take i ++ A.drop j := fun B => by
    have : (A.take i ++ A.drop j).length = i + (l.length - j) := by simp; omega
    rw [← this, List.take_left]
  simp only [zz, RT.den, den, O1.eval, O2.eval, D.eqb, Ags.none, reduceCtorEq, forall_const, if_true, if_false, ite_true, ite_false, D.sub, D.cell, D.elem, D.cells, D.padd, D.list, D.push, t132, denR_guess, hA, hw1, hw2, hT, D.rep, List.length_append, List.length_take, List.length_drop]
  refine fun _ => ⟨by omega, hij, hjl, fun h => ?_, fun h => ?_⟩
  · have : i = j := by omega
    subst this
    rw [List.take_append_drop] at hK
    exact hK
  have fin : ∀ R B : List (List D), ((A.take i ++ A.drop j ++ A.drop (i + (l.length - j))).take (i + (l.length - j)) ++ R ++ B).take (i + (l.length - j)) = A.take i ++ A.drop j := fun R B => by
    rw [take_swept (by simp; omega), hX]
  intro b
  refine ⟨fun _ => ⟨by omega, by omega, by omega, by omega, by omega, ?_⟩, fun _ => ⟨by omega, by omega, by omega, by omega, by omega, ?_⟩⟩
  all_goals
    rw [fin]
    exact hK
end Go.Sx.La
set_option maxRecDepth 100000
namespace Go.Sx.La
open Go Go.Sx Go.RowKit Go.Proofs
noncomputable def t66 : R := .call none (.fn 28) [.lcons (.var 0) (.lcons (.var 1) (.lcons (.var 2) .lnil)), .var 3] [.cell (.int .i64), .cell .bool, .cell (.int .i64)] (.ite (.o2 .ne (.var 6) (.int .i64 0)) (.ret [.d (.lcons (.int .i64 0) (.lcons (.int .i64 0) (.lcons .nils .lnil))), .d (.bool false), .d (.var 6)]) (.ite (.var 5) (.call none (.fn 86) [.var 2] [.own [.str, .str, .slice [.int .i64, .int .i64, .int .i64, .int .i64, .int .i64], .slice [.int .i64, .int .i64, .int .i64, .int .i64, .int .i64, .int .i64], .bool, .bool, .int .i64, .str, .int .i64]] (.callX false 132 [.own 9 (.var 7), .d (.var 4), .d (.o2 (.add .i64) (.var 4) (.int .i64 1))] [.own [.str, .str, .slice [.int .i64, .int .i64, .int .i64, .int .i64, .int .i64], .slice [.int .i64, .int .i64, .int .i64, .int .i64, .int .i64, .int .i64], .bool, .bool, .int .i64, .str, .int .i64]] (.ret [.d (.lcons (.var 0) (.lcons (.var 1) (.lcons (.var 8) .lnil))), .d (.bool true), .d (.int .i64 0)]))) (.ret [.d (.lcons (.var 0) (.lcons (.var 1) (.lcons (.var 2) .lnil))), .d (.var 5), .d (.int .i64 0)])))
theorem t66_ok : fnO Tryz.prog mdA 66 [.agg [.int .i64, .int .i64, .slice [.str, .str, .slice [.int .i64, .int .i64, .int .i64, .int .i64, .int .i64], .slice [.int .i64, .int .i64, .int .i64, .int .i64, .int .i64, .int .i64], .bool, .bool, .int .i64, .str, .int .i64]], .cell .str] = t66 := by kernel_rfl
theorem c66 : callable Tryz.prog 66 = true := by kernel_rfl
noncomputable def t67 : R := .call none (.fn 88) [.lcons (.var 0) (.lcons (.var 1) (.lcons (.var 2) .lnil)), .var 3] [.cell (.int .i64)] (.ite (.o2 .ne (.var 4) (.int .i64 0)) (.ret [.d (.lcons (.int .i64 0) (.lcons (.int .i64 0) (.lcons .nils .lnil))), .d (.bool false), .d (.var 4)]) (.call none (.fn 133) [.lcons (.var 0) (.lcons (.var 1) (.lcons (.var 2) .lnil)), .var 3] [.agg [.int .i64, .int .i64, .slice [.str, .str, .slice [.int .i64, .int .i64, .int .i64, .int .i64, .int .i64], .slice [.int .i64, .int .i64, .int .i64, .int .i64, .int .i64, .int .i64], .bool, .bool, .int .i64, .str, .int .i64]]] (.call none (.fn 75) [.lcons (.var 0) (.lcons (.var 1) (.lcons (.var 2) .lnil)), .var 3] [.cell (.int .i64)] (.ret [.d (.lcons (.var 5) (.lcons (.var 6) (.lcons (.var 7) .lnil))), .d (.o2 .ge (.var 8) (.int .i64 0)), .d (.int .i64 0)]))))
theorem t67_ok : fnO Tryz.prog mdA 67 [.agg [.int .i64, .int .i64, .slice [.str, .str, .slice [.int .i64, .int .i64, .int .i64, .int .i64, .int .i64], .slice [.int .i64, .int .i64, .int .i64, .int .i64, .int .i64, .int .i64], .bool, .bool, .int .i64, .str, .int .i64]], .cell .str] = t67 := by kernel_rfl
theorem c67 : callable Tryz.prog 67 = true := by kernel_rfl
noncomputable def t11 : R := .call none (.fn 17) [.lcons (.var 0) (.lcons (.var 1) (.lcons (.var 2) .lnil))] [.cell .bool] (.call (some (.o1 .not (.o1 .not (.var 13)))) (.fn 63) [.lcons (.var 3) (.lcons (.var 4) (.lcons (.var 5) (.lcons (.var 6) (.lcons (.var 7) (.lcons (.var 8) (.lcons (.var 9) (.lcons (.var 10) (.lcons (.var 11) .lnil))))))))] [.cell .bool] (.fact (.ite (.o1 .not (.ite (.o1 .not (.var 13)) (.bool true) (.o1 .not (.var 14)))) (.o2 .le (.o1 .len (.var 12)) (.int .i64 140737488355328)) (.bool true)) (.ite (.ite (.ite (.o1 .not (.var 13)) (.bool true) (.o1 .not (.var 14))) (.bool true) (.o2 .gt (.o1 .len (.var 12)) (.int .i64 40))) (.call none (.fn 18) [] [.cell .bool] (.ret [.d (.var 15)])) (.call none (.fn 64) [.lcons (.var 0) (.lcons (.var 1) (.lcons (.var 2) .lnil)), .lcons (.var 3) (.lcons (.var 4) (.lcons (.var 5) (.lcons (.var 6) (.lcons (.var 7) (.lcons (.var 8) (.lcons (.var 9) (.lcons (.var 10) (.lcons (.var 11) .lnil))))))))] [.agg [.int .i64, .int .i64, .slice [.str, .str, .slice [.int .i64, .int .i64, .int .i64, .int .i64, .int .i64], .slice [.int .i64, .int .i64, .int .i64, .int .i64, .int .i64, .int .i64], .bool, .bool, .int .i64, .str, .int .i64]], .cell (.int .i64)] (.call none (.fn 65) [.lcons (.var 0) (.lcons (.var 1) (.lcons (.var 2) .lnil)), .lcons (.var 3) (.lcons (.var 4) (.lcons (.var 5) (.lcons (.var 6) (.lcons (.var 7) (.lcons (.var 8) (.lcons (.var 9) (.lcons (.var 10) (.lcons (.var 11) .lnil))))))))] [.agg [.int .i64, .int .i64, .slice [.str, .str, .slice [.int .i64, .int .i64, .int .i64, .int .i64, .int .i64], .slice [.int .i64, .int .i64, .int .i64, .int .i64, .int .i64, .int .i64], .bool, .bool, .int .i64, .str, .int .i64]], .cell (.int .i64)] (.call none (.fn 66) [.lcons (.var 0) (.lcons (.var 1) (.lcons (.var 2) .lnil)), .var 12] [.agg [.int .i64, .int .i64, .slice [.str, .str, .slice [.int .i64, .int .i64, .int .i64, .int .i64, .int .i64], .slice [.int .i64, .int .i64, .int .i64, .int .i64, .int .i64, .int .i64], .bool, .bool, .int .i64, .str, .int .i64]], .cell .bool, .cell (.int .i64)] (.call none (.fn 67) [.lcons (.var 0) (.lcons (.var 1) (.lcons (.var 2) .lnil)), .var 12] [.agg [.int .i64, .int .i64, .slice [.str, .str, .slice [.int .i64, .int .i64, .int .i64, .int .i64, .int .i64], .slice [.int .i64, .int .i64, .int .i64, .int .i64, .int .i64, .int .i64], .bool, .bool, .int .i64, .str, .int .i64]], .cell .bool, .cell (.int .i64)] (.call none (.fn 21) [.lcons (.var 15) (.lcons (.var 16) (.lcons (.var 17) .lnil)), .lcons (.var 19) (.lcons (.var 20) (.lcons (.var 21) .lnil))] [.cell .bool] (.call (some (.ite (.var 33) (.o2 .eq (.var 18) (.var 22)) (.bool false))) (.fn 21) [.lcons (.var 23) (.lcons (.var 24) (.lcons (.var 25) .lnil)), .lcons (.var 28) (.lcons (.var 29) (.lcons (.var 30) .lnil))] [.cell .bool] (.call (some (.ite (.ite (.ite (.ite (.var 33) (.o2 .eq (.var 18) (.var 22)) (.bool false)) (.var 34) (.bool false)) (.o2 .eq (.var 26) (.var 31)) (.bool false)) (.o2 .eq (.var 27) (.var 32)) (.bool false))) (.fn 18) [] [.cell .bool] (.ret [.d (.ite (.ite (.ite (.ite (.ite (.var 33) (.o2 .eq (.var 18) (.var 22)) (.bool false)) (.var 34) (.bool false)) (.o2 .eq (.var 26) (.var 31)) (.bool false)) (.o2 .eq (.var 27) (.var 32)) (.bool false)) (.var 35) (.bool false))])))))))))))
theorem t11_ok : fnO Tryz.prog mdA 11 [.agg [.int .i64, .int .i64, .slice [.str, .str, .slice [.int .i64, .int .i64, .int .i64, .int .i64, .int .i64], .slice [.int .i64, .int .i64, .int .i64, .int .i64, .int .i64, .int .i64], .bool, .bool, .int .i64, .str, .int .i64]], .agg [.str, .str, .slice [.int .i64, .int .i64, .int .i64, .int .i64, .int .i64], .slice [.int .i64, .int .i64, .int .i64, .int .i64, .int .i64, .int .i64], .bool, .bool, .int .i64, .str, .int .i64], .cell .str] = t11 := by kernel_rfl
theorem c11 : callable Tryz.prog 11 = true := by kernel_rfl
theorem drop_ok17 : Contract Tryz.prog 66 fun args K => ∃ (l : Lis) (s : List UInt8), l.Ok ∧ args = [.agg l.enc, .str s] ∧ K [.d (.agg (dropR l s).1.enc), .d (.bool (dropR l s).2.1), .d (.int .i64 (dropR l s).2.2)] := by
  refine .of c66 t66_ok ?_
  rintro _ K ⟨l, s, hl, rfl, hK⟩ hsm
  refine ⟨l.enc ++ [.str s], rfl, by exact has_s hl, ?_⟩
  refine denR_call findR_ok ⟨l, s, hl, by simp only [zz, RT.den, den, O1.eval, O2.eval, D.eqb, Ags.none, reduceCtorEq, forall_const, if_true, if_false, ite_true, ite_false, D.sub, D.cell, D.elem, D.cells, D.padd, D.list, D.push, Lis.enc], _, rfl, ?_⟩
  by_cases hg : given17 l s = 0
  rotate_left
  · have e1 : findR l s = (0, false, given17 l s) := by unfold findR; rw [if_pos (by simpa using hg)]
    have e2 : dropR l s = (zeroL, false, given17 l s) := by unfold dropR; rw [if_pos (by simpa using hg)]
    rw [e1]
    rw [e2] at hK
    simp only [zz, RT.den, den, O1.eval, O2.eval, D.eqb, Ags.none, reduceCtorEq, forall_const, if_true, if_false, ite_true, ite_false, D.sub, D.cell, D.elem, D.cells, D.padd, D.list, D.push, Lis.enc]
    exact ⟨fun _ => hK, fun h => absurd (by simpa using h) hg⟩
  obtain ⟨hR, h05⟩ := given_right hg
  have hlen := hR.len
  have e2 : dropR l s = ({ l with cues := without l.cues s }, decide (0 ≤ place l.cues s), 0) := by unfold dropR; rw [if_neg (by simp [hg])]
  rw [e2] at hK
  by_cases hp : place l.cues s < 0
  · have e1 : findR l s = (0, false, 0) := by
      unfold findR; rw [if_neg (by simp [hg]), if_pos hp]
      have : ¬ 0 ≤ place l.cues s := by omega
      simp [this]
    have e3 : without l.cues s = l.cues := List.filter_eq_self.2 fun x hx => by
      have := place_neg.1 hp x hx
      simpa using this
    have e4 : decide (0 ≤ place l.cues s) = false := by simp; omega
    rw [e1]
    rw [e3, e4] at hK
    simp only [zz, RT.den, den, O1.eval, O2.eval, D.eqb, Ags.none, reduceCtorEq, forall_const, if_true, if_false, ite_true, ite_false, D.sub, D.cell, D.elem, D.cells, D.padd, D.list, D.push, Lis.enc]
    exact hK
  · obtain ⟨k, hk, hpk, hks, _⟩ := place_pos hp
    have e1 : findR l s = ((k : Int), true, 0) := by
      have h0 : (0 : Int) ≤ (k : Int) := by omega
      unfold findR; rw [if_neg (by simp [hg]), if_neg hp, hpk]
      simp only [h0, decide_true]
    have e3 := without_at hR.rising hk hks
    have e4 : decide (0 ≤ place l.cues s) = true := by simp; omega
    have hw : wr64 ((k : Int) + 1) = ((k + 1 : Nat) : Int) := by rw [wr64_eq (by omega)]; omega
    rw [e1]
    rw [e3, e4] at hK
    simp only [zz, RT.den, den, O1.eval, O2.eval, D.eqb, Ags.none, reduceCtorEq, forall_const, if_true, if_false, ite_true, ite_false, D.sub, D.cell, D.elem, D.cells, D.padd, D.list, D.push, Lis.enc]
    refine denR_call cloneA_ok ⟨l.cues, hl.cues, by omega, by simp only [zz, RT.den, den, O1.eval, O2.eval, D.eqb, Ags.none, reduceCtorEq, forall_const, if_true, if_false, ite_true, ite_false, D.sub, D.cell, D.elem, D.cells, D.padd, D.list, D.push, Lis.enc], _, rfl, ?_⟩
    refine denR_callX delete_ok ⟨[.slice (l.cues.map Cue.enc), .int .i64 (k : Nat), .int .i64 ((k + 1 : Nat) : Int)], by simp only [zz, RT.den, den, O1.eval, O2.eval, D.eqb, Ags.none, reduceCtorEq, forall_const, if_true, if_false, ite_true, ite_false, D.sub, D.cell, D.elem, D.cells, D.padd, D.list, D.push, Lis.enc, hw]; rfl, ⟨cues_has hl.cues, i64_has ⟨by omega, by omega⟩, i64_has ⟨by omega, by omega⟩, trivial⟩⟩ (fun h => by cases h) ?_
    refine ⟨l.cues, k, k + 1, hl.cues, by omega, by omega, hk, by simp only [zz, RT.den, den, O1.eval, O2.eval, D.eqb, Ags.none, reduceCtorEq, forall_const, if_true, if_false, ite_true, ite_false, D.sub, D.cell, D.elem, D.cells, D.padd, D.list, D.push, Lis.enc, hw], [.slice ((l.cues.take k ++ l.cues.drop (k + 1)).map Cue.enc)], rfl, ?_⟩
    simp only [zz, RT.den, den, O1.eval, O2.eval, D.eqb, Ags.none, reduceCtorEq, forall_const, if_true, if_false, ite_true, ite_false, D.sub, D.cell, D.elem, D.cells, D.padd, D.list, D.push, Lis.enc]
    exact hK
theorem dropRef_ok17 : Contract Tryz.prog 67 fun args K => ∃ (l : Lis) (s : List UInt8), l.Ok ∧ args = [.agg l.enc, .str s] ∧ K [.d (.agg (dropR l s).1.enc), .d (.bool (dropR l s).2.1), .d (.int .i64 (dropR l s).2.2)] := by
  refine .of c67 t67_ok ?_
  rintro _ K ⟨l, s, hl, rfl, hK⟩ hsm
  refine ⟨l.enc ++ [.str s], rfl, by exact has_s hl, ?_⟩
  refine denR_call given_ok ⟨l, s, hl, by simp only [zz, RT.den, den, O1.eval, O2.eval, D.eqb, Ags.none, reduceCtorEq, forall_const, if_true, if_false, ite_true, ite_false, D.sub, D.cell, D.elem, D.cells, D.padd, D.list, D.push, Lis.enc], _, rfl, ?_⟩
  by_cases hg : given17 l s = 0
  rotate_left
  · have e2 : dropR l s = (zeroL, false, given17 l s) := by unfold dropR; rw [if_pos (by simpa using hg)]
    rw [e2] at hK
    simp only [zz, RT.den, den, O1.eval, O2.eval, D.eqb, Ags.none, reduceCtorEq, forall_const, if_true, if_false, ite_true, ite_false, D.sub, D.cell, D.elem, D.cells, D.padd, D.list, D.push, Lis.enc]
    exact ⟨fun _ => hK, fun h => absurd (by simpa using h) hg⟩
  obtain ⟨hR, h05⟩ := given_right hg
  have hlen := hR.len
  have e2 : dropR l s = ({ l with cues := without l.cues s }, decide (0 ≤ place l.cues s), 0) := by unfold dropR; rw [if_neg (by simp [hg])]
  rw [e2] at hK
  rw [hg]
  simp only [zz, RT.den, den, O1.eval, O2.eval, D.eqb, Ags.none, reduceCtorEq, forall_const, if_true, if_false, ite_true, ite_false, D.sub, D.cell, D.elem, D.cells, D.padd, D.list, D.push, Lis.enc]
  refine denR_call without17_ok ⟨l, s, hl, by omega, by simp only [zz, RT.den, den, O1.eval, O2.eval, D.eqb, Ags.none, reduceCtorEq, forall_const, if_true, if_false, ite_true, ite_false, D.sub, D.cell, D.elem, D.cells, D.padd, D.list, D.push, Lis.enc], _, rfl, ?_⟩
  refine denR_call place17_ok ⟨l, s, hl, by simp only [zz, RT.den, den, O1.eval, O2.eval, D.eqb, Ags.none, reduceCtorEq, forall_const, if_true, if_false, ite_true, ite_false, D.sub, D.cell, D.elem, D.cells, D.padd, D.list, D.push, Lis.enc], _, rfl, ?_⟩
  simp only [zz, RT.den, den, O1.eval, O2.eval, D.eqb, Ags.none, reduceCtorEq, forall_const, if_true, if_false, ite_true, ite_false, D.sub, D.cell, D.elem, D.cells, D.padd, D.list, D.push, Lis.enc]
  exact hK
theorem zeroL_Ok : zeroL.Ok := ⟨⟨by decide, by decide⟩, ⟨by decide, by decide⟩, by simp [zeroL]⟩
theorem putR_Ok {l : Lis} {c : Cue} (hl : l.Ok) (hc : c.Ok) : (putR l c).1.Ok := by
  unfold putR
  split
  · exact zeroL_Ok
  split
  · exact zeroL_Ok
  split
  · exact zeroL_Ok
  · refine ⟨hl.num, hl.prio, fun x hx => ?_⟩
    rcases List.mem_cons.1 ((ins_perm _ _).mem_iff.1 hx) with rfl | hx
    · exact hc
    · exact hl.cues x (mem_without.1 hx).1
theorem dropR_Ok {l : Lis} (hl : l.Ok) (s : List UInt8) : (dropR l s).1.Ok := by
  unfold dropR
  split
  · exact zeroL_Ok
  · exact ⟨hl.num, hl.prio, fun x hx => hl.cues x (mem_without.1 hx).1⟩
theorem law11_typed : Contract Tryz.prog 11 fun args K => ∃ (l : Lis) (c : Cue) (s : List UInt8), l.Ok ∧ c.Ok ∧ args = [.agg l.enc, .agg c.enc, .str s] ∧ K [.d (.bool true)] := by
  refine .of c11 t11_ok ?_
  rintro _ K ⟨l, c, s, hl, hc, rfl, hK⟩ hsm
  refine ⟨l.enc ++ c.enc ++ [.str s], rfl, by exact (show HasKs ((liKs ++ cueKs) ++ [.str]) _ from ((Lis.has hl).append (Cue.has hc)).append (show HasKs [.str] [.str s] from ⟨trivial, trivial⟩)), ?_⟩
  refine denR_call few17_ok ⟨l, hl, by simp only [zz, RT.den, den, O1.eval, O2.eval, D.eqb, Ags.none, reduceCtorEq, forall_const, if_true, if_false, ite_true, ite_false, D.sub, D.cell, D.elem, D.cells, D.padd, D.list, D.push, Lis.enc, Cue.enc], _, rfl, ?_⟩
  have main : ∀ v : Bool, denR Tryz.prog (fun _ rs => K rs) noK (match t11 with | .call _ _ _ _ (.call _ _ _ _ r) => r | r => r) .none (l.enc ++ c.enc ++ [.str s] ++ [.bool (few17 l)] ++ [.bool v]) := by
    intro v
    simp only [zz, RT.den, den, O1.eval, O2.eval, D.eqb, Ags.none, reduceCtorEq, forall_const, if_true, if_false, ite_true, ite_false, D.sub, D.cell, D.elem, D.cells, D.padd, D.list, D.push, t11, Lis.enc, Cue.enc]
    refine fun _ => ⟨fun _ => ?_, fun _ => ?_⟩
    · refine denR_call awake_ok ⟨rfl, _, rfl, ?_⟩
      simp only [zz, RT.den, den, O1.eval, O2.eval, D.eqb, Ags.none, reduceCtorEq, forall_const, if_true, if_false, ite_true, ite_false, D.sub, D.cell, D.elem, D.cells, D.padd, D.list, D.push]
      exact hK
    · have hp := putR_Ok hl hc
      have hd := dropR_Ok hl s
      refine denR_call put_ok17 ⟨l, c, hl, hc, by simp only [zz, RT.den, den, O1.eval, O2.eval, D.eqb, Ags.none, reduceCtorEq, forall_const, if_true, if_false, ite_true, ite_false, D.sub, D.cell, D.elem, D.cells, D.padd, D.list, D.push, Lis.enc, Cue.enc], _, rfl, ?_⟩
      refine denR_call putRef_ok17 ⟨l, c, hl, hc, by simp only [zz, RT.den, den, O1.eval, O2.eval, D.eqb, Ags.none, reduceCtorEq, forall_const, if_true, if_false, ite_true, ite_false, D.sub, D.cell, D.elem, D.cells, D.padd, D.list, D.push, Lis.enc, Cue.enc], _, rfl, ?_⟩
      refine denR_call drop_ok17 ⟨l, s, hl, by simp only [zz, RT.den, den, O1.eval, O2.eval, D.eqb, Ags.none, reduceCtorEq, forall_const, if_true, if_false, ite_true, ite_false, D.sub, D.cell, D.elem, D.cells, D.padd, D.list, D.push, Lis.enc, Cue.enc], _, rfl, ?_⟩
      refine denR_call dropRef_ok17 ⟨l, s, hl, by simp only [zz, RT.den, den, O1.eval, O2.eval, D.eqb, Ags.none, reduceCtorEq, forall_const, if_true, if_false, ite_true, ite_false, D.sub, D.cell, D.elem, D.cells, D.padd, D.list, D.push, Lis.enc, Cue.enc], _, rfl, ?_⟩
      refine denR_call same17_ok ⟨(putR l c).1, (putR l c).1, hp, hp, by simp only [zz, RT.den, den, O1.eval, O2.eval, D.eqb, Ags.none, reduceCtorEq, forall_const, if_true, if_false, ite_true, ite_false, D.sub, D.cell, D.elem, D.cells, D.padd, D.list, D.push, Lis.enc, Cue.enc], _, rfl, ?_⟩
      rw [same17_self]
      refine denR_gcall same17_ok true [.bool true] (by simp only [zz, RT.den, den, O1.eval, O2.eval, D.eqb, Ags.none, reduceCtorEq, forall_const, if_true, if_false, ite_true, ite_false, D.sub, D.cell, D.elem, D.cells, D.padd, D.list, D.push, Lis.enc, Cue.enc] <;> simp) (fun _ => ⟨(dropR l s).1, (dropR l s).1, hd, hd, by simp only [zz, RT.den, den, O1.eval, O2.eval, D.eqb, Ags.none, reduceCtorEq, forall_const, if_true, if_false, ite_true, ite_false, D.sub, D.cell, D.elem, D.cells, D.padd, D.list, D.push, Lis.enc, Cue.enc], by rw [same17_self]; rfl⟩) (fun h => by cases h) ?_
      refine denR_gcall awake_ok true [.bool true] (by simp only [zz, RT.den, den, O1.eval, O2.eval, D.eqb, Ags.none, reduceCtorEq, forall_const, if_true, if_false, ite_true, ite_false, D.sub, D.cell, D.elem, D.cells, D.padd, D.list, D.push, Lis.enc, Cue.enc] <;> simp) (fun _ => ⟨rfl, rfl⟩) (fun h => by cases h) ?_
      simp only [zz, RT.den, den, O1.eval, O2.eval, D.eqb, Ags.none, reduceCtorEq, forall_const, if_true, if_false, ite_true, ite_false, D.sub, D.cell, D.elem, D.cells, D.padd, D.list, D.push, Lis.enc, Cue.enc]
      simpa using hK
  cases hb : few17 l with
  | false =>
    rw [hb] at main
    exact denR_gcall few16_ok false [.bool false] (by simp only [zz, RT.den, den, O1.eval, O2.eval, D.eqb, Ags.none, reduceCtorEq, forall_const, if_true, if_false, ite_true, ite_false, D.sub, D.cell, D.elem, D.cells, D.padd, D.list, D.push, Lis.enc, Cue.enc]) (fun h => by cases h) (fun _ => rfl) (main false)
  | true =>
    rw [hb] at main
    exact denR_gcall few16_ok true [.bool (few16 c)] (by simp only [zz, RT.den, den, O1.eval, O2.eval, D.eqb, Ags.none, reduceCtorEq, forall_const, if_true, if_false, ite_true, ite_false, D.sub, D.cell, D.elem, D.cells, D.padd, D.list, D.push, Lis.enc, Cue.enc]) (fun _ => ⟨c, hc, by simp only [zz, RT.den, den, O1.eval, O2.eval, D.eqb, Ags.none, reduceCtorEq, forall_const, if_true, if_false, ite_true, ite_false, D.sub, D.cell, D.elem, D.cells, D.padd, D.list, D.push, Lis.enc, Cue.enc], rfl⟩) (fun h => by cases h) (main _)
theorem law11 : Contract Tryz.prog 11 (LawSpec Tryz.prog 11) :=
  law11_typed.weaken fun args K _ h => by
    obtain ⟨h1, h2, hK⟩ := lawArgs [.agg liKs, .agg cueKs, .cell .str] (by kernel_rfl) h
    match args, h1 with
    | [a, b, d], _ =>
      obtain ⟨l, hl, rfl⟩ := Lis.ofAgg (h2 0 _ _ rfl rfl)
      obtain ⟨c, hc, rfl⟩ := Cue.ofAgg (h2 1 _ _ rfl rfl)
      obtain ⟨s, rfl⟩ := str_of (h2 2 _ _ rfl rfl)
      exact ⟨l, c, s, hl, hc, rfl, hK⟩
end Go.Sx.La
