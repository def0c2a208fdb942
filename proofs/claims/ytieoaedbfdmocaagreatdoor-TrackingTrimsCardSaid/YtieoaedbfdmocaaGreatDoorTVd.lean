/-
 A law as a contract (and what it needs).
-/
import Derived.Test.YtieoaedbfdmocaaGreatDoorTVc
set_option linter.unusedSimpArgs false
set_option linter.unusedVariables false
set_option linter.unusedSectionVars false
set_option linter.defProp false
set_option maxRecDepth 100000
set_option maxRecDepth 100000
namespace Go.Sx.La
open Go Go.Sx Go.RowKit Go.Proofs
noncomputable def t21 : R := .fact (.ite (.o1 .not (.ite (.o2 .ne (.var 0) (.var 3)) (.bool true) (.o2 .ne (.var 1) (.var 4)))) (.o2 .le (.o1 .len (.var 2)) (.int .i64 140737488355328)) (.bool true)) (.fact (.ite (.o1 .not (.ite (.o2 .ne (.var 0) (.var 3)) (.bool true) (.o2 .ne (.var 1) (.var 4)))) (.o2 .le (.o1 .len (.var 5)) (.int .i64 140737488355328)) (.bool true)) (.ite (.ite (.ite (.o2 .ne (.var 0) (.var 3)) (.bool true) (.o2 .ne (.var 1) (.var 4))) (.bool true) (.o2 .ne (.o1 .len (.var 2)) (.o1 .len (.var 5)))) (.ret [.d (.bool false)]) (.loop 0 [.int .i64 0] [.int .i64] (.fact (.o2 .le (.o1 .len (.var 2)) (.int .i64 140737488355328)) (.ite (.o2 .lt (.var 6) (.o1 .len (.var 2))) (.need (.o2 .le (.int .i64 0) (.var 6)) (.need (.o2 .lt (.var 6) (.o1 .len (.var 5))) (.call none (.fn 69) [.lcons (.idx (.var 2) (.var 6) 0 .str) (.lcons (.idx (.var 2) (.var 6) 1 .str) (.lcons (.idx (.var 2) (.var 6) 2 (.slice [.int .i64, .int .i64, .int .i64, .int .i64, .int .i64])) (.lcons (.idx (.var 2) (.var 6) 3 (.slice [.int .i64, .int .i64, .int .i64, .int .i64, .int .i64, .int .i64])) (.lcons (.idx (.var 2) (.var 6) 4 .bool) (.lcons (.idx (.var 2) (.var 6) 5 .bool) (.lcons (.idx (.var 2) (.var 6) 6 (.int .i64)) (.lcons (.idx (.var 2) (.var 6) 7 .str) (.lcons (.idx (.var 2) (.var 6) 8 (.int .i64)) .lnil)))))))), .lcons (.idx (.var 5) (.var 6) 0 .str) (.lcons (.idx (.var 5) (.var 6) 1 .str) (.lcons (.idx (.var 5) (.var 6) 2 (.slice [.int .i64, .int .i64, .int .i64, .int .i64, .int .i64])) (.lcons (.idx (.var 5) (.var 6) 3 (.slice [.int .i64, .int .i64, .int .i64, .int .i64, .int .i64, .int .i64])) (.lcons (.idx (.var 5) (.var 6) 4 .bool) (.lcons (.idx (.var 5) (.var 6) 5 .bool) (.lcons (.idx (.var 5) (.var 6) 6 (.int .i64)) (.lcons (.idx (.var 5) (.var 6) 7 .str) (.lcons (.idx (.var 5) (.var 6) 8 (.int .i64)) .lnil))))))))] [.cell .bool] (.ite (.o1 .not (.var 7)) (.ret [.d (.bool false)]) (.again 0 [.o2 (.add .i64) (.var 6) (.int .i64 1)]))))) (.ret [.d (.bool true)]))))))
noncomputable def t3 : R := .call none (.fn 17) [.lcons (.var 0) (.lcons (.var 1) (.lcons (.var 2) .lnil))] [.cell .bool] (.fact (.ite (.o1 .not (.o1 .not (.var 5))) (.o2 .le (.o1 .len (.var 3)) (.int .i64 140737488355328)) (.bool true)) (.fact (.ite (.o1 .not (.ite (.o1 .not (.var 5)) (.bool true) (.o2 .gt (.o1 .len (.var 3)) (.int .i64 40)))) (.o2 .le (.o1 .len (.var 4)) (.int .i64 140737488355328)) (.bool true)) (.ite (.ite (.ite (.o1 .not (.var 5)) (.bool true) (.o2 .gt (.o1 .len (.var 3)) (.int .i64 40))) (.bool true) (.o2 .gt (.o1 .len (.var 4)) (.int .i64 40))) (.call none (.fn 18) [] [.cell .bool] (.ret [.d (.var 6)])) (.call none (.fn 19) [.lcons (.var 0) (.lcons (.var 1) (.lcons (.var 2) .lnil)), .var 3, .var 4] [.agg [.int .i64, .int .i64, .slice [.str, .str, .slice [.int .i64, .int .i64, .int .i64, .int .i64, .int .i64], .slice [.int .i64, .int .i64, .int .i64, .int .i64, .int .i64, .int .i64], .bool, .bool, .int .i64, .str, .int .i64]], .cell (.int .i64)] (.call none (.fn 20) [.lcons (.var 0) (.lcons (.var 1) (.lcons (.var 2) .lnil)), .var 3, .var 4] [.agg [.int .i64, .int .i64, .slice [.str, .str, .slice [.int .i64, .int .i64, .int .i64, .int .i64, .int .i64], .slice [.int .i64, .int .i64, .int .i64, .int .i64, .int .i64, .int .i64], .bool, .bool, .int .i64, .str, .int .i64]], .cell (.int .i64)] (.call none (.fn 21) [.lcons (.var 6) (.lcons (.var 7) (.lcons (.var 8) .lnil)), .lcons (.var 10) (.lcons (.var 11) (.lcons (.var 12) .lnil))] [.cell .bool] (.call (some (.ite (.var 14) (.o2 .eq (.var 9) (.var 13)) (.bool false))) (.fn 18) [] [.cell .bool] (.ret [.d (.ite (.ite (.var 14) (.o2 .eq (.var 9) (.var 13)) (.bool false)) (.var 15) (.bool false))]))))))))
theorem c3 : callable Tryz.prog 3 = true := by kernel_rfl
def same16 (a b : Cue) : Bool := decide (a.num = b.num ∧ a.label = b.label ∧ a.block = b.block ∧ a.mark = b.mark ∧ a.follow = b.follow ∧ a.link = b.link ∧ a.loops = b.loops) && decide (a.moves = b.moves) && decide (a.parts = b.parts)
def sameGo : List Cue → List Cue → Bool
 | [], _ => true
 | a :: as_, b :: bs => if same16 a b then sameGo as_ bs else false
 | _ :: _, [] => true
def same17 (a b : Lis) : Bool := if a.num ≠ b.num ∨ a.prio ≠ b.prio ∨ a.cues.length ≠ b.cues.length then false else sameGo a.cues b.cues
end Go.Sx.La
set_option maxRecDepth 100000
namespace Go.Sx.La
open Go Go.Sx Go.RowKit Go.Proofs
noncomputable def t181 : R := .call none (.fn 96) [.var 0, .var 1] [.cell (.int .i64)] (.ite (.o2 .eq (.var 2) (.int .i64 (-1))) (.ret [.own 9 (.var 0)]) (.loop 0 [.var 2, .o2 (.add .i64) (.var 2) (.int .i64 1), .var 0] [.int .i64, .int .i64, .slice [.str, .str, .slice [.int .i64, .int .i64, .int .i64, .int .i64, .int .i64], .slice [.int .i64, .int .i64, .int .i64, .int .i64, .int .i64, .int .i64], .bool, .bool, .int .i64, .str, .int .i64]] (.fact (.o2 .le (.o1 .len (.var 5)) (.int .i64 140737488355328)) (.ite (.o2 .lt (.var 4) (.o1 .len (.var 5))) (.need (.o2 .le (.int .i64 0) (.var 4)) (.call none (.val (.var 1)) [.lcons (.idx (.var 5) (.var 4) 0 .str) (.lcons (.idx (.var 5) (.var 4) 1 .str) (.lcons (.idx (.var 5) (.var 4) 2 (.slice [.int .i64, .int .i64, .int .i64, .int .i64, .int .i64])) (.lcons (.idx (.var 5) (.var 4) 3 (.slice [.int .i64, .int .i64, .int .i64, .int .i64, .int .i64, .int .i64])) (.lcons (.idx (.var 5) (.var 4) 4 .bool) (.lcons (.idx (.var 5) (.var 4) 5 .bool) (.lcons (.idx (.var 5) (.var 4) 6 (.int .i64)) (.lcons (.idx (.var 5) (.var 4) 7 .str) (.lcons (.idx (.var 5) (.var 4) 8 (.int .i64)) .lnil))))))))] [.cell .bool] (.need (.ite (.o1 .not (.var 6)) (.o2 .le (.int .i64 0) (.var 3)) (.bool true)) (.need (.ite (.o1 .not (.var 6)) (.o2 .lt (.var 3) (.o1 .len (.var 5))) (.bool true)) (.lets [.ite (.o1 .not (.var 6)) (.o2 (.add .i64) (.var 3) (.int .i64 1)) (.var 3), .ite (.o1 .not (.var 6)) (.upd (.var 5) (.var 3) 0 (.lcons (.idx (.var 5) (.var 4) 0 .str) (.lcons (.idx (.var 5) (.var 4) 1 .str) (.lcons (.idx (.var 5) (.var 4) 2 (.slice [.int .i64, .int .i64, .int .i64, .int .i64, .int .i64])) (.lcons (.idx (.var 5) (.var 4) 3 (.slice [.int .i64, .int .i64, .int .i64, .int .i64, .int .i64, .int .i64])) (.lcons (.idx (.var 5) (.var 4) 4 .bool) (.lcons (.idx (.var 5) (.var 4) 5 .bool) (.lcons (.idx (.var 5) (.var 4) 6 (.int .i64)) (.lcons (.idx (.var 5) (.var 4) 7 .str) (.lcons (.idx (.var 5) (.var 4) 8 (.int .i64)) .lnil)))))))))) (.var 5)] (.again 0 [.var 7, .o2 (.add .i64) (.var 4) (.int .i64 1), .var 8])))))) (.need (.o2 .le (.int .i64 0) (.var 3)) (.need (.o2 .le (.var 3) (.o1 .len (.var 5))) (.need (.o2 .le (.var 3) (.o1 .len (.o2 .app (.o2 .app (.sub (.var 5) (.int .i64 0) (.var 3)) (.rep (.o2 (.sub .i64) (.o1 .len (.var 5)) (.var 3)) (.lcons (.str []) (.lcons (.str []) (.lcons .nils (.lcons .nils (.lcons (.bool false) (.lcons (.bool false) (.lcons (.int .i64 0) (.lcons (.str []) (.lcons (.int .i64 0) .lnil))))))))))) (.sub (.var 5) (.o1 .len (.var 5)) (.o1 .len (.var 5)))))) (.ret [.own 9 (.sub (.o2 .app (.o2 .app (.sub (.var 5) (.int .i64 0) (.var 3)) (.rep (.o2 (.sub .i64) (.o1 .len (.var 5)) (.var 3)) (.lcons (.str []) (.lcons (.str []) (.lcons .nils (.lcons .nils (.lcons (.bool false) (.lcons (.bool false) (.lcons (.int .i64 0) (.lcons (.str []) (.lcons (.int .i64 0) .lnil))))))))))) (.sub (.var 5) (.o1 .len (.var 5)) (.o1 .len (.var 5)))) (.int .i64 0) (.var 3))]))))))))
theorem t181_ok : fnXO Tryz.prog mdA 181 [.own cueKs, .cell .fn] = t181 := by kernel_rfl
theorem c181 : callable Tryz.prog 181 = true := by kernel_rfl
noncomputable def t144 : R := .call none (.fn 165) [.var 0, .var 1] [.cell (.int .i64)] (.ite (.o2 .eq (.var 2) (.int .i64 (-1))) (.ret [.own 5 (.var 0)]) (.loop 0 [.var 2, .o2 (.add .i64) (.var 2) (.int .i64 1), .var 0] [.int .i64, .int .i64, .slice [.int .i64, .int .i64, .int .i64, .int .i64, .int .i64]] (.fact (.o2 .le (.o1 .len (.var 5)) (.int .i64 140737488355328)) (.ite (.o2 .lt (.var 4) (.o1 .len (.var 5))) (.need (.o2 .le (.int .i64 0) (.var 4)) (.call none (.val (.var 1)) [.lcons (.idx (.var 5) (.var 4) 0 (.int .i64)) (.lcons (.idx (.var 5) (.var 4) 1 (.int .i64)) (.lcons (.idx (.var 5) (.var 4) 2 (.int .i64)) (.lcons (.idx (.var 5) (.var 4) 3 (.int .i64)) (.lcons (.idx (.var 5) (.var 4) 4 (.int .i64)) .lnil))))] [.cell .bool] (.need (.ite (.o1 .not (.var 6)) (.o2 .le (.int .i64 0) (.var 3)) (.bool true)) (.need (.ite (.o1 .not (.var 6)) (.o2 .lt (.var 3) (.o1 .len (.var 5))) (.bool true)) (.lets [.ite (.o1 .not (.var 6)) (.o2 (.add .i64) (.var 3) (.int .i64 1)) (.var 3), .ite (.o1 .not (.var 6)) (.upd (.var 5) (.var 3) 0 (.lcons (.idx (.var 5) (.var 4) 0 (.int .i64)) (.lcons (.idx (.var 5) (.var 4) 1 (.int .i64)) (.lcons (.idx (.var 5) (.var 4) 2 (.int .i64)) (.lcons (.idx (.var 5) (.var 4) 3 (.int .i64)) (.lcons (.idx (.var 5) (.var 4) 4 (.int .i64)) .lnil)))))) (.var 5)] (.again 0 [.var 7, .o2 (.add .i64) (.var 4) (.int .i64 1), .var 8])))))) (.need (.o2 .le (.int .i64 0) (.var 3)) (.need (.o2 .le (.var 3) (.o1 .len (.var 5))) (.need (.o2 .le (.var 3) (.o1 .len (.o2 .app (.o2 .app (.sub (.var 5) (.int .i64 0) (.var 3)) (.rep (.o2 (.sub .i64) (.o1 .len (.var 5)) (.var 3)) (.lcons (.int .i64 0) (.lcons (.int .i64 0) (.lcons (.int .i64 0) (.lcons (.int .i64 0) (.lcons (.int .i64 0) .lnil))))))) (.sub (.var 5) (.o1 .len (.var 5)) (.o1 .len (.var 5)))))) (.ret [.own 5 (.sub (.o2 .app (.o2 .app (.sub (.var 5) (.int .i64 0) (.var 3)) (.rep (.o2 (.sub .i64) (.o1 .len (.var 5)) (.var 3)) (.lcons (.int .i64 0) (.lcons (.int .i64 0) (.lcons (.int .i64 0) (.lcons (.int .i64 0) (.lcons (.int .i64 0) .lnil))))))) (.sub (.var 5) (.o1 .len (.var 5)) (.o1 .len (.var 5)))) (.int .i64 0) (.var 3))]))))))))
theorem t144_ok : fnXO Tryz.prog mdA 144 [.own mvKs, .cell .fn] = t144 := by kernel_rfl
theorem c144 : callable Tryz.prog 144 = true := by kernel_rfl
def kept {X : Type} (p : X → Bool) (l : List X) (n : Nat) : List X := (l.take n).filter fun x => !p x
theorem kept_succ {X : Type} (p : X → Bool) {l : List X} {n : Nat} (h : n < l.length) : kept p l (n + 1) = kept p l n ++ if p l[n] then [] else [l[n]] := by
 unfold kept
 rw [List.take_succ_eq_append_getElem h, List.filter_append]
 congr 1
 by_cases hp : p l[n] = true
 · simp [hp]
 · simp [hp]
theorem kept_all {X : Type} (p : X → Bool) (l : List X) : kept p l l.length = l.filter fun x => !p x := by simp [kept]
theorem kept_start {X : Type} {p : X → Bool} {l : List X} {j : Nat} (hj : j < l.length) (h1 : p l[j] = true) (h2 : ∀ k (hk : k < j), p (l[k]'(by omega)) = false) : kept p l (j + 1) = l.take j := by
 rw [kept_succ p hj, if_pos h1, List.append_nil]
 unfold kept
 refine List.filter_eq_self.2 fun x hx => ?_
 obtain ⟨k, hk, rfl⟩ := List.getElem_of_mem hx
 simp only [List.length_take] at hk
 rw [List.getElem_take, h2 k (by omega)]; rfl
structure Swept {X : Type} (p : X → Bool) (l a : List X) (n : Nat) : Prop where
 len : a.length = l.length
 le : n ≤ l.length
 lt : (kept p l n).length < n
 head : a.take (kept p l n).length = kept p l n
 rest : a.drop n = l.drop n
theorem Swept.get {X : Type} {p : X → Bool} {l a : List X} {n : Nat} (h : Swept p l a n) (hn : n < l.length) : a[n]'(by rw [h.len]; exact hn) = l[n] := by
 have h1 := h.rest
 have hn' : n < a.length := by rw [h.len]; exact hn
 rw [List.drop_eq_getElem_cons hn, List.drop_eq_getElem_cons hn'] at h1
 exact (List.cons.inj h1).1
theorem Swept.skip {X : Type} {p : X → Bool} {l a : List X} {n : Nat} (h : Swept p l a n) (hn : n < l.length) (hp : p l[n] = true) : Swept p l a (n + 1) := by
 have e : kept p l (n + 1) = kept p l n := by rw [kept_succ p hn, if_pos hp, List.append_nil]
 exact ⟨h.len, hn, by rw [e]; have := h.lt; omega, by rw [e]; exact h.head, by rw [← List.drop_drop, ← List.drop_drop, h.rest]⟩
theorem Swept.keep {X : Type} {p : X → Bool} {l a : List X} {n : Nat} (h : Swept p l a n) (hn : n < l.length) (hp : p l[n] = false) : Swept p l (a.set (kept p l n).length l[n]) (n + 1) ∧ (kept p l (n + 1)).length = (kept p l n).length + 1 := by
 have e : kept p l (n + 1) = kept p l n ++ [l[n]] := by rw [kept_succ p hn, if_neg (by simp [hp])]
 have el : (kept p l (n + 1)).length = (kept p l n).length + 1 := by rw [e]; simp
 have hlt := h.lt
 refine ⟨⟨by simp [h.len], hn, by rw [el]; omega, ?_, ?_⟩, el⟩
 · rw [el, List.take_succ_eq_append_getElem (by simp [h.len]; omega), e]
   rw [List.getElem_set_self, List.take_set_of_le (Nat.le_refl _), h.head]
 · rw [List.drop_set_of_lt (by omega), ← List.drop_drop, ← List.drop_drop, h.rest]
theorem take_swept {A R B : List (List D)} {i : Nat} (h : i ≤ A.length) : (A.take i ++ R ++ B).take i = A.take i := by
 rw [List.append_assoc, List.take_append_of_le_length (by simp; omega), List.take_take, Nat.min_self]
theorem setCue {l : List Cue} {k : Nat} (hk : k < l.length) (e : Cue) : ((l.map Cue.enc).modify k fun x => setCells x 0 e.enc) = (l.set k e).map Cue.enc := by
 apply List.ext_getElem?
 intro i
 rw [List.getElem?_modify, List.getElem?_map, List.getElem?_map, List.getElem?_set]
 by_cases h : k = i
 · subst h
   simp [hk, setCells, Cue.enc]
 · simp [h]
theorem delCue_ok : ContractX Tryz.prog 181 [.own cueKs, .cell .fn] false fun args K => ∃ (l : List Cue) (p : Cue → Bool) (f : FuncId) (caps : List D), (∀ m ∈ l, m.Ok) ∧ l.length ≤ 1000000 ∧ args = [.own 9 (l.map Cue.enc), .d (.clo f caps)] ∧ SaysOf Tryz.prog (.clo f caps) Cue.enc l p ∧ K [.own 9 ((l.filter fun c => !p c).map Cue.enc)] := by
 refine .of c181 t181_ok ?_
 rintro _ K ⟨l, p, f, caps, hl, hlen, rfl, hsay, hK⟩
 have hhas : HasK (.slice cueKs) (.slice (l.map Cue.enc)) := slice_has fun m hm => Cue.has (hl m hm)
 refine ⟨[.slice (l.map Cue.enc), .clo f caps], rfl, ⟨hhas, trivial, trivial⟩, ?_⟩
 refine denR_call indexCue_ok ⟨l, p, f, caps, hl, by simp only [zz, RT.den, den, O1.eval, O2.eval, D.eqb, reduceCtorEq, D.sub, D.cell, D.elem, D.cells, D.padd, D.list, D.push], hsay, _, rfl, ?_⟩
 simp only [zz, RT.den, den, O1.eval, O2.eval, D.eqb, reduceCtorEq, D.sub, D.cell, D.elem, D.cells, D.padd, D.list, D.push]
 rcases idxGo_spec p l 0 with ⟨h1, h2⟩ | ⟨j, hj, h1, h2, h3⟩
 · rw [h1]
   have e : (l.filter fun c => !p c) = l := List.filter_eq_self.2 fun x hx => by rw [h2 x hx]; rfl
   rw [e] at hK
   refine ⟨fun _ => hK, fun h => by simp at h⟩
 · rw [h1]
   simp only [Nat.zero_add]
   refine ⟨fun h => by omega, fun _ => ?_⟩
   obtain ⟨sf, hf, hs⟩ := hsay
   have hks := kept_start hj h2 h3
   rw [denR_loop]
   refine ⟨fun c ys => c = none ∧ ∃ (n : Nat) (a : List Cue), Swept p l a n ∧ ys = [.int .i64 ((kept p l n).length : Nat), .int .i64 n, .slice (a.map Cue.enc)],
     fun ys => match ys with | [_, .int _ n, _] => l.length - n.toNat | _ => 0, ⟨rfl, j + 1, l, ⟨rfl, hj, by rw [hks]; simp <;> omega, by rw [hks]; simp <;> omega, rfl⟩, ?_⟩, ?_⟩
   · rw [hks]
     simp only [zz, RT.den, den, O1.eval, O2.eval, D.eqb, reduceCtorEq, D.sub, D.cell, D.elem, D.cells, D.padd, D.list, D.push]
     rw [wr64_eq (by omega)]
     simp; omega
   rintro _ _ _ ⟨rfl, n, a, hw, rfl⟩
   have hle := hw.le
   have hal := hw.len
   have hkl := hw.lt
   simp only [zz, RT.den, den, O1.eval, O2.eval, D.eqb, reduceCtorEq, D.sub, D.cell, D.elem, D.cells, D.padd, D.list, D.push, List.length_map, hal, D.rep]
   intro hcap
   refine ⟨fun h => ?_, fun h => ?_⟩
   · have hn : n < l.length := by omega
     have hna : n < a.length := by omega
     have hga := hw.get hn
     refine ⟨by omega, denR_fcall (FvC.up' (s := sf) (fv := .clo f caps) hf) ⟨fun rs => rs = [.d (.bool (p l[n]))], ?_, fun rs h => ⟨[.bool (p l[n])], by rw [h]; rfl, by simp [RK.all, RK.kinds, HasKs, HasK], ?_⟩⟩⟩
     · simp only [zz, RT.den, den, O1.eval, O2.eval, D.eqb, reduceCtorEq, D.sub, D.cell, D.elem, D.cells, D.padd, D.list, D.push, getD_map hna, hga, Cue.enc]
       exact hs l[n] (List.getElem_mem hn)
     · have hia : (kept p l n).length < a.length := by omega
       have hset := setCue hia l[n]
       simp only [Cue.enc] at hset
       cases hp : p l[n] with
       | true =>
         have hsk := hw.skip hn hp
         have ek : kept p l (n + 1) = kept p l n := by rw [kept_succ p hn, if_pos hp, List.append_nil]
         simp only [zz, RT.den, den, O1.eval, O2.eval, D.eqb, reduceCtorEq, D.sub, D.cell, D.elem, D.cells, D.padd, D.list, D.push, hp]
         refine ⟨⟨rfl, n + 1, a, hsk, by rw [ek], by rw [wr64_eq] <;> omega, rfl⟩, ?_⟩
         rw [wr64_eq (by omega)]
         show l.length - ((n : Int) + 1).toNat < l.length - ((n : Int)).toNat
         omega
       | false =>
         obtain ⟨hsk, ek⟩ := hw.keep hn hp
         simp only [zz, RT.den, den, O1.eval, O2.eval, D.eqb, reduceCtorEq, D.sub, D.cell, D.elem, D.cells, D.padd, D.list, D.push, hp, List.length_map, hia, getD_map hna, hga, Cue.enc, D.upd, hset]
         refine ⟨by omega, ⟨rfl, n + 1, _, hsk, by rw [ek, wr64_eq] <;> omega, by rw [wr64_eq] <;> omega, rfl⟩, ?_⟩
         rw [wr64_eq (n := (n : Int) + 1) (by omega)]
         show l.length - ((n : Int) + 1).toNat < l.length - ((n : Int)).toNat
         omega
   · have hn : n = l.length := by omega
     subst hn
     rw [kept_all] at hkl ⊢
     have hh := hw.head
     rw [kept_all] at hh
     generalize hfl : (l.filter fun c => !p c) = fl at *
     have hia : fl.length ≤ (a.map Cue.enc).length := by simp; omega
     have e2 : ((a.map Cue.enc).take fl.length) = fl.map Cue.enc := by rw [← List.map_take, hh]
     refine ⟨by omega, by omega, by simp <;> omega, ?_⟩
     rw [take_swept hia, e2]
     exact hK
theorem setMov {l : List Mov} {k : Nat} (hk : k < l.length) (e : Mov) : ((l.map Mov.enc).modify k fun x => setCells x 0 e.enc) = (l.set k e).map Mov.enc := by
 apply List.ext_getElem?
 intro i
 rw [List.getElem?_modify, List.getElem?_map, List.getElem?_map, List.getElem?_set]
 by_cases h : k = i
 · subst h
   simp [hk, setCells, Mov.enc]
 · simp [h]
theorem delMov_ok : ContractX Tryz.prog 144 [.own mvKs, .cell .fn] false fun args K => ∃ (l : List Mov) (p : Mov → Bool) (f : FuncId) (caps : List D), (∀ m ∈ l, m.Ok) ∧ l.length ≤ 1000000 ∧ args = [.own 5 (l.map Mov.enc), .d (.clo f caps)] ∧ SaysOf Tryz.prog (.clo f caps) Mov.enc l p ∧ K [.own 5 ((l.filter fun c => !p c).map Mov.enc)] := by
 refine .of c144 t144_ok ?_
 rintro _ K ⟨l, p, f, caps, hl, hlen, rfl, hsay, hK⟩
 have hhas : HasK (.slice mvKs) (.slice (l.map Mov.enc)) := slice_has fun m hm => Mov.has (hl m hm)
 refine ⟨[.slice (l.map Mov.enc), .clo f caps], rfl, ⟨hhas, trivial, trivial⟩, ?_⟩
 refine denR_call indexMov_ok ⟨l, p, f, caps, hl, by simp only [zz, RT.den, den, O1.eval, O2.eval, D.eqb, reduceCtorEq, D.sub, D.cell, D.elem, D.cells, D.padd, D.list, D.push], hsay, _, rfl, ?_⟩
 simp only [zz, RT.den, den, O1.eval, O2.eval, D.eqb, reduceCtorEq, D.sub, D.cell, D.elem, D.cells, D.padd, D.list, D.push]
 rcases idxGo_spec p l 0 with ⟨h1, h2⟩ | ⟨j, hj, h1, h2, h3⟩
 · rw [h1]
   have e : (l.filter fun c => !p c) = l := List.filter_eq_self.2 fun x hx => by rw [h2 x hx]; rfl
   rw [e] at hK
   refine ⟨fun _ => hK, fun h => by simp at h⟩
 · rw [h1]
   simp only [Nat.zero_add]
   refine ⟨fun h => by omega, fun _ => ?_⟩
   obtain ⟨sf, hf, hs⟩ := hsay
   have hks := kept_start hj h2 h3
   rw [denR_loop]
   refine ⟨fun c ys => c = none ∧ ∃ (n : Nat) (a : List Mov), Swept p l a n ∧ ys = [.int .i64 ((kept p l n).length : Nat), .int .i64 n, .slice (a.map Mov.enc)],
     fun ys => match ys with | [_, .int _ n, _] => l.length - n.toNat | _ => 0, ⟨rfl, j + 1, l, ⟨rfl, hj, by rw [hks]; simp <;> omega, by rw [hks]; simp <;> omega, rfl⟩, ?_⟩, ?_⟩
   · rw [hks]
     simp only [zz, RT.den, den, O1.eval, O2.eval, D.eqb, reduceCtorEq, D.sub, D.cell, D.elem, D.cells, D.padd, D.list, D.push]
     rw [wr64_eq (by omega)]
     simp; omega
   rintro _ _ _ ⟨rfl, n, a, hw, rfl⟩
   have hle := hw.le
   have hal := hw.len
   have hkl := hw.lt
   simp only [zz, RT.den, den, O1.eval, O2.eval, D.eqb, reduceCtorEq, D.sub, D.cell, D.elem, D.cells, D.padd, D.list, D.push, List.length_map, hal, D.rep]
   intro hcap
   refine ⟨fun h => ?_, fun h => ?_⟩
   · have hn : n < l.length := by omega
     have hna : n < a.length := by omega
     have hga := hw.get hn
     refine ⟨by omega, denR_fcall (FvC.up' (s := sf) (fv := .clo f caps) hf) ⟨fun rs => rs = [.d (.bool (p l[n]))], ?_, fun rs h => ⟨[.bool (p l[n])], by rw [h]; rfl, by simp [RK.all, RK.kinds, HasKs, HasK], ?_⟩⟩⟩
     · simp only [zz, RT.den, den, O1.eval, O2.eval, D.eqb, reduceCtorEq, D.sub, D.cell, D.elem, D.cells, D.padd, D.list, D.push, getD_map hna, hga, Mov.enc]
       exact hs l[n] (List.getElem_mem hn)
     · have hia : (kept p l n).length < a.length := by omega
       have hset := setMov hia l[n]
       simp only [Mov.enc] at hset
       cases hp : p l[n] with
       | true =>
         have hsk := hw.skip hn hp
         have ek : kept p l (n + 1) = kept p l n := by rw [kept_succ p hn, if_pos hp, List.append_nil]
         simp only [zz, RT.den, den, O1.eval, O2.eval, D.eqb, reduceCtorEq, D.sub, D.cell, D.elem, D.cells, D.padd, D.list, D.push, hp]
         refine ⟨⟨rfl, n + 1, a, hsk, by rw [ek], by rw [wr64_eq] <;> omega, rfl⟩, ?_⟩
         rw [wr64_eq (by omega)]
         show l.length - ((n : Int) + 1).toNat < l.length - ((n : Int)).toNat
         omega
       | false =>
         obtain ⟨hsk, ek⟩ := hw.keep hn hp
         simp only [zz, RT.den, den, O1.eval, O2.eval, D.eqb, reduceCtorEq, D.sub, D.cell, D.elem, D.cells, D.padd, D.list, D.push, hp, List.length_map, hia, getD_map hna, hga, Mov.enc, D.upd, hset]
         refine ⟨by omega, ⟨rfl, n + 1, _, hsk, by rw [ek, wr64_eq] <;> omega, by rw [wr64_eq] <;> omega, rfl⟩, ?_⟩
         rw [wr64_eq (n := (n : Int) + 1) (by omega)]
         show l.length - ((n : Int) + 1).toNat < l.length - ((n : Int)).toNat
         omega
   · have hn : n = l.length := by omega
     subst hn
     rw [kept_all] at hkl ⊢
     have hh := hw.head
     rw [kept_all] at hh
     generalize hfl : (l.filter fun c => !p c) = fl at *
     have hia : fl.length ≤ (a.map Mov.enc).length := by simp; omega
     have e2 : ((a.map Mov.enc).take fl.length) = fl.map Mov.enc := by rw [← List.map_take, hh]
     refine ⟨by omega, by omega, by simp <;> omega, ?_⟩
     rw [take_swept hia, e2]
     exact hK
end Go.Sx.La
set_option maxRecDepth 100000
namespace Go.Sx.La
open Go Go.Sx Go.RowKit Go.Proofs
noncomputable def t182 : R := .ret [.d (.o2 .eq (.var 0) (.fld (.var 9) 0 .str))]
theorem t182_ok : fnO Tryz.prog mdA 182 ([.agg [.str, .str, .slice [.int .i64, .int .i64, .int .i64, .int .i64, .int .i64], .slice [.int .i64, .int .i64, .int .i64, .int .i64, .int .i64, .int .i64], .bool, .bool, .int .i64, .str, .int .i64]] ++ [.cell (.ptr [.str])]) = t182 := by kernel_rfl
theorem c182 : callable Tryz.prog 182 = true := by kernel_rfl
noncomputable def t130 : R := .call none (.fn 86) [.var 2] [.own [.str, .str, .slice [.int .i64, .int .i64, .int .i64, .int .i64, .int .i64], .slice [.int .i64, .int .i64, .int .i64, .int .i64, .int .i64, .int .i64], .bool, .bool, .int .i64, .str, .int .i64]] (.callX false 181 [.own 9 (.var 4), .d (.clo 182 (.lcons (.ptr (.lcons (.var 3) .lnil)) .lnil))] [.own [.str, .str, .slice [.int .i64, .int .i64, .int .i64, .int .i64, .int .i64], .slice [.int .i64, .int .i64, .int .i64, .int .i64, .int .i64, .int .i64], .bool, .bool, .int .i64, .str, .int .i64]] (.ret [.own 9 (.var 5)]))
theorem t130_ok : fnO Tryz.prog mdA 130 [.agg [.int .i64, .int .i64, .slice [.str, .str, .slice [.int .i64, .int .i64, .int .i64, .int .i64, .int .i64], .slice [.int .i64, .int .i64, .int .i64, .int .i64, .int .i64, .int .i64], .bool, .bool, .int .i64, .str, .int .i64]], .cell .str] = t130 := by kernel_rfl
theorem c130 : callable Tryz.prog 130 = true := by kernel_rfl
noncomputable def t64 : R := .call none (.fn 25) [.lcons (.var 0) (.lcons (.var 1) (.lcons (.var 2) .lnil))] [.cell (.int .i64)] (.ite (.o2 .ne (.var 12) (.int .i64 0)) (.ret [.d (.lcons (.int .i64 0) (.lcons (.int .i64 0) (.lcons .nils .lnil))), .d (.var 12)]) (.call none (.fn 94) [.lcons (.var 3) (.lcons (.var 4) (.lcons (.var 5) (.lcons (.var 6) (.lcons (.var 7) (.lcons (.var 8) (.lcons (.var 9) (.lcons (.var 10) (.lcons (.var 11) .lnil))))))))] [.cell (.int .i64)] (.ite (.o2 .ne (.var 13) (.int .i64 0)) (.ret [.d (.lcons (.int .i64 0) (.lcons (.int .i64 0) (.lcons .nils .lnil))), .d (.var 13)]) (.guess (.bool true) (.ite (.var 14) (.call none (.fn 130) [.lcons (.var 0) (.lcons (.var 1) (.lcons (.var 2) .lnil)), .var 3] [.own [.str, .str, .slice [.int .i64, .int .i64, .int .i64, .int .i64, .int .i64], .slice [.int .i64, .int .i64, .int .i64, .int .i64, .int .i64, .int .i64], .bool, .bool, .int .i64, .str, .int .i64]] (.need (.o2 .le (.o1 .len (.o2 .app (.var 15) (.push .nils (.lcons (.var 3) (.lcons (.var 4) (.lcons (.var 5) (.lcons (.var 6) (.lcons (.var 7) (.lcons (.var 8) (.lcons (.var 9) (.lcons (.var 10) (.lcons (.var 11) .lnil)))))))))))) (.int .i64 1172812402961)) (.fact (.o2 .le (.o1 .len (.o2 .app (.var 15) (.push .nils (.lcons (.var 3) (.lcons (.var 4) (.lcons (.var 5) (.lcons (.var 6) (.lcons (.var 7) (.lcons (.var 8) (.lcons (.var 9) (.lcons (.var 10) (.lcons (.var 11) .lnil)))))))))))) (.int .i64 140737488355328)) (.ite (.o2 .gt (.o1 .len (.o2 .app (.var 15) (.push .nils (.lcons (.var 3) (.lcons (.var 4) (.lcons (.var 5) (.lcons (.var 6) (.lcons (.var 7) (.lcons (.var 8) (.lcons (.var 9) (.lcons (.var 10) (.lcons (.var 11) .lnil)))))))))))) (.int .i64 64)) (.ret [.d (.lcons (.int .i64 0) (.lcons (.int .i64 0) (.lcons .nils .lnil))), .d (.int .i64 5)]) (.callX false 87 [.d (.lcons (.var 0) (.lcons (.var 1) (.lcons (.var 2) .lnil))), .own 9 (.o2 .app (.var 15) (.push .nils (.lcons (.var 3) (.lcons (.var 4) (.lcons (.var 5) (.lcons (.var 6) (.lcons (.var 7) (.lcons (.var 8) (.lcons (.var 9) (.lcons (.var 10) (.lcons (.var 11) .lnil)))))))))))] [.agg [.int .i64, .int .i64, .slice [.str, .str, .slice [.int .i64, .int .i64, .int .i64, .int .i64, .int .i64], .slice [.int .i64, .int .i64, .int .i64, .int .i64, .int .i64, .int .i64], .bool, .bool, .int .i64, .str, .int .i64]]] (.ret [.d (.lcons (.var 16) (.lcons (.var 17) (.lcons (.var 18) .lnil))), .d (.int .i64 0)])))))) (.call none (.fn 130) [.lcons (.var 0) (.lcons (.var 1) (.lcons (.var 2) .lnil)), .var 3] [.own [.str, .str, .slice [.int .i64, .int .i64, .int .i64, .int .i64, .int .i64], .slice [.int .i64, .int .i64, .int .i64, .int .i64, .int .i64, .int .i64], .bool, .bool, .int .i64, .str, .int .i64]] (.need (.o2 .le (.o1 .len (.o2 .app (.var 15) (.push .nils (.lcons (.var 3) (.lcons (.var 4) (.lcons (.var 5) (.lcons (.var 6) (.lcons (.var 7) (.lcons (.var 8) (.lcons (.var 9) (.lcons (.var 10) (.lcons (.var 11) .lnil)))))))))))) (.int .i64 1172812402961)) (.fact (.o2 .le (.o1 .len (.o2 .app (.var 15) (.push .nils (.lcons (.var 3) (.lcons (.var 4) (.lcons (.var 5) (.lcons (.var 6) (.lcons (.var 7) (.lcons (.var 8) (.lcons (.var 9) (.lcons (.var 10) (.lcons (.var 11) .lnil)))))))))))) (.int .i64 140737488355328)) (.ite (.o2 .gt (.o1 .len (.o2 .app (.var 15) (.push .nils (.lcons (.var 3) (.lcons (.var 4) (.lcons (.var 5) (.lcons (.var 6) (.lcons (.var 7) (.lcons (.var 8) (.lcons (.var 9) (.lcons (.var 10) (.lcons (.var 11) .lnil)))))))))))) (.int .i64 64)) (.ret [.d (.lcons (.int .i64 0) (.lcons (.int .i64 0) (.lcons .nils .lnil))), .d (.int .i64 5)]) (.callX false 87 [.d (.lcons (.var 0) (.lcons (.var 1) (.lcons (.var 2) .lnil))), .own 9 (.o2 .app (.var 15) (.push .nils (.lcons (.var 3) (.lcons (.var 4) (.lcons (.var 5) (.lcons (.var 6) (.lcons (.var 7) (.lcons (.var 8) (.lcons (.var 9) (.lcons (.var 10) (.lcons (.var 11) .lnil)))))))))))] [.agg [.int .i64, .int .i64, .slice [.str, .str, .slice [.int .i64, .int .i64, .int .i64, .int .i64, .int .i64], .slice [.int .i64, .int .i64, .int .i64, .int .i64, .int .i64, .int .i64], .bool, .bool, .int .i64, .str, .int .i64]]] (.ret [.d (.lcons (.var 16) (.lcons (.var 17) (.lcons (.var 18) .lnil))), .d (.int .i64 0)])))))))))))
theorem t64_ok : fnO Tryz.prog mdA 64 [.agg [.int .i64, .int .i64, .slice [.str, .str, .slice [.int .i64, .int .i64, .int .i64, .int .i64, .int .i64], .slice [.int .i64, .int .i64, .int .i64, .int .i64, .int .i64, .int .i64], .bool, .bool, .int .i64, .str, .int .i64]], .agg [.str, .str, .slice [.int .i64, .int .i64, .int .i64, .int .i64, .int .i64], .slice [.int .i64, .int .i64, .int .i64, .int .i64, .int .i64, .int .i64], .bool, .bool, .int .i64, .str, .int .i64]] = t64 := by kernel_rfl
theorem c64 : callable Tryz.prog 64 = true := by kernel_rfl
theorem denR_guess {P : Program} {F : Option Nat → List RV → Prop} (t : T) (r : R) (ags : Ags) (ρ : List D) : denR P F noK (.guess t r) ags ρ = (∀ b : Bool, (b = true → den ρ t = .bool true) → denR P F noK r ags (ρ ++ [.bool b])) := rfl
theorem cloneA_ok : Contract Tryz.prog 86 fun args K => ∃ (cs : List Cue), (∀ c ∈ cs, c.Ok) ∧ cs.length ≤ 1000000 ∧ args = [.slice (cs.map Cue.enc)] ∧ K [.own 9 (cs.map Cue.enc)] := by
 refine .of c86 t86_ok ?_
 rintro _ K ⟨cs, hcs, hlen, rfl, hK⟩ hsm
 refine ⟨[.slice (cs.map Cue.enc)], rfl, ⟨cues_has hcs, trivial⟩, ?_⟩
 unfold t86
 simp only [denR]
 intro b hb
 simp only [zz, RT.den, den, O1.eval, O2.eval, D.eqb, reduceCtorEq, D.sub, D.cell, D.elem, D.cells, D.padd, D.list, D.push, List.length_map]
 cases b with
 | true =>
   have := hb rfl
   simp only [zz, RT.den, den, O1.eval, O2.eval, D.eqb, reduceCtorEq, D.sub, D.cell, D.elem, D.cells, D.padd, D.list, D.push, List.length_map] at this
   have h0 : cs = [] := List.eq_nil_of_length_eq_zero (by omega)
   subst h0
   exact ⟨fun _ => hK, fun h => by simp at h⟩
 | false => exact ⟨fun h => by simp at h, fun _ => ⟨by omega, hK⟩⟩
theorem isWithout_ok : Contract Tryz.prog 182 fun args K => ∃ (c : Cue) (s : List UInt8), c.Ok ∧ args = [.agg c.enc, .ptr [.str s]] ∧ K [.d (.bool (c.num == s))] := by
 refine .of c182 t182_ok ?_
 rintro _ K ⟨c, s, hc, rfl, hK⟩ hsm
 refine ⟨c.enc ++ [.ptr [.str s]], rfl, by exact (Cue.has hc).append (show HasKs [.ptr [.str]] [.ptr [.str s]] from ⟨⟨trivial, trivial⟩, trivial⟩), ?_⟩
 simp only [zz, RT.den, den, O1.eval, O2.eval, D.eqb, reduceCtorEq, D.sub, D.cell, D.elem, D.cells, D.padd, D.list, D.push, t182, Cue.enc]
 exact hK
theorem isWithout_says (l : List Cue) (hl : ∀ c ∈ l, c.Ok) (s : List UInt8) : SaysOf Tryz.prog (.clo 182 [.ptr [.str s]]) Cue.enc l (fun c => c.num == s) := by
 refine ⟨fun as_ K => ∃ c : Cue, c.Ok ∧ as_ = [.agg c.enc] ∧ K [.d (.bool (c.num == s))], FvC.of c182 isWithout_ok ?_, fun c hc => ⟨c, hl c hc, rfl, rfl⟩⟩
 rintro _ K ⟨c, hc, rfl, hK⟩
 refine ⟨⟨c, s, hc, rfl, hK⟩, argsTyped_of [some (.agg cueKs)] (by kernel_rfl) ?_⟩
 intro i rk d h1 h2
 cases i with
 | zero => simp at h1 h2; subst h1 h2; exact Cue.has hc
 | succ i => simp at h1
theorem cwithout_ok : Contract Tryz.prog 130 fun args K => ∃ (l : Lis) (s : List UInt8), l.Ok ∧ l.cues.length ≤ 1000000 ∧ args = [.agg l.enc, .str s] ∧ K [.own 9 ((without l.cues s).map Cue.enc)] := by
 refine .of c130 t130_ok ?_
 rintro _ K ⟨l, s, hl, hlen, rfl, hK⟩ hsm
 refine ⟨l.enc ++ [.str s], rfl, by exact has_s hl, ?_⟩
 refine denR_call cloneA_ok ⟨l.cues, hl.cues, hlen, by simp only [zz, RT.den, den, O1.eval, O2.eval, D.eqb, reduceCtorEq, D.sub, D.cell, D.elem, D.cells, D.padd, D.list, D.push, Lis.enc], _, rfl, ?_⟩
 refine denR_callX delCue_ok ⟨[.slice (l.cues.map Cue.enc), .clo 182 [.ptr [.str s]]], rfl, ⟨cues_has hl.cues, trivial, trivial⟩⟩ (fun h => by cases h) ?_
 refine ⟨l.cues, fun c => c.num == s, 182, [.ptr [.str s]], hl.cues, hlen, rfl, isWithout_says l.cues hl.cues s, [.slice ((without l.cues s).map Cue.enc)], rfl, ?_⟩
 simp only [zz, RT.den, den, O1.eval, O2.eval, D.eqb, reduceCtorEq, D.sub, D.cell, D.elem, D.cells, D.padd, D.list, D.push, Lis.enc]
 exact hK
theorem rising_without {cs : List Cue} (hr : Rising cs) (s : List UInt8) : Rising (without cs s) := hr.filter _
theorem mem_without {cs : List Cue} {s : List UInt8} {c : Cue} : c ∈ without cs s ↔ c ∈ cs ∧ c.num ≠ s := by simp [without, List.mem_filter]
theorem ins_len (c : Cue) (cs : List Cue) : (ins c cs).length = cs.length + 1 := by have := (ins_perm c cs).length_eq; simpa using this
def putR (l : Lis) (c : Cue) : Lis × Int := if checkL order05 l ≠ 0 then (zeroL, checkL order05 l) else if check16 c ≠ 0 then (zeroL, check16 c) else if 64 < (ins c (without l.cues c.num)).length then (zeroL, 5) else ({ l with cues := ins c (without l.cues c.num) }, 0)
def dropR (l : Lis) (s : List UInt8) : Lis × Bool × Int := if given17 l s ≠ 0 then (zeroL, false, given17 l s) else ({ l with cues := without l.cues s }, decide (0 ≤ place l.cues s), 0)
theorem without_Ok {cs : List Cue} (h : ∀ c ∈ cs, c.Ok) (s : List UInt8) : ∀ c ∈ without cs s, c.Ok := fun c hc => h c (mem_without.1 hc).1
theorem put_ok17 : Contract Tryz.prog 64 fun args K => ∃ (l : Lis) (c : Cue), l.Ok ∧ c.Ok ∧ args = [.agg l.enc, .agg c.enc] ∧ K [.d (.agg (putR l c).1.enc), .d (.int .i64 (putR l c).2)] := by
 refine .of c64 t64_ok ?_
 rintro _ K ⟨l, c, hl, hc, rfl, hK⟩ hsm
 refine ⟨l.enc ++ c.enc, rfl, by exact (Lis.has hl).append (Cue.has hc), ?_⟩
 refine denR_call clCheck17_ok ⟨l, hl, by simp only [zz, RT.den, den, O1.eval, O2.eval, D.eqb, reduceCtorEq, D.sub, D.cell, D.elem, D.cells, D.padd, D.list, D.push, Lis.enc, Cue.enc], _, rfl, ?_⟩
 simp only [zz, RT.den, den, O1.eval, O2.eval, D.eqb, reduceCtorEq, D.sub, D.cell, D.elem, D.cells, D.padd, D.list, D.push, Lis.enc, Cue.enc]
 unfold putR at hK
 refine ⟨fun h => ?_, fun h => ?_⟩
 · have h : checkL order05 l ≠ 0 := by simpa using h
   rw [if_pos h] at hK; exact hK
 have h : checkL order05 l = 0 := by simpa using h
 rw [if_neg (by simp [h])] at hK
 refine denR_call ccheck_ok ⟨c, hc, by simp only [zz, RT.den, den, O1.eval, O2.eval, D.eqb, reduceCtorEq, D.sub, D.cell, D.elem, D.cells, D.padd, D.list, D.push, Lis.enc, Cue.enc], _, rfl, ?_⟩
 simp only [zz, RT.den, den, O1.eval, O2.eval, D.eqb, reduceCtorEq, D.sub, D.cell, D.elem, D.cells, D.padd, D.list, D.push, Lis.enc, Cue.enc]
 refine ⟨fun h2 => ?_, fun h2 => ?_⟩
 · have h2 : check16 c ≠ 0 := by simpa using h2
   rw [if_pos h2] at hK; exact hK
 have h2 : check16 c = 0 := by simpa using h2
 rw [if_neg (by simp [h2])] at hK
 have hR := rightL_of h
 have hlen := hR.len
 have hnum := check16_num h2
 have hwo := without_Ok hl.cues c.num
 have hwl : (without l.cues c.num).length ≤ 64 := Nat.le_trans (List.length_filter_le _ _) hlen
 have hwn : ∀ x ∈ without l.cues c.num, check05 x.num = 0 := fun x hx => hR.num x (mem_without.1 hx).1
 have hwv : ∀ x ∈ without l.cues c.num, valOf x ≠ valOf c := fun x hx e => (mem_without.1 hx).2 (value05_inj (hwn x hx) hnum e)
 have hins := ins_rising (rising_without hR.rising c.num) hwv
 rw [ins_len] at hK
 have happ : ∀ x ∈ without l.cues c.num ++ [c], x.Ok ∧ check05 x.num = 0 := by
   intro x hx
   rcases List.mem_append.1 hx with hx | hx
   · exact ⟨hwo x hx, hwn x hx⟩
   · simp at hx; subst hx; exact ⟨hc, hnum⟩
 simp only [denR_guess]
 intro b _
 cases b <;> simp only [zz, RT.den, den, O1.eval, O2.eval, D.eqb, reduceCtorEq, D.sub, D.cell, D.elem, D.cells, D.padd, D.list, D.push]
 all_goals
   refine denR_call cwithout_ok ⟨l, c.num, hl, by omega, by simp only [zz, RT.den, den, O1.eval, O2.eval, D.eqb, reduceCtorEq, D.sub, D.cell, D.elem, D.cells, D.padd, D.list, D.push, Lis.enc, Cue.enc], _, rfl, ?_⟩
   generalize hW : without l.cues c.num = W at *
   simp only [zz, RT.den, den, O1.eval, O2.eval, D.eqb, reduceCtorEq, D.sub, D.cell, D.elem, D.cells, D.padd, D.list, D.push, Lis.enc, Cue.enc, List.length_append, List.length_map, List.length_cons, List.length_nil]
   refine ⟨by omega, fun _ => ⟨fun h3 => ?_, fun h3 => ?_⟩⟩
   · rw [if_pos (by omega)] at hK; exact hK
   · rw [if_neg (by omega)] at hK
     have e1 : W.map Cue.enc ++ [[D.str c.num, .str c.label, .slice (c.moves.map Mov.enc), .slice (c.parts.map Tim.enc), .bool c.block, .bool c.mark, .int .i64 c.follow, .str c.link, .int .i64 c.loops]] = (W ++ [c]).map Cue.enc := by simp [Cue.enc]
     refine denR_callX with_ok ⟨l.enc ++ [.slice ((W ++ [c]).map Cue.enc)], by simp only [zz, RT.den, den, O1.eval, O2.eval, D.eqb, reduceCtorEq, D.sub, D.cell, D.elem, D.cells, D.padd, D.list, D.push, Lis.enc, Cue.enc, D.push, e1]; rfl, by exact has_li hl ⟨cues_has fun x hx => (happ x hx).1, trivial⟩⟩ (fun h => by cases h) ?_
     refine ⟨l, W ++ [c], hl, fun x hx => (happ x hx).1, fun x hx => (happ x hx).2, by simp, by simp only [zz, RT.den, den, O1.eval, O2.eval, D.eqb, reduceCtorEq, D.sub, D.cell, D.elem, D.cells, D.padd, D.list, D.push, Lis.enc, Cue.enc, D.push, e1], fun cs' hp hs => ?_⟩
     have e2 : cs' = ins c W := perm_sorted_eq valOf (ins c W) cs' (hp.trans ((List.perm_append_comm).trans (ins_perm c W).symm)) hs hins
     subst e2
     refine ⟨(Lis.enc { l with cues := ins c W }), rfl, ?_⟩
     simp only [zz, RT.den, den, O1.eval, O2.eval, D.eqb, reduceCtorEq, D.sub, D.cell, D.elem, D.cells, D.padd, D.list, D.push, Lis.enc]
     exact hK
end Go.Sx.La
set_option maxRecDepth 100000
namespace Go.Sx.La
open Go Go.Sx Go.RowKit Go.Proofs
noncomputable def t66 : R := .call none (.fn 28) [.lcons (.var 0) (.lcons (.var 1) (.lcons (.var 2) .lnil)), .var 3] [.cell (.int .i64), .cell .bool, .cell (.int .i64)] (.ite (.o2 .ne (.var 6) (.int .i64 0)) (.ret [.d (.lcons (.int .i64 0) (.lcons (.int .i64 0) (.lcons .nils .lnil))), .d (.bool false), .d (.var 6)]) (.ite (.var 5) (.call none (.fn 86) [.var 2] [.own [.str, .str, .slice [.int .i64, .int .i64, .int .i64, .int .i64, .int .i64], .slice [.int .i64, .int .i64, .int .i64, .int .i64, .int .i64, .int .i64], .bool, .bool, .int .i64, .str, .int .i64]] (.callX false 132 [.own 9 (.var 7), .d (.var 4), .d (.o2 (.add .i64) (.var 4) (.int .i64 1))] [.own [.str, .str, .slice [.int .i64, .int .i64, .int .i64, .int .i64, .int .i64], .slice [.int .i64, .int .i64, .int .i64, .int .i64, .int .i64, .int .i64], .bool, .bool, .int .i64, .str, .int .i64]] (.ret [.d (.lcons (.var 0) (.lcons (.var 1) (.lcons (.var 8) .lnil))), .d (.bool true), .d (.int .i64 0)]))) (.ret [.d (.lcons (.var 0) (.lcons (.var 1) (.lcons (.var 2) .lnil))), .d (.var 5), .d (.int .i64 0)])))
theorem zeroL_Ok : zeroL.Ok := ⟨⟨by decide, by decide⟩, ⟨by decide, by decide⟩, by simp [zeroL]⟩
theorem putR_Ok {l : Lis} {c : Cue} (hl : l.Ok) (hc : c.Ok) : (putR l c).1.Ok := by
 unfold putR
 split
 · exact zeroL_Ok
 split
 · exact zeroL_Ok
 split
 · exact zeroL_Ok
 · refine ⟨hl.num, hl.prio, fun x hx => ?_⟩
   rcases List.mem_cons.1 ((ins_perm _ _).mem_iff.1 hx) with rfl | hx
   · exact hc
   · exact hl.cues x (mem_without.1 hx).1
end Go.Sx.La
set_option maxRecDepth 100000
namespace Go.Sx.La
open Go Go.Sx Go.RowKit Go.Proofs
noncomputable def t22 : R := .call none (.fn 17) [.lcons (.var 0) (.lcons (.var 1) (.lcons (.var 2) .lnil))] [.cell .bool] (.call (some (.var 3)) (.fn 42) [.lcons (.var 0) (.lcons (.var 1) (.lcons (.var 2) .lnil))] [.cell (.int .i64)] (.ret [.d (.ite (.var 3) (.o2 .eq (.var 4) (.int .i64 0)) (.bool false))]))
theorem without_ins {c : Cue} : ∀ {W : List Cue}, (∀ x ∈ W, x.num ≠ c.num) → without (ins c W) c.num = W
 | [], _ => by simp [without, ins]
 | x :: xs, h => by
   have hx := h x (by simp)
   have hxs : ∀ y ∈ xs, y.num ≠ c.num := fun y hy => h y (by simp [hy])
   have hk : without (x :: xs) c.num = x :: xs := List.filter_eq_self.2 fun y hy => by simpa using h y hy
   simp only [ins]
   split
   · have ih := without_ins hxs
     simp only [without] at ih ⊢
     rw [List.filter_cons, ih]
     simp [hx]
   · simp only [without] at hk ⊢
     rw [List.filter_cons, hk]
     simp
structure Putd (l : Lis) (c : Cue) : Prop where
 right : checkL order05 { l with cues := ins c (without l.cues c.num) } = 0
 find : ∃ (i : Nat) (hi : i < (ins c (without l.cues c.num)).length), findR { l with cues := ins c (without l.cues c.num) } c.num = ((i : Int), true, 0) ∧ (ins c (without l.cues c.num))[i] = c
 drop : dropR { l with cues := ins c (without l.cues c.num) } c.num = ({ l with cues := without l.cues c.num }, true, 0)
 drop0 : ∃ b, dropR l c.num = ({ l with cues := without l.cues c.num }, b, 0)
theorem putd {l : Lis} {c : Cue} (h : checkL order05 l = 0) (h2 : check16 c = 0) (hlen : ¬ 64 < (ins c (without l.cues c.num)).length) : Putd l c := by
 have hR := rightL_of h
 have hnum := check16_num h2
 have hwn : ∀ x ∈ without l.cues c.num, check05 x.num = 0 := fun x hx => hR.num x (mem_without.1 hx).1
 have hwv : ∀ x ∈ without l.cues c.num, valOf x ≠ valOf c := fun x hx e => (mem_without.1 hx).2 (value05_inj (hwn x hx) hnum e)
 have hins := ins_rising (rising_without hR.rising c.num) hwv
 have hmem : ∀ {x}, x ∈ ins c (without l.cues c.num) ↔ x = c ∨ x ∈ without l.cues c.num := fun {x} => by rw [(ins_perm c _).mem_iff]; simp
 have hr : checkL order05 { l with cues := ins c (without l.cues c.num) } = 0 :=
   checkL_of (by exact head_of (l := l) h) (by simp only; omega) (fun x hx => by
     rcases hmem.1 hx with rfl | hx
     · exact h2
     · exact hR.cues x (mem_without.1 hx).1) hins
 have hp : ¬ place (ins c (without l.cues c.num)) c.num < 0 := fun hn => place_neg.1 hn c (hmem.2 (.inl rfl)) rfl
 have g1 : given17 { l with cues := ins c (without l.cues c.num) } c.num = 0 := by unfold given17; rw [if_neg (by simp [hr])]; exact hnum
 have g0 : given17 l c.num = 0 := by unfold given17; rw [if_neg (by simp [h])]; exact hnum
 obtain ⟨i, hi, hpi, hni, _⟩ := place_pos hp
 have hic : (ins c (without l.cues c.num))[i] = c := by
   rcases hmem.1 (List.getElem_mem hi) with e | hx
   · exact e
   · exact absurd hni (mem_without.1 hx).2
 have h0 : (0 : Int) ≤ (i : Int) := by omega
 refine ⟨hr, ⟨i, hi, ?_, hic⟩, ?_, ⟨_, by unfold dropR; rw [if_neg (by simp [g0])]⟩⟩
 · unfold findR
   rw [if_neg (by simp [g1])]
   simp only [hpi]
   rw [if_neg (by omega)]
   simp only [h0, decide_true]
 · unfold dropR
   rw [if_neg (by simp [g1])]
   simp only [hpi, h0, decide_true]
   rw [without_ins fun x hx => (mem_without.1 hx).2]
end Go.Sx.La
