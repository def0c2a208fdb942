/-
  A law of layer 17 as a contract (and what it needs).
-/
import Derived.Test.YtieoaedbfdmocaaGreatDoorWd
import Derived.Test.YtieoaedbfdmocaaGreatDoorRev
import Derived.Shelf.Slices.ReverseS
set_option linter.unusedSimpArgs false
set_option linter.unusedVariables false
set_option linter.unusedSectionVars false
set_option linter.defProp false
set_option maxRecDepth 100000
set_option maxRecDepth 100000
namespace Go.Sx.La
open Go Go.Sx Go.RowKit Go.Proofs Go.Sort
noncomputable def t6 : R := .call none (.fn 22) [.lcons (.var 0) (.lcons (.var 1) (.lcons (.var 2) .lnil))] [.cell .bool] (.ite (.o1 .not (.var 3)) (.call none (.fn 18) [] [.cell .bool] (.ret [.d (.var 4)])) (.call none (.fn 37) [.lcons (.var 0) (.lcons (.var 1) (.lcons (.var 2) .lnil))] [.cell .str, .cell .bool, .cell (.int .i64)] (.loop 0 [.var 4, .var 5, .var 6, .nils] [.str, .bool, .int .i64, .slice [.str]] (.fact (.ite (.ite (.var 8) (.o2 .eq (.var 9) (.int .i64 0)) (.bool false)) (.o2 .le (.o1 .len (.var 10)) (.int .i64 140737488355328)) (.bool true)) (.fact (.ite (.ite (.var 8) (.o2 .eq (.var 9) (.int .i64 0)) (.bool false)) (.o2 .le (.o1 .len (.var 2)) (.int .i64 140737488355328)) (.bool true)) (.ite (.ite (.ite (.var 8) (.o2 .eq (.var 9) (.int .i64 0)) (.bool false)) (.o2 .le (.o1 .len (.var 10)) (.o1 .len (.var 2))) (.bool false)) (.need (.o2 .le (.o1 .len (.o2 .app (.var 10) (.push .nils (.lcons (.var 7) .lnil)))) (.int .i64 8796093022208)) (.call none (.fn 30) [.lcons (.var 0) (.lcons (.var 1) (.lcons (.var 2) .lnil)), .var 7] [.cell .str, .cell .bool, .cell (.int .i64)] (.again 0 [.var 11, .var 12, .var 13, .o2 .app (.var 10) (.push .nils (.lcons (.var 7) .lnil))]))) (.call none (.fn 38) [.lcons (.var 0) (.lcons (.var 1) (.lcons (.var 2) .lnil))] [.cell .str, .cell .bool, .cell (.int .i64)] (.loop 1 [.var 11, .var 12, .nils, .var 13] [.str, .bool, .slice [.str], .int .i64] (.fact (.ite (.ite (.var 15) (.o2 .eq (.var 17) (.int .i64 0)) (.bool false)) (.o2 .le (.o1 .len (.var 16)) (.int .i64 140737488355328)) (.bool true)) (.fact (.ite (.ite (.var 15) (.o2 .eq (.var 17) (.int .i64 0)) (.bool false)) (.o2 .le (.o1 .len (.var 2)) (.int .i64 140737488355328)) (.bool true)) (.ite (.ite (.ite (.var 15) (.o2 .eq (.var 17) (.int .i64 0)) (.bool false)) (.o2 .le (.o1 .len (.var 16)) (.o1 .len (.var 2))) (.bool false)) (.need (.o2 .le (.o1 .len (.o2 .app (.var 16) (.push .nils (.lcons (.var 14) .lnil)))) (.int .i64 8796093022208)) (.call none (.fn 32) [.lcons (.var 0) (.lcons (.var 1) (.lcons (.var 2) .lnil)), .var 14] [.cell .str, .cell .bool, .cell (.int .i64)] (.again 1 [.var 18, .var 19, .o2 .app (.var 16) (.push .nils (.lcons (.var 14) .lnil)), .var 20]))) (.callX true 39 [.own 1 (.var 16)] [.own [.str]] (.call (some (.ite (.o2 .eq (.var 9) (.int .i64 0)) (.o2 .eq (.var 17) (.int .i64 0)) (.bool false))) (.fn 40) [.lcons (.var 0) (.lcons (.var 1) (.lcons (.var 2) .lnil))] [.cell (.slice [.str])] (.call (some (.ite (.o2 .eq (.var 9) (.int .i64 0)) (.o2 .eq (.var 17) (.int .i64 0)) (.bool false))) (.fn 36) [.var 10, .var 19] [.cell .bool] (.call (some (.ite (.ite (.o2 .eq (.var 9) (.int .i64 0)) (.o2 .eq (.var 17) (.int .i64 0)) (.bool false)) (.var 20) (.bool false))) (.fn 36) [.var 18, .var 10] [.cell .bool] (.call (some (.ite (.ite (.ite (.o2 .eq (.var 9) (.int .i64 0)) (.o2 .eq (.var 17) (.int .i64 0)) (.bool false)) (.var 20) (.bool false)) (.var 21) (.bool false))) (.fn 18) [] [.cell .bool] (.ret [.d (.ite (.ite (.ite (.ite (.o2 .eq (.var 9) (.int .i64 0)) (.o2 .eq (.var 17) (.int .i64 0)) (.bool false)) (.var 20) (.bool false)) (.var 21) (.bool false)) (.var 22) (.bool false))])))))))))))))))))
theorem t6_ok : fnO Tryz.prog mdA 6 [.agg [.int .i64, .int .i64, .slice [.str, .str, .slice [.int .i64, .int .i64, .int .i64, .int .i64, .int .i64], .slice [.int .i64, .int .i64, .int .i64, .int .i64, .int .i64, .int .i64], .bool, .bool, .int .i64, .str, .int .i64]]] = t6 := by kernel_rfl
theorem c6 : callable Tryz.prog 6 = true := by kernel_rfl
/-! ### slices.Reverse at texts -/
theorem putRow_other {α : Type} [Inhabited α] (enc : α → Value) (w : World) (blk off n : Nat) (d : Array α) {b : Nat} (hne : b ≠ blk) : (putRow enc (Sort.ahead w n) blk off d).heap[b]? = w.heap[b]? := by
  simp only [putRow, mapBlock, Sort.ahead, Array.getElem?_modify]
  rw [if_neg (by omega)]
theorem putRow_row {α : Type} [Inhabited α] (enc : α → Value) (w : World) (blk off n : Nat) (d : Array α) {c : Array Value} {t : TypeId} {fz : Nat × Nat} (hb : w.heap[blk]? = some (.cells c t fz)) :
    (putRow enc (Sort.ahead w n) blk off d).heap[blk]? = some (.cells (Go.Sort.putCells enc off d c) t fz) := by
  simp only [putRow, mapBlock, Sort.ahead, Array.getElem?_modify, hb]
  simp [onCells]
theorem reverse_ok : ContractX Tryz.prog 39 [.own [.str]] true fun args K => ∃ (ss : List (List UInt8)), args = [.own 1 (txts ss)] ∧ K [.own 1 (txts ss.reverse)] := by
  have hcl : callable Tryz.prog 39 = true := by kernel_rfl
  have hres : resKinds Tryz.prog false (fnTypes Tryz.prog 39) = some [] := by kernel_rfl
  have hty : ∀ ss : List (List UInt8), ResTyped Tryz.prog 39 (if true = true then ownKs [.own [.str]] else []) [.own 1 (txts ss)] := by
    intro ss rk hrk
    rw [hres] at hrk; cases hrk
    exact ⟨[.slice (txts ss)], rfl, ⟨txts_has ss, trivial⟩⟩
  refine ⟨hcl, ?_⟩
  rintro _ K ⟨ss, rfl, hK⟩ _ w m vs hm hr
  have hlen1 : vs.length = 1 := hr.len
  match vs, hlen1 with
  | [v], _ =>
  have r0 := hr.rep 0 _ v rfl rfl
  have sepless : ∀ {m' : Mem} {w' : World} {rs : List RV} {us : List Value}, rs.length ≤ 1 → ∀ (i j : Nat) r r' u u' b, i ≠ j → rs[i]? = some r → rs[j]? = some r' → us[i]? = some u → us[j]? = some u' → r.isOwn = true → r'.isOwn = true → blk u = some b → blk u' ≠ some b := by
    intro m' w' rs us hl i j r r' u u' b hij h2 h3
    exfalso
    have h4 := (List.getElem?_eq_some_iff.1 h2).1
    have h5 := (List.getElem?_eq_some_iff.1 h3).1
    omega
  by_cases hne : ss = []
  · subst hne
    have hv : ∃ a c, v = .slice a 0 c := by
      cases r0 with
      | none => exact ⟨_, _, rfl⟩
      | own => exact ⟨_, _, rfl⟩
    obtain ⟨a, c, rfl⟩ := hv
    refine (Any.slices_Reverse_string_empty Tryz.laysNm217 a c w).mono ?_
    rintro e w' ⟨rfl, rfl⟩
    refine ⟨[.own 1 (txts [])], [], _, m, hK, hty [], rfl, rfl, ⟨rfl, ?_, sepless (m' := m) (w' := w') (by simp)⟩, Mem.le_refl m, hm, fun _ _ _ => rfl, ⟨rfl, rfl, rfl, Nat.le_refl _, Nat.le_refl _, fun _ _ _ => rfl⟩⟩
    intro i r u h2 h3
    cases i with
    | succ i => simp at h2
    | zero =>
      simp [ownVals] at h2 h3
      subst h2 h3
      cases r0 with
      | none => exact .none
      | own hB hm' hb h0 hc hcc hcap hsz he hv => exact .own (.inr ⟨0, _, _, rfl, rfl, rfl, by simp [blk]; omega⟩) hm' hb h0 hc hcc hcap hsz he hv
  · obtain ⟨b, c, arr, t, hveq, _, hmb, hb, hc0, hc, hcm, hcap, hasz, he, hv⟩ := own_inv r0 (by simpa [txts] using hne)
    have hl : (txts ss).length = ss.length := txts_len ss
    rw [hl] at hveq hc hcap
    subst hveq
    have hval : ∀ i (hi : i < ss.length), arr[i]? = some (encStr ss[i]) ∧ (ss[i]).length ≤ cap := by
      intro i hi
      have hlt : i < arr.size := by omega
      have := hv i 0 [.str ss[i]] (.str ss[i]) arr[i] (by simp [txts, hi]) rfl (by simp [hlt])
      obtain ⟨h1, h2⟩ := this.str_inv
      exact ⟨by rw [Array.getElem?_eq_getElem hlt, h1, encStr], h2⟩
    have hH : Holds encStr w b 0 ss.toArray := by
      intro j hj
      have hj' : j < ss.length := by simpa using hj
      constructor
      · simp only [World.cell?, hb, Nat.zero_add]
        have := (hval j hj').1
        simp [this, getElem!_pos, hj']
      · simp [World.frozen?, hb]
    refine (Any.slices_Reverse_string Tryz.laysNm217 b 0 c ss w hH (by simp only [cap] at hcap; omega)).mono ?_
    rintro e w' ⟨rfl, n, rfl⟩
    have hown : OwnBlk [.own 1 (txts ss)] [.slice (some ⟨b, 0, none⟩) ss.length c] b := ⟨0, _, _, rfl, rfl, rfl, by simp [blk]; omega⟩
    have hrow := putRow_row encStr w b 0 n ss.reverse.toArray hb
    refine ⟨[.own 1 (txts ss.reverse)], [], _, m, hK, hty ss.reverse, rfl, rfl, ⟨rfl, ?_, sepless (m' := m) (w' := w) (by simp)⟩, Mem.le_refl m, ?_, fun _ _ _ => rfl, ⟨rfl, rfl, rfl, ?_, ?_, ?_⟩⟩
    · intro i r u h2 h3
      cases i with
      | succ i => simp at h2
      | zero =>
        simp [ownVals] at h2 h3
        subst h2 h3
        have hlr : (txts ss.reverse).length = ss.length := by rw [txts_len]; simp
        have := RepR.own (m := m) (w := putRow encStr (Sort.ahead w n) b 0 ss.reverse.toArray) (B := fun b' => w.heap.size ≤ b' ∨ OwnBlk [.own 1 (txts ss)] [.slice (some ⟨b, 0, none⟩) ss.length c] b') (e := 1) (xs := txts ss.reverse) (.inr hown) hmb hrow hc0 (by omega) hcm (by omega) (by simp [Go.Sort.putCells, hasz]) (by
          intro x hx
          obtain ⟨y, _, rfl⟩ := List.mem_map.1 hx
          rfl) (by
          intro i j x dd u hx hd hu
          obtain ⟨s, hs, rfl⟩ := txts_at hx
          have hj : j = 0 := by
            have := (List.getElem?_eq_some_iff.1 hd).1
            simp at this; exact this
          subst hj
          simp at hd; subst hd
          have hi : i < ss.length := by have := (List.getElem?_eq_some_iff.1 hs).1; simpa using this
          have hsm : s ∈ ss := by have := List.mem_of_getElem? hs; simpa using this
          obtain ⟨q, hq, rfl⟩ := List.mem_iff_getElem.1 hsm
          simp only [Go.Sort.putCells, Array.getElem?_mapIdx, Option.map_eq_some_iff] at hu
          obtain ⟨z, hz, hu⟩ := hu
          rw [if_pos ⟨Nat.zero_le _, by simp; omega⟩] at hu
          have e1 : ss.reverse.toArray[i * 1 + 0 - 0]! = ss[q] := by
            have h7 : (i * 1 + 0 - 0) < ss.reverse.toArray.size := by simp; omega
            rw [getElem!_pos ss.reverse.toArray (i * 1 + 0 - 0) h7]
            have h8 := (List.getElem?_eq_some_iff.1 hs).2
            simpa using h8
          rw [e1] at hu
          rw [← hu]
          exact .str _ (hval q hq).2)
        rw [hlr] at this
        exact this
    · intro b' o ho
      have hne' : b' ≠ b := by rintro rfl; rw [hmb] at ho; cases ho
      rw [putRow_other _ _ _ _ _ _ hne']
      exact hm b' o ho
    · simp [putRow, mapBlock, Sort.ahead]
    · simp [putRow, mapBlock, Sort.ahead]
    · intro b' hb' hnb
      refine putRow_other _ _ _ _ _ _ ?_
      rintro rfl
      exact hnb hown
/-! ### CuelistWalks -/
theorem pick_some (s : List UInt8) : pick (some s) = (s, true) := rfl
theorem pick_none : pick none = ([], false) := rfl
theorem next_find {lt : List UInt8 → List UInt8 → Prop} [∀ a b, Decidable (lt a b)] (asym : ∀ a b, lt a b → ¬ lt b a) (irr : ∀ a, ¬ lt a a) : ∀ (L : List (List UInt8)), L.Pairwise lt → ∀ (k : Nat) (hk : k < L.length), (L.find? fun x => decide (lt L[k] x)) = L[k + 1]?
  | [], _, k, hk => by simp at hk
  | a :: L, h, 0, _ => by
    rw [List.pairwise_cons] at h
    simp only [List.getElem_cons_zero, List.find?_cons, irr, decide_false, List.getElem?_cons_succ]
    cases L with
    | nil => rfl
    | cons b L => simp [h.1 b (by simp)]
  | a :: L, h, k + 1, hk => by
    rw [List.pairwise_cons] at h
    have hk' : k < L.length := by simpa using hk
    simp only [List.getElem_cons_succ, List.find?_cons, List.getElem?_cons_succ, asym a _ (h.1 _ (List.getElem_mem hk')), decide_false]
    exact next_find asym irr L h.2 k hk'
theorem names_rising {l : Lis} (h : RightL l) : (names l).Pairwise fun a b => value05 a < value05 b := by
  rw [names, List.pairwise_map]
  exact h.rising
theorem after_at {l : Lis} (hg : checkL order05 l = 0) {k : Nat} (hk : k < (names l).length) : afterR l (names l)[k] = ((pick (names l)[k + 1]?).1, (pick (names l)[k + 1]?).2, 0) := by
  have hR := rightL_of hg
  have hs := names_right hR _ (List.getElem_mem hk)
  have e := next_find (lt := fun a b => value05 a < value05 b) (fun a b h h' => by omega) (fun a h => by omega) (names l) (names_rising hR) k hk
  have e2 : ((names l).find? fun x => decide (0 < order05 x (names l)[k])) = (names l)[k + 1]? := by
    rw [← e]
    refine find_congr fun x _ => ?_
    rw [Bool.eq_iff_iff]; simp [order_pos]
  simp only [afterR, given_zero hg hs, e2, ne_eq, not_true_eq_false, if_false]
theorem before_at {l : Lis} (hg : checkL order05 l = 0) {k : Nat} (hk : k < (names l).reverse.length) : beforeR l (names l).reverse[k] = ((pick (names l).reverse[k + 1]?).1, (pick (names l).reverse[k + 1]?).2, 0) := by
  have hR := rightL_of hg
  have hs := names_right hR (names l).reverse[k] (by have := List.getElem_mem hk; exact List.mem_reverse.1 this)
  have hp : (names l).reverse.Pairwise fun a b => value05 b < value05 a := by
    rw [List.pairwise_reverse]; exact names_rising hR
  have e := next_find (lt := fun a b => value05 b < value05 a) (fun a b h h' => by omega) (fun a h => by omega) (names l).reverse hp k hk
  have e2 : ((names l).reverse.find? fun x => decide (order05 x (names l).reverse[k] < 0)) = (names l).reverse[k + 1]? := by
    rw [← e]
    refine find_congr fun x _ => ?_
    rw [Bool.eq_iff_iff]; simp [order_neg]
  simp only [beforeR, given_zero hg hs, e2, ne_eq, not_true_eq_false, if_false]
theorem denR_loop {P : Program} {F : Option Nat → List RV → Prop} {l : Nat} {inits : List T} {ks : List K} {body : R} {ags : Ags} {ρ : List D} : denR P F noK (.loop l inits ks body) ags ρ =
    (∃ (Inv : Option Nat → List D → Prop) (μ : List D → Nat), Inv ags.cnt (inits.map (den ρ)) ∧ ∀ c xs, HasKs ks xs → Inv c xs → denR P F noK body (setAg (ags.wc c) l fun c' ys => Inv c' ys ∧ μ ys < μ xs) (ρ ++ xs)) := rfl
def lenAt (p : Nat) (ys : List D) : Nat := match ys[p]? with
  | some (.slice xs) => xs.length
  | _ => 0
theorem law6_typed : Contract Tryz.prog 6 fun args K => ∃ (l : Lis), l.Ok ∧ args = [.agg l.enc] ∧ K [.d (.bool true)] := by
  refine .of c6 t6_ok ?_
  rintro _ K ⟨l, hl, rfl, hK⟩ hsm
  refine ⟨l.enc, rfl, Lis.has hl, ?_⟩
  refine denR_call good_ok ⟨l, hl, rfl, _, rfl, ?_⟩
  cases hg : good l with
  | false =>
    refine denR_iteT (by simp only [zz, RT.den, den, O1.eval, O2.eval, D.eqb, Ags.none, reduceCtorEq, forall_const, if_true, if_false, ite_true, ite_false, D.sub, D.cell, D.elem, D.cells, D.padd, D.list, D.push, Lis.enc]) (denR_call awake_ok ⟨rfl, _, rfl, ?_⟩)
    simp only [zz, RT.den, den, O1.eval, O2.eval, D.eqb, Ags.none, reduceCtorEq, forall_const, if_true, if_false, ite_true, ite_false, D.sub, D.cell, D.elem, D.cells, D.padd, D.list, D.push, Lis.enc]
    exact hK
  | true =>
  refine denR_iteF (by simp only [zz, RT.den, den, O1.eval, O2.eval, D.eqb, Ags.none, reduceCtorEq, forall_const, if_true, if_false, ite_true, ite_false, D.sub, D.cell, D.elem, D.cells, D.padd, D.list, D.push, Lis.enc]) ?_
  have hg0 : checkL order05 l = 0 := by
    unfold good at hg
    split at hg
    · simpa using hg
    · cases hg
  have hR := rightL_of hg0
  have hn64 := hR.len
  have hnl : (names l).length = l.cues.length := by simp [names]
  refine denR_call firstR_ok ⟨l, hl, rfl, _, rfl, ?_⟩
  have ef : firstR l = ((pick (names l)[0]?).1, (pick (names l)[0]?).2, 0) := by simp [firstR, hg0, List.head?_eq_getElem?]
  have el : lastR l = ((pick (names l).reverse[0]?).1, (pick (names l).reverse[0]?).2, 0) := by simp [lastR, hg0, ← List.head?_eq_getElem?]
  rw [ef, denR_loop]
  refine ⟨fun c ys => c = none ∧ ∃ k, k ≤ (names l).length ∧ ys = [.str (pick (names l)[k]?).1, .bool (pick (names l)[k]?).2, .int .i64 0, .slice (txts ((names l).take k))], fun ys => (names l).length - lenAt 3 ys, ⟨rfl, 0, Nat.zero_le _, rfl⟩, ?_⟩
  rintro _ _ _ ⟨rfl, k, hk, rfl⟩
  have htl : (txts ((names l).take k)).length = k := by rw [txts_len, List.length_take]; omega
  simp only [zz, RT.den, den, O1.eval, O2.eval, D.eqb, Ags.none, reduceCtorEq, forall_const, if_true, if_false, ite_true, ite_false, D.sub, D.cell, D.elem, D.cells, D.padd, D.list, D.push, Lis.enc, List.length_map, htl]
  intro _ _
  rcases Nat.lt_or_ge k (names l).length with hlt | hge
  · have e1 : (names l)[k]? = some (names l)[k] := List.getElem?_eq_getElem hlt
    simp only [zz, RT.den, den, O1.eval, O2.eval, D.eqb, Ags.none, reduceCtorEq, forall_const, if_true, if_false, ite_true, ite_false, D.sub, D.cell, D.elem, D.cells, D.padd, D.list, D.push, e1, pick_some, pick_none]
    refine ⟨fun _ => ⟨by simp only [List.length_append, htl, List.length_cons, List.length_nil]; omega, ?_⟩, fun h => ?_⟩
    rotate_left
    · exact absurd (h.resolve_left id) (by omega)
    refine denR_call afterR_ok ⟨l, (names l)[k], hl, rfl, _, rfl, ?_⟩
    rw [after_at hg0 hlt]
    simp only [zz, RT.den, den, O1.eval, O2.eval, D.eqb, Ags.none, reduceCtorEq, forall_const, if_true, if_false, ite_true, ite_false, D.sub, D.cell, D.elem, D.cells, D.padd, D.list, D.push]
    refine ⟨⟨rfl, k + 1, hlt, ?_⟩, ?_⟩
    · have h9 : (names l).take (k + 1) = (names l).take k ++ [(names l)[k]] := List.take_succ_eq_append_getElem hlt
      rw [h9]; simp only [txts, List.map_append, List.map_cons, List.map_nil, and_self]
    · show (names l).length - (txts ((names l).take k) ++ [[D.str (names l)[k]]]).length < (names l).length - (txts ((names l).take k)).length
      rw [List.length_append, htl]; simp only [List.length_singleton]; omega
  · have e1 : (names l)[k]? = none := List.getElem?_eq_none hge
    have ek : k = (names l).length := by omega
    have etk : (names l).take k = names l := by rw [ek]; exact List.take_length
    simp only [zz, RT.den, den, O1.eval, O2.eval, D.eqb, Ags.none, reduceCtorEq, forall_const, if_true, if_false, ite_true, ite_false, D.sub, D.cell, D.elem, D.cells, D.padd, D.list, D.push, e1, pick_some, pick_none, etk]
    refine ⟨fun h => h.1.elim, fun _ => ?_⟩
    refine denR_call lastR_ok ⟨l, hl, rfl, _, rfl, ?_⟩
    rw [el, denR_loop]
    refine ⟨fun c ys => c = none ∧ ∃ k, k ≤ (names l).length ∧ ys = [.str (pick (names l).reverse[k]?).1, .bool (pick (names l).reverse[k]?).2, .slice (txts ((names l).reverse.take k)), .int .i64 0], fun ys => (names l).length - lenAt 2 ys, ⟨rfl, 0, Nat.zero_le _, rfl⟩, ?_⟩
    rintro _ _ _ ⟨rfl, q, hq, rfl⟩
    have htl : (txts ((names l).reverse.take q)).length = q := by rw [txts_len, List.length_take, List.length_reverse]; omega
    simp only [zz, RT.den, den, O1.eval, O2.eval, D.eqb, Ags.none, reduceCtorEq, forall_const, if_true, if_false, ite_true, ite_false, D.sub, D.cell, D.elem, D.cells, D.padd, D.list, D.push, Lis.enc, List.length_map, htl]
    intro _ _
    rcases Nat.lt_or_ge q (names l).length with hlt | hge
    · have hlt' : q < (names l).reverse.length := by simpa using hlt
      have e1 : (names l).reverse[q]? = some (names l).reverse[q] := List.getElem?_eq_getElem hlt'
      simp only [zz, RT.den, den, O1.eval, O2.eval, D.eqb, Ags.none, reduceCtorEq, forall_const, if_true, if_false, ite_true, ite_false, D.sub, D.cell, D.elem, D.cells, D.padd, D.list, D.push, e1, pick_some, pick_none]
      refine ⟨fun _ => ⟨by simp only [List.length_append, htl, List.length_cons, List.length_nil]; omega, ?_⟩, fun h => absurd (h.resolve_left id) (by omega)⟩
      refine denR_call beforeR_ok ⟨l, (names l).reverse[q], hl, rfl, _, rfl, ?_⟩
      rw [before_at hg0 hlt']
      simp only [zz, RT.den, den, O1.eval, O2.eval, D.eqb, Ags.none, reduceCtorEq, forall_const, if_true, if_false, ite_true, ite_false, D.sub, D.cell, D.elem, D.cells, D.padd, D.list, D.push]
      refine ⟨⟨rfl, q + 1, hlt, ?_⟩, ?_⟩
      · have h9 : (names l).reverse.take (q + 1) = (names l).reverse.take q ++ [(names l).reverse[q]] := List.take_succ_eq_append_getElem hlt'
        rw [h9]; simp only [txts, List.map_append, List.map_cons, List.map_nil, and_self]
      · show (names l).length - (txts ((names l).reverse.take q) ++ [[D.str (names l).reverse[q]]]).length < (names l).length - (txts ((names l).reverse.take q)).length
        rw [List.length_append, htl]; simp only [List.length_singleton]; omega
    · have e1 : (names l).reverse[q]? = none := List.getElem?_eq_none (by rw [List.length_reverse]; exact hge)
      have etq : (names l).reverse.take q = (names l).reverse := List.take_of_length_le (by rw [List.length_reverse]; exact hge)
      simp only [zz, RT.den, den, O1.eval, O2.eval, D.eqb, Ags.none, reduceCtorEq, forall_const, if_true, if_false, ite_true, ite_false, D.sub, D.cell, D.elem, D.cells, D.padd, D.list, D.push, e1, pick_some, pick_none, etq]
      refine ⟨fun h => h.1.elim, fun _ => ?_⟩
      refine denR_callX reverse_ok ⟨[.slice (txts (names l).reverse)], rfl, ⟨txts_has _, trivial⟩⟩ (fun _ => rfl) ⟨(names l).reverse, rfl, ?_⟩
      rw [List.reverse_reverse]
      refine ⟨_, rfl, ?_⟩
      refine denR_gcall numbersLaw_ok true [.slice (txts (names l))] (by simp only [zz, RT.den, den, O1.eval, O2.eval, D.eqb, Ags.none, reduceCtorEq, forall_const, if_true, if_false, ite_true, ite_false, D.sub, D.cell, D.elem, D.cells, D.padd, D.list, D.push]) (fun _ => ⟨l, hl, by omega, rfl, rfl⟩) (fun h => by cases h) ?_
      refine denR_gcall eqTxt_ok true [.bool true] (by simp only [zz, RT.den, den, O1.eval, O2.eval, D.eqb, Ags.none, reduceCtorEq, forall_const, if_true, if_false, ite_true, ite_false, D.sub, D.cell, D.elem, D.cells, D.padd, D.list, D.push]) (fun _ => ⟨names l, names l, rfl, by simp [RV.all, RV.cells]⟩) (fun h => by cases h) ?_
      refine denR_gcall eqTxt_ok true [.bool true] (by simp only [zz, RT.den, den, O1.eval, O2.eval, D.eqb, Ags.none, reduceCtorEq, forall_const, if_true, if_false, ite_true, ite_false, D.sub, D.cell, D.elem, D.cells, D.padd, D.list, D.push]) (fun _ => ⟨names l, names l, rfl, by simp [RV.all, RV.cells]⟩) (fun h => by cases h) ?_
      refine denR_gcall awake_ok true [.bool true] (by simp only [zz, RT.den, den, O1.eval, O2.eval, D.eqb, Ags.none, reduceCtorEq, forall_const, if_true, if_false, ite_true, ite_false, D.sub, D.cell, D.elem, D.cells, D.padd, D.list, D.push]) (fun _ => ⟨rfl, rfl⟩) (fun h => by cases h) ?_
      simp only [zz, RT.den, den, O1.eval, O2.eval, D.eqb, Ags.none, reduceCtorEq, forall_const, if_true, if_false, ite_true, ite_false, D.sub, D.cell, D.elem, D.cells, D.padd, D.list, D.push]
      exact hK
theorem law6 : Contract Tryz.prog 6 (LawSpec Tryz.prog 6) :=
  law6_typed.weaken fun args K _ h => by
    obtain ⟨h1, h2, hK⟩ := lawArgs [.agg liKs] (by kernel_rfl) h
    match args, h1 with
    | [a], _ =>
      obtain ⟨l, hl, rfl⟩ := Lis.ofAgg (h2 0 _ _ rfl rfl)
      exact ⟨l, hl, rfl, hK⟩
end Go.Sx.La
