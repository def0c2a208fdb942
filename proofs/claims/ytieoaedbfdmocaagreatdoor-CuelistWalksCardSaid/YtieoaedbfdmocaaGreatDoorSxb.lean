/-
  A symbolic executor over the kit's code, and its soundness, part 2.
-/
import Derived.Test.YtieoaedbfdmocaaGreatDoorSxa
import Derived.Laws.MakeOwn
import Derived.Laws.StructEq
import Derived.Laws.Slices
import Derived.Laws.Strings3
import Derived.StillTail
set_option linter.unusedSimpArgs false
set_option linter.unusedVariables false
set_option linter.unusedSectionVars false
set_option linter.defProp false
set_option maxRecDepth 100000
namespace Go.Sx
open Go Go.RowKit
/-- the cells of elements one behind the other -/
structure Flat (m : Mem) (e : Nat) (xs : List (List D)) (arr : Array Value) : Prop where
  fit : xs.length * e ≤ arr.size
  he : ∀ x ∈ xs, x.length = e
  hv : ∀ (i j : Nat) x d v, xs[i]? = some x → x[j]? = some d → arr[i * e + j]? = some v → RepD m d v
theorem flat_idx {i j e n : Nat} (hj : j < e) (h : i * e + j < n * e) : i < n := by
  apply Classical.byContradiction
  intro hn
  have : n * e ≤ i * e := Nat.mul_le_mul_right _ (by omega)
  omega
/-- one element more -/
theorem Flat.snoc {m : Mem} {e : Nat} {xs : List (List D)} {arr : Array Value} (h : Flat m e xs arr) {x : List D} {vs : List Value} (hx : x.length = e) (hl : vs.length = e)
    (hv : ∀ (j : Nat) d v, x[j]? = some d → vs[j]? = some v → RepD m d v) {arr' : Array Value} (hold : ∀ q, q < xs.length * e → arr'[q]? = arr[q]?)
    (hnew : ∀ j, j < e → arr'[xs.length * e + j]? = vs[j]?) (hfit : (xs.length + 1) * e ≤ arr'.size) : Flat m e (xs ++ [x]) arr' := by
  refine ⟨by simpa using hfit, fun y hy => by rcases List.mem_append.1 hy with hy | hy; exact h.he y hy; simp at hy; subst hy; exact hx, ?_⟩
  intro i j y d v hi hj hu
  rw [List.getElem?_append] at hi
  split at hi
  · rename_i hlt
    have hy := h.he y (List.mem_of_getElem? hi)
    have hje : j < e := by rw [← hy]; exact (List.getElem?_eq_some_iff.1 hj).1
    have : i * e + j < xs.length * e := by
      calc i * e + j < i * e + e := by omega
        _ = (i + 1) * e := by rw [Nat.add_mul, Nat.one_mul]
        _ ≤ xs.length * e := Nat.mul_le_mul_right _ (by omega)
    rw [hold _ this] at hu
    exact h.hv i j y d v hi hj hu
  · rename_i hlt
    have hi0 : i = xs.length := by
      have := (List.getElem?_eq_some_iff.1 hi).1
      simp at this; omega
    subst hi0
    simp at hi
    subst hi
    have hje : j < e := by rw [← hx]; exact (List.getElem?_eq_some_iff.1 hj).1
    rw [hnew j hje] at hu
    exact hv j d v hj hu
section
variable {E : Env} {ρ : List D} {σ : Names} {m : Mem} {st : St TK} {a : Act} {w : World}
section ops
variable (hf : Fits E σ m (denSt ρ st) a w) (hok : st.Ok ρ) {g : Option T} (hg : ∀ c, g = some c → den ρ c = .bool true) {o : Oper} {s : Sym}
include hf hok hg
/-- the cells of a value as data of kinds -/
theorem cellsT_ok {sv : SV TK} {u : Value} {ks : List K} {ts : List T} (hr : RS σ m ρ sv u) (hk : SV.Ok ρ sv) (h : allT st.objs ks (cellsOf sv) = some ts) (hflat : ks.all K.flat = true) :
    u.cells.size = ks.length ∧ LOks ρ ks ts ∧ ts.length = ks.length ∧ (∀ (j : Nat) d v, (ts.map (den ρ))[j]? = some d → u.cells[j]? = some v → RepD m d v) ∧ ∀ v ∈ u.cells.toList, v.oneCell' = true := by
  have hka : ∀ v ∈ cellsOf sv, SV.Ok ρ v := by
    intro v hv
    cases sv with
    | agg cs => cases hk; rename_i h'; exact h' v hv
    | _ => simp [cellsOf] at hv; subst hv; exact hk
  obtain ⟨l1, l2, l3, l4⟩ := allT_ok hf hok h hka
  -- data of a flat kind is one cell
  have one : ∀ {k : K} {t : T} {v : Value}, k.flat = true → HasK k (den ρ t) → RepD m (den ρ t) v → v.oneCell' = true := by
    intro k t v hkf hkk hd
    generalize den ρ t = d at *
    cases hd <;> first | rfl | (cases k <;> simp [HasK, K.flat] at hkk hkf)
  have flatAt : ∀ {j : Nat} {k : K}, ks[j]? = some k → k.flat = true := fun {j k} hj => (List.all_eq_true.1 hflat) k (List.mem_of_getElem? hj)
  have hcell : u.cells.size = (cellsOf sv).length ∧ ∀ (j : Nat) c v, (cellsOf sv)[j]? = some c → u.cells[j]? = some v → RS σ m ρ c v := by
    cases sv with
    | agg cs =>
      simp only [RS, SV.map] at hr
      generalize hcs : SV.mapL (denL ρ) cs = mcs at hr
      rw [SV.mapL_eq] at hcs
      cases hr with
      | agg hsz hv =>
        refine ⟨by simp [Value.cells, cellsOf, hsz, ← hcs], fun i c x hc hx => ?_⟩
        exact hv i _ x (by rw [← hcs]; simp only [cellsOf] at hc; simp [hc]) (by simpa [Value.cells] using hx)
    | _ =>
      simp only [cellsOf] at l1 l2 l4 ⊢
      simp at l1 l2
      obtain ⟨t, ht, hd⟩ := l4 0 _ u rfl hr
      have hkt := HasKs.get l3.1 (i := 0) (k := ks[0]) (by simp [l2])
      obtain ⟨d, hdd, hkk⟩ := hkt
      simp [ht] at hdd
      subst hdd
      have h1 := one (flatAt (j := 0) (k := ks[0]) (by simp [l2])) hkk hd
      rw [cells_one hf hok hg h1]
      refine ⟨rfl, fun i c x hc hx => ?_⟩
      cases i with
      | zero => simp at hc hx; subst hc hx; exact hr
      | succ i => simp at hc
  refine ⟨by rw [hcell.1, l2], l3, by rw [l1, l2], ?_, ?_⟩
  · intro j d v hd hv
    simp only [List.getElem?_map, Option.map_eq_some_iff] at hd
    obtain ⟨t, ht, rfl⟩ := hd
    have hj : j < (cellsOf sv).length := by rw [← l1]; exact (List.getElem?_eq_some_iff.1 ht).1
    obtain ⟨t', ht', hr'⟩ := l4 j _ v (List.getElem?_eq_getElem hj) (hcell.2 j _ v (List.getElem?_eq_getElem hj) hv)
    rw [ht] at ht'; cases ht'; exact hr'
  · intro v hv
    obtain ⟨j, hj, rfl⟩ := List.mem_iff_getElem.1 hv
    have hj' : j < (cellsOf sv).length := by rw [← hcell.1]; simpa using hj
    have hvj : u.cells[j]? = some u.cells.toList[j] := by simp at hj; simp [hj]
    obtain ⟨t', ht', hr'⟩ := l4 j _ _ (List.getElem?_eq_getElem hj') (hcell.2 j _ _ (List.getElem?_eq_getElem hj') hvj)
    have hjk : j < ks.length := by rw [l2]; exact hj'
    obtain ⟨d, hdd, hkk⟩ := HasKs.get l3.1 (i := j) (k := ks[j]) (by simp [hjk])
    simp [ht'] at hdd
    subst hdd
    exact one (flatAt (j := j) (k := ks[j]) (by simp [hjk])) hkk hr'
theorem pushAll_ok {ks : List K} (hflat : ks.all K.flat = true) : ∀ {vs : List (SV TK)} {us : List Value} {acc t : T} {xs : List (List D)} {arr : Array Value} {k : Nat}, sxOp.pushAll st.objs ks acc vs = some t →
    us.length = vs.length → (∀ (i : Nat) v u, vs[i]? = some v → us[i]? = some u → RS σ m ρ v u) → (∀ v ∈ vs, SV.Ok ρ v) →
    LOk ρ ⟨acc, .slice ks⟩ → den ρ acc = .slice xs → Flat m ks.length xs arr → xs.length = k → (k + vs.length) * ks.length ≤ arr.size →
    ∃ arr' xs', Instr.fill (fun i => some (i * ks.length, ks.length)) arr ((us.zipIdx k).map fun p => (p.2, p.1)) = some arr' ∧ arr'.size = arr.size ∧ den ρ t = .slice xs' ∧ xs'.length = k + vs.length ∧ Flat m ks.length xs' arr' ∧ LOk ρ ⟨t, .slice ks⟩
  | [], us, acc, t, xs, arr, k, h, hl, _, _, hacc, hd, hfl, hk, hfit => by
    simp at hl; subst hl
    simp [sxOp.pushAll] at h; subst h
    exact ⟨arr, xs, rfl, rfl, hd, by simpa using hk, hfl, hacc⟩
  | sv :: vs, us, acc, t, xs, arr, k, h, hl, hr, hka, hacc, hd, hfl, hk, hfit => by
    cases us with
    | nil => simp at hl
    | cons u us =>
      simp only [sxOp.pushAll] at h
      split at h <;> try contradiction
      rename_i ts hts
      obtain ⟨c1, c2, c3, c4, c5⟩ := cellsT_ok hf hok hg (hr 0 _ _ rfl rfl) (hka _ List.mem_cons_self) hts hflat
      simp only [List.length_cons] at hfit hl
      have hk1 : (k + 1) * ks.length ≤ arr.size := Nat.le_trans (Nat.mul_le_mul_right _ (by omega)) hfit
      have hk2 : k * ks.length + ks.length ≤ arr.size := by rw [Nat.add_mul, Nat.one_mul] at hk1; exact hk1
      have hpush : den ρ (.push acc (T.list ts)) = .slice (xs ++ [ts.map (den ρ)]) := by simp only [den, hd, den_list, D.list, D.push]
      have hfl' : Flat m ks.length (xs ++ [ts.map (den ρ)]) (putCells arr (k * ks.length) u.cells.toList) := by
        refine hfl.snoc (vs := u.cells.toList) (by simp [c3]) (by simpa using c1) (fun j d v a b => c4 j d v a (by simpa using b)) (fun q hq => ?_) (fun j hj => ?_) (by rw [putCells_size, hk]; exact hk1)
        · rw [hk] at hq
          rw [putCells_get _ _ _ (by simp [c1]; omega), if_neg (by omega)]
        · rw [hk, putCells_get _ _ _ (by simp [c1]; omega), if_pos (by simp [c1]; omega)]
          congr 1; omega
      obtain ⟨arr', xs', f1, f2, f3, f4, f5, f6⟩ := pushAll_ok hflat h (us := us) (by omega) (fun i v x a b => hr (i + 1) v x (by simpa using a) (by simpa using b)) (fun v hv => hka v (List.mem_cons_of_mem _ hv))
        (hacc.push c2) hpush hfl' (by simp [hk]) (k := k + 1) (by rw [putCells_size]; rw [Nat.add_assoc, Nat.add_comm 1]; exact hfit)
      refine ⟨arr', xs', ?_, by rw [f2, putCells_size], f3, by simp [f4]; omega, f5, f6⟩
      simp only [List.zipIdx_cons, List.map_cons, Instr.fill]
      rw [if_neg (by simp [c1]; omega), ← f1]
      congr 1
      unfold putCells
      rw [← Array.foldl_toList, Array.toList_zipIdx]
theorem flat_repO {n : Nat} {v0 : Value} {b c : Nat} {arr : Array Value} {t : TypeId} {e : Nat} {xs : List (List D)} {w' : World} {σ' : Names} (hs : σ' n = some (.slice (some ⟨b, 0, none⟩) xs.length c)) (hb : w'.heap[b]? = some (.cells arr t (0, 0)))
    (hc : xs.length ≤ c) (hcc : c ≤ maxLen) (hcap : xs.length ≤ cap) (hsz : arr.size = c * e) (hfl : Flat m e xs arr) : RepO σ' m w' n (.arr e (.slice xs)) := by
  rcases Nat.eq_zero_or_pos c with h0 | h0
  · subst h0
    have : xs = [] := List.eq_nil_of_length_eq_zero (by omega)
    subst this
    exact .none hs
  · exact .arr hs hb h0 hc hcc hcap hsz hfl.he hfl.hv
theorem blk_new {b n c q : Nat} (h : blk (.slice (some ⟨q, 0, none⟩) n c) = some b) : b = q := by
  simp only [blk] at h
  split at h
  · cases h
  · cases h; rfl
theorem ok_buildSlice {t : TypeId} {n : Nat} {parts : Array (Nat × Operand)} (ho : o.op = .buildSlice t n parts) (h : sxOp E.P g st o = some s) : OpOk E ρ σ m st a w o s := by
  simp only [sxOp, ho] at h
  split at h <;> try contradiction
  rename_i el hu
  split at h <;> try contradiction
  rename_i ks info hks hi
  split at h <;> try contradiction
  rename_i hc
  simp only [Bool.and_eq_true, beq_iff_eq, decide_eq_true_eq, Option.isSome_iff_exists] at hc
  obtain ⟨⟨⟨⟨⟨c1, c2⟩, c3⟩, c4⟩, c5⟩, z, c6⟩ := hc
  split at h <;> try contradiction
  rename_i t' ht'
  cases h
  have hlenp : parts.toList.length = n := by have := congrArg List.length c3; simpa using this
  have hvs : (parts.toList.map fun p => thaw st.objs (unguard g (look st p.2))).length = n := by simp [hlenp]
  have hfit : (0 + n) * ks.length ≤ ((Array.range (n * info.size)).map (z.cells[· % z.cells.size]!)).size := by simp [c1]
  obtain ⟨arr', xs', f1, f2, f3, f4, f5, f6⟩ := pushAll_ok hf hok hg c2 ht' (us := parts.toList.map fun p => a.eval p.2) (by simp) (fun i v u h1 h2 => by
      simp only [List.getElem?_map, Option.map_eq_some_iff] at h1 h2
      obtain ⟨q, hq, rfl⟩ := h1
      obtain ⟨q', hq', rfl⟩ := h2
      rw [hq] at hq'; cases hq'
      exact (opnd_ok hf hok hg q.2).1)
    (fun v hv => by obtain ⟨q, _, rfl⟩ := List.mem_map.1 hv; exact (opnd_ok hf hok hg q.2).2) (.nils ks) (xs := []) (by simp [den]) (k := 0)
    (arr := (Array.range (n * info.size)).map (z.cells[· % z.cells.size]!)) ⟨by simp, by simp, by simp⟩ rfl (by rw [hvs]; exact hfit)
  have hparts : (((parts.toList.map fun p => a.eval p.2).zipIdx 0).map fun p => (p.2, p.1)) = parts.toList.map fun (i, x) => (i, a.eval x) := by
    apply List.ext_getElem
    · simp
    · intro i h1 h2
      have hi : i < parts.toList.length := by simpa using h1
      have : (parts.toList.map (·.1))[i]'(by simpa using hi) = i := by
        have : (parts.toList.map (·.1))[i]? = some i := by rw [c3, List.getElem?_range (by omega)]
        rw [List.getElem?_eq_getElem (by simpa using hi)] at this
        simpa using this
      simp at this
      simp [this]
  rw [hparts] at f1
  have hsz : arr'.size = n * ks.length := by rw [f2]; simp [c1]
  have hxl : xs'.length = n := by rw [f4, hvs]; simp
  have run : (execOp a.eval o).run E.P w = .ok (.value (.slice (some ⟨w.heap.size, 0, none⟩) n n)) (w.alloc (.cells arr' el)) := by
    by_cases hpos : n * info.size = 0
    · simp only [execOp, ho]
      have hz : (if n * info.size = 0 then (#[] : Array Value) else z.cells) = #[] := by rw [if_pos hpos]
      have h0 : (Array.range (n * info.size)).map (fun x => (#[] : Array Value)[x % (#[] : Array Value).size]!) = (Array.range (n * info.size)).map (z.cells[· % z.cells.size]!) := by rw [hpos]; simp
      have f1' := f1
      rw [← c1, ← h0] at f1'
      simp [hpos] at f1'
      simp [Instr.buildSlice, run_underlying hu, sizeOf, typeInfo, hi, hpos, newRow, f1', run_newObj_alloc]
    · simp only [execOp, ho]
      have := run_buildSlice (P := E.P) w t el n (parts.map fun (i, x) => (i, a.eval x)) arr' info z hu hi c6 (by omega) hpos (by rw [c1]; rw [c1] at f1; simpa using f1)
      simp [this]
  have hmax : n ≤ maxLen := by simp only [cap] at c5; simp only [maxLen]; omega
  have hnn : (Value.slice (some ⟨w.heap.size, 0, none⟩) n n) = .slice (some ⟨w.heap.size, 0, none⟩) xs'.length n := by rw [hxl]
  refine .new hf hok run (fun b hb => blk_new hf hok hg hb) ?_ (fun σ' h' => .own h') .own (.arr f6) (by simp)
  simp only [OV.map]
  have hd : denL ρ ⟨t', .slice ks⟩ = .slice xs' := f3
  rw [hd, hnn]
  exact flat_repO hf hok hg (v0 := .nilFunc) (by rw [names_add_self]) (heap_new w _) (by omega) hmax (by omega) (by rw [hsz]) f5
end ops
end
end Go.Sx
namespace Go.Sx
open Go Go.RowKit
/-- elements one behind the other, as cells -/
theorem Flat.of_cells {m : Mem} {e : Nat} {xs : List (List D)} {arr arr' : Array Value} (h : Flat m e xs arr) (hs : ∀ q, q < xs.length * e → arr'[q]? = arr[q]?) (hfit : xs.length * e ≤ arr'.size) : Flat m e xs arr' := by
  refine ⟨hfit, h.he, fun i j x d v hi hj hu => ?_⟩
  have hy := h.he x (List.mem_of_getElem? hi)
  have hje : j < e := by rw [← hy]; exact (List.getElem?_eq_some_iff.1 hj).1
  have hlt := (List.getElem?_eq_some_iff.1 hi).1
  have : i * e + j < xs.length * e := by
    calc i * e + j < i * e + e := by omega
      _ = (i + 1) * e := by rw [Nat.add_mul, Nat.one_mul]
      _ ≤ xs.length * e := Nat.mul_le_mul_right _ (by omega)
  rw [hs _ this] at hu
  exact h.hv i j x d v hi hj hu
/-- two stretches of elements, one behind the other -/
theorem Flat.append {m : Mem} {e : Nat} {xs ys : List (List D)} {arr : Array Value} (h : Flat m e xs arr) {news : Array Value} (h2 : Flat m e ys news) {arr' : Array Value}
    (hold : ∀ q, q < xs.length * e → arr'[q]? = arr[q]?) (hnew : ∀ q, q < ys.length * e → arr'[xs.length * e + q]? = news[q]?) (hfit : (xs.length + ys.length) * e ≤ arr'.size) : Flat m e (xs ++ ys) arr' := by
  refine ⟨by simpa using hfit, fun y hy => by rcases List.mem_append.1 hy with hy | hy; exact h.he y hy; exact h2.he y hy, ?_⟩
  intro i j y d v hi hj hu
  rw [List.getElem?_append] at hi
  split at hi
  · rename_i hlt
    have hy := h.he y (List.mem_of_getElem? hi)
    have hje : j < e := by rw [← hy]; exact (List.getElem?_eq_some_iff.1 hj).1
    have : i * e + j < xs.length * e := by
      calc i * e + j < i * e + e := by omega
        _ = (i + 1) * e := by rw [Nat.add_mul, Nat.one_mul]
        _ ≤ xs.length * e := Nat.mul_le_mul_right _ (by omega)
    rw [hold _ this] at hu
    exact h.hv i j y d v hi hj hu
  · rename_i hlt
    have hy := h2.he y (List.mem_of_getElem? hi)
    have hje : j < e := by rw [← hy]; exact (List.getElem?_eq_some_iff.1 hj).1
    have hlt2 := (List.getElem?_eq_some_iff.1 hi).1
    have h3 : (i - xs.length) * e + j < ys.length * e := by
      calc (i - xs.length) * e + j < (i - xs.length) * e + e := by omega
        _ = (i - xs.length + 1) * e := by rw [Nat.add_mul, Nat.one_mul]
        _ ≤ ys.length * e := Nat.mul_le_mul_right _ (by omega)
    have h4 : i * e + j = xs.length * e + ((i - xs.length) * e + j) := by
      have : i = xs.length + (i - xs.length) := by omega
      calc i * e + j = (xs.length + (i - xs.length)) * e + j := by rw [← this]
        _ = _ := by rw [Nat.add_mul, Nat.add_assoc]
    rw [h4, hnew _ h3] at hu
    exact h2.hv (i - xs.length) j y d v hi hj hu
section
variable {P : Program} (w : World)
/-- append where there is room, whatever type the block bears -/
theorem run_append_room' (t ty e bt : TypeId) (i : TypeInfo) (ht : P.underlying t = some (.slice e)) (hi : P.info? e = some i)
    (g sLen sCap : Nat) (cur : Array Value) (hg : w.heap[g]? = some (.cells cur bt (0, 0))) (x : Value) (m : Nat) (news : List Value)
    (hx : (Builtin.lenOf x).run P w = .ok m w) (hf : (Builtin.firstCells i.size m x).run P w = .ok news.toArray w) (h1 : ∀ u ∈ news, u.oneCell' = true)
    (hroom : sLen + m ≤ sCap) (hfit : sLen * i.size + news.length ≤ cur.size) :
    (Builtin.append_ #[t, t] ty #[.slice (some ⟨g, 0, none⟩) sLen sCap, x]).run P w =
      .ok (.slice (some ⟨g, 0, none⟩) (sLen + m) sCap) (w.setRow g (cur.toList.take (sLen * i.size) ++ news ++ cur.toList.drop (sLen * i.size + news.length)).toArray) := by
  have hst := run_storeCells_at P g (sLen * i.size) bt news 0 cur w hg (by simpa using hfit) h1
  simp only [Nat.add_zero] at hst
  simp [Builtin.append_, run_underlying ht, sizeOf, typeInfo, hi, hx, hroom, hf, Addr.add_lit, hst]
end
section
variable {E : Env} {σ : Names} {m : Mem} {st : St D} {a : Act} {w : World}
/-- an object is given up, and another one takes its block, or a new one -/
theorem Fits.moveObj (h : Fits E σ m st a w) {w' : World} {o : Nat} {ov ov' : OV D} {v0 : Value} {row : Option Nat} (ho : st.objs[o]? = some ov) (ha : ov.alive = true)
    (hg : Grown w w' row) (hrow : ∀ b, row = some b → (σ o).bind blk = some b) (h' : RepO (σ.add st.objs.length v0) m w' st.objs.length ov')
    (hb : ∀ b, blk v0 = some b → (σ o).bind blk = some b ∨ w.heap.size ≤ b) (hal : ov'.alive = true) :
    Fits E (σ.add st.objs.length v0) m ⟨st.tmps, st.objs.set o .dead ++ [ov']⟩ a w' := by
  have hk : Fits E σ m ⟨st.tmps, st.objs.set o .dead⟩ a w' := by
    cases row with
    | none => exact (h.kill o).world hg (by simp)
    | some b => exact h.update ho ha (hrow b rfl) hg .dead (.inr rfl)
  have hn := hk.newObj (v0 := v0) (ov := ov') (by simpa using h') (hy := by rintro rfl; cases hal) (hsv := by rintro cs rfl; cases hal) fun b hbb hal => by
    rcases hb b hbb with hb | hb
    · have hs := h.sep o ov b ho ha hb
      refine ⟨hs.1, hs.2, fun o' u hu hua hbu => ?_⟩
      simp only at hu
      rcases getElem?_set_some hu with ⟨rfl, rfl, _⟩ | ⟨hne, hu⟩
      · simp [OV.alive] at hua
      · exact hne (h.inj o o' ov u b ho hu ha hua hb hbu)
    · obtain ⟨f1, f2, f3⟩ := h.fresh hb
      refine ⟨f1, f2, fun o' u hu hua hbu => ?_⟩
      simp only at hu
      rcases getElem?_set_some hu with ⟨rfl, rfl, _⟩ | ⟨hne, hu⟩
      · simp [OV.alive] at hua
      · exact f3 o' u hu hua hbu
  simpa using hn
theorem Fits.addObj (h : Fits E σ m st a w) {w' : World} {ov' : OV D} {v0 : Value} (hg : Grown w w' none) (h' : RepO (σ.add st.objs.length v0) m w' st.objs.length ov') (hb : ∀ b, blk v0 = some b → w.heap.size ≤ b) (hal : ov'.alive = true) :
    Fits E (σ.add st.objs.length v0) m ⟨st.tmps, st.objs ++ [ov']⟩ a w' := by
  have hk := h.world hg (by simp)
  exact hk.newObj h' (hy := by rintro rfl; cases hal) (hsv := by rintro cs rfl; cases hal) fun b hbb hal => h.fresh (hb b hbb)
end
/-- what is appended: so many elements, lying at a place, or none -/
structure Src (P : Program) (m : Mem) (w : World) (e : Nat) (x : Value) (ys : List (List D)) : Prop where
  src : ∃ (ad : Option Addr) (c : Nat) (news : Array Value), x = .slice ad ys.length c ∧ news.size = ys.length * e ∧ Flat m e ys news ∧ (∀ u ∈ news.toList, u.oneCell' = true) ∧
    (ys ≠ [] → ∃ b, ad = some b ∧ ∀ (j : Nat) u, news[j]? = some u → w.cell? (b.add j) = some u)
theorem Src.len {P : Program} {m : Mem} {w : World} {e : Nat} {x : Value} {ys : List (List D)} (h : Src P m w e x ys) : (Builtin.lenOf x).run P w = .ok ys.length w := by
  obtain ⟨ad, c, news, rfl, _⟩ := h.src
  simp [Builtin.lenOf]
theorem Src.first {P : Program} {m : Mem} {w : World} {e : Nat} {x : Value} {ys : List (List D)} (h : Src P m w e x ys) :
    ∃ news : Array Value, (Builtin.firstCells e ys.length x).run P w = .ok news w ∧ news.size = ys.length * e ∧ Flat m e ys news ∧ (∀ u ∈ news.toList, u.oneCell' = true) := by
  obtain ⟨ad, c, news, rfl, hsz, hfl, h1, hc⟩ := h.src
  refine ⟨news, ?_, hsz, hfl, h1⟩
  cases ys with
  | nil =>
    have : news = #[] := by apply Array.eq_empty_of_size_eq_zero; simpa using hsz
    subst this
    cases ad with
    | none => simp [Builtin.firstCells]
    | some b => simp [Builtin.firstCells, loadCells, loadCellsFrom]
  | cons y ys =>
    obtain ⟨b, rfl, hb⟩ := hc (by simp)
    have := run_firstCells_some (P := P) w e (y :: ys).length b (y :: ys).length c news.toList (by simpa using hsz) (fun j v hj => hb j v (by simpa using hj))
    simpa using this
theorem run_append_grow' {P : Program} (w : World) (t ty e : TypeId) (i : TypeInfo) (z : Value) (ht : P.underlying t = some (.slice e)) (hi : P.info? e = some i) (hz : i.zero = some z)
    (base : Option Addr) (sLen sCap : Nat) (olds : Array Value) (ho : (Builtin.firstCells i.size sLen (.slice base sLen sCap)).run P w.drew = .ok olds w.drew)
    (x : Value) (n : Nat) (news : Array Value) (hx : (Builtin.lenOf x).run P w = .ok n w) (hf : (Builtin.firstCells i.size n x).run P w.drew = .ok news w.drew)
    (hg : sCap < sLen + n) (h63 : ((sLen + n : Nat) : Int) ≤ 9223372036854775807) (hfit : Builtin.nextslicecap (sLen + n) sCap * i.bytes ≤ 281474976710656) :
    (Builtin.append_ #[t, t] ty #[.slice base sLen sCap, x]).run P w =
      .ok (.slice (some ⟨w.heap.size, 0, none⟩) (sLen + n) (grownCap w (sLen + n) sCap e))
        (w.drew.alloc (.cells (olds ++ news ++ Builtin.zeroCells z.cells (grownCap w (sLen + n) sCap e - (sLen + n))) e)) := by
  have h1 : ¬ (sLen + n ≤ sCap) := by omega
  have h2 : ¬ ((9223372036854775807 : Int) < (sLen : Int) + (n : Int)) := by omega
  have h3 : ¬ (281474976710656 < Builtin.nextslicecap (sLen + n) sCap * i.bytes) := by omega
  simp [Builtin.append_, run_underlying ht, sizeOf, typeInfo, hi, hx, h1, h2, h3, ho, hf, zeroValue, hz, newRow, Question.forced, grownCap]
section
variable {E : Env} {ρ : List D} {σ : Names} {m : Mem} {st : St TK} {a : Act} {w : World}
theorem grown_new (w : World) (o : Obj) : Grown w (w.drew.alloc o) none := ⟨rfl, rfl, rfl, by simp, fun k hk _ => Go.heap_alloc_old w.drew o hk, Nat.le_succ _⟩
theorem Src.drew {P : Program} {m : Mem} {e : Nat} {x : Value} {ys : List (List D)} (h : Src P m w e x ys) : Src P m w.drew e x ys := by
  obtain ⟨ad, c, news, h1, h2, h3, h4, h5⟩ := h.src
  exact ⟨ad, c, news, h1, h2, h3, h4, h5⟩
/-- data as what is appended -/
theorem Src.of_data {P : Program} (hm : MemOk m w) {x : Value} {ys : List (List D)} {ks : List K} (h : RepD m (.slice ys) x) (hk : ∀ y ∈ ys, HasKs ks y) (hflat : ks.all K.flat = true) : Src P m w ks.length x ys := by
  cases h with
  | empty ad c => exact ⟨ad, c, #[], rfl, by simp, ⟨by simp, by simp, by simp⟩, by simp, by simp⟩
  | slice _ b off arr t fz e c hc hcap hmb he hsz hv =>
    have hek : ∀ y ∈ ys, y.length = ks.length := fun y hy => (hk y hy).length
    by_cases hy0 : ys = []
    · subst hy0; exact ⟨_, c, #[], rfl, by simp, ⟨by simp, by simp, by simp⟩, by simp, by simp⟩
    · have hee : e = ks.length := by
        cases ys with
        | nil => exact absurd rfl hy0
        | cons y r => rw [← he y List.mem_cons_self]; exact hek y List.mem_cons_self
      subst hee
      have hst := stretch_length hsz
      have hfl : Flat m ks.length ys (stretch arr off (ys.length * ks.length)).toArray := by
        refine ⟨by simp [hst], hek, fun i j y d v hi hj hu => ?_⟩
        have hje : j < ks.length := by rw [← hek y (List.mem_of_getElem? hi)]; exact (List.getElem?_eq_some_iff.1 hj).1
        have hlt := (List.getElem?_eq_some_iff.1 hi).1
        have hb : i * ks.length + j < ys.length * ks.length := by
          calc i * ks.length + j < i * ks.length + ks.length := by omega
            _ = (i + 1) * ks.length := by rw [Nat.add_mul, Nat.one_mul]
            _ ≤ ys.length * ks.length := Nat.mul_le_mul_right _ (by omega)
        rw [List.getElem?_toArray, stretch_get hb] at hu
        exact hv i j y d v hi hj (by rw [← hu]; congr 1; omega)
      refine ⟨some ⟨b, off, none⟩, c, (stretch arr off (ys.length * ks.length)).toArray, rfl, by simp [hst], hfl, ?_, fun _ => ⟨_, rfl, fun j u hu => ?_⟩⟩
      · intro u hu
        simp only at hu
        obtain ⟨q, hq, rfl⟩ := List.mem_iff_getElem.1 hu
        have hq' : q < ys.length * ks.length := by rw [← hst]; exact hq
        have hk0 : 0 < ks.length := by
          cases hks : ks with
          | nil => rw [hks] at hq'; simp at hq'
          | cons => simp
        have hi : q / ks.length < ys.length := by rw [Nat.div_lt_iff_lt_mul hk0]; exact hq'
        have hj : q % ks.length < ks.length := Nat.mod_lt _ hk0
        have hyi : ys[q / ks.length]? = some ys[q / ks.length] := by simp [hi]
        have hyl := hek _ (List.mem_of_getElem? hyi)
        have hyj : ys[q / ks.length][q % ks.length]? = some (ys[q / ks.length][q % ks.length]'(by omega)) := by simp [hyl, hj]
        have hqe : q / ks.length * ks.length + q % ks.length = q := by rw [Nat.mul_comm]; exact Nat.div_add_mod q ks.length
        have hr := hfl.hv _ _ _ _ ((stretch arr off (ys.length * ks.length))[q]) hyi hyj (by rw [hqe]; simp [List.getElem?_eq_getElem hq])
        obtain ⟨d, hd, hkd⟩ := HasKs.get (hk _ (List.mem_of_getElem? hyi)) (i := q % ks.length) (k := ks[q % ks.length]) (by simp [hj])
        rw [hyj] at hd; cases hd
        have hkf : (ks[q % ks.length]).flat = true := (List.all_eq_true.1 hflat) _ (List.getElem_mem hj)
        revert hkd hkf hr
        generalize ys[q / ks.length][q % ks.length]'(by omega) = dd
        generalize ks[q % ks.length] = kk
        generalize (stretch arr off (ys.length * ks.length))[q] = vv
        intro hr hkd hkf
        cases hr <;> first | rfl | (cases kk <;> simp [HasK, K.flat] at hkd hkf)
      · have hjl : j < ys.length * ks.length := by
          have := (Array.getElem?_eq_some_iff.1 hu).1
          simpa [hst] using this
        rw [List.getElem?_toArray, stretch_get hjl] at hu
        rw [add_at, cell_at (hm _ _ hmb)]; exact hu
theorem first_zero {E : Env} {w : World} {k : Nat} (ad : Option Addr) : (Builtin.firstCells k 0 (.slice ad 0 0)).run E.P w.drew = .ok #[] w.drew := by
  cases ad <;> simp [Builtin.firstCells, loadCells, loadCellsFrom]
theorem ok_append_core (hf : Fits E σ m (denSt ρ st) a w) (hok : st.Ok ρ) {o : Oper} {c : Call} {x y : Operand} {tx el : TypeId} {info : TypeInfo} {z : Value} {ks : List K}
    (ho : o.op = .call c) (hc : c.callee = .builtin .append) (ha : c.args = #[x, y]) (ht : c.argTypes = #[tx, tx]) (hu : E.P.underlying tx = some (.slice el)) (hi : E.P.info? el = some info) (hz : info.zero = some z)
    (hks : info.size = ks.length) (hpos : 0 < info.size) (hzs : z.cells.size = ks.length) {s : T} {ys : List (List D)} (hys : den ρ s = .slice ys) (hsk : LOk ρ ⟨s, .slice ks⟩) (hsrc : Src E.P m w ks.length (a.eval y) ys)
    (base : T) (xs : List (List D)) (hbase : den ρ base = .slice xs) (hbk : LOk ρ ⟨base, .slice ks⟩) (objs0 : List (OV TK)) (facts : List T)
    (hbytes : (xs.length + ys.length) * info.bytes ≤ 140737488355328) (hlen : xs.length + ys.length ≤ cap)
    (hdst : ((∃ ad, a.eval x = .slice ad 0 0) ∧ xs = [] ∧ objs0 = st.objs) ∨
      ∃ ob e' z', st.objs[ob]? = some (.arr e' z') ∧ e' = ks.length ∧ z' = ⟨base, .slice ks⟩ ∧ RS σ m ρ (.own ob) (a.eval x) ∧ objs0 = setAt st.objs ob .dead) (ns : List T) :
    OpOk E ρ σ m st a w o ⟨ns, [], .own st.objs.length, some (objs0 ++ [.arr ks.length ⟨.o2 .app base s, .slice ks⟩])⟩ := by
  have happ : den ρ (.o2 .app base s) = .slice (xs ++ ys) := by simp only [den, hbase, hys, O2.eval]
  have kapp := hbk.app hsk
  have hnew : ∀ {σ' : Names} {w' : World}, RepO σ' m w' st.objs.length (.arr ks.length (.slice (xs ++ ys))) → RepO σ' m w' st.objs.length (OV.map (denL ρ) (.arr ks.length ⟨.o2 .app base s, .slice ks⟩)) := by
    intro σ' w' h
    simp only [OV.map, denL, happ]; exact h
  have hobjsOk : (∀ x ∈ objs0, OV.Ok ρ x) := by
    rcases hdst with ⟨_, _, rfl⟩ | ⟨ob, e', z', _, _, _, _, rfl⟩
    · exact hok.objs
    · intro q hq
      obtain ⟨i, hi', rfl⟩ := List.mem_iff_getElem.1 hq
      have := List.getElem?_eq_getElem hi'
      rcases getElem?_set_some this with ⟨_, h, _⟩ | ⟨_, h⟩
      · rw [h]; exact .dead
      · exact hok.objs _ (List.mem_of_getElem? h)
  have hall : ∀ q ∈ objs0 ++ [(.arr ks.length ⟨.o2 .app base s, .slice ks⟩ : OV TK)], OV.Ok ρ q := by
    intro q hq
    rcases List.mem_append.1 hq with hq | hq
    · exact hobjsOk q hq
    · simp at hq; subst hq; exact .arr kapp
  -- the run
  have main : ∃ v' w' row, (execOp a.eval o).run E.P w = .ok (.value v') w' ∧ Grown w w' row ∧ Fits E (σ.add st.objs.length v') m (denSt ρ ⟨st.tmps, objs0 ++ [.arr ks.length ⟨.o2 .app base s, .slice ks⟩]⟩) a w' := by
    have exec : ∀ {v' w'}, (Builtin.append_ #[tx, tx] o.type #[a.eval x, a.eval y]).run E.P w = .ok v' w' → (execOp a.eval o).run E.P w = .ok (.value v') w' := by
      intro v' w' h
      simp [execOp, ho, resolve, hc, ha, ht, invoke, builtin, h]
    obtain ⟨news, hnews, hnsz, hnfl, hn1⟩ := hsrc.first
    obtain ⟨news', hnews', hnsz', hnfl', hn1'⟩ := hsrc.drew.first
    have hxl := hsrc.len
    have hmx : xs.length + ys.length ≤ maxLen := by simp only [cap] at hlen; simp only [maxLen]; omega
    -- a new block
    have grown : ∀ (olds : Array Value) (sCap : Nat), olds.size = xs.length * ks.length → Flat m ks.length xs olds → sCap < xs.length + ys.length →
        ∀ σ' : Names, σ' st.objs.length = some (.slice (some ⟨w.heap.size, 0, none⟩) (xs.length + ys.length) (grownCap w (xs.length + ys.length) sCap el)) →
        RepO σ' m (w.drew.alloc (.cells (olds ++ news' ++ Builtin.zeroCells z.cells (grownCap w (xs.length + ys.length) sCap el - (xs.length + ys.length))) el)) st.objs.length (.arr ks.length (.slice (xs ++ ys))) := by
      intro olds sCap hosz hofl hlt σ' hσ
      have hge := grownCap_ge w (xs.length + ys.length) sCap el
      have hcm := grownCap_le_maxLen w (xs.length + ys.length) sCap el hmx
      have hσ' : σ' st.objs.length = some (.slice (some ⟨w.heap.size, 0, none⟩) (xs ++ ys).length (grownCap w (xs.length + ys.length) sCap el)) := by rw [hσ]; simp
      refine .arr hσ' (heap_alloc_new w.drew _) (by omega) (by simpa using hge) hcm (by simpa using hlen) ?_ ?_ ?_
      · simp only [Array.size_append, size_zeroCells, hosz, hnsz', hzs, ← Nat.add_mul]
        congr 1; omega
      · intro q hq; rcases List.mem_append.1 hq with hq | hq; exact hofl.he q hq; exact hnfl'.he q hq
      · have hfl := hofl.append hnfl' (arr' := olds ++ news' ++ Builtin.zeroCells z.cells (grownCap w (xs.length + ys.length) sCap el - (xs.length + ys.length)))
          (fun q hq => by rw [Array.append_assoc, Array.getElem?_append_left (by omega)])
          (fun q hq => by rw [Array.append_assoc, Array.getElem?_append_right (by omega), hosz, Nat.add_sub_cancel_left, Array.getElem?_append_left (by omega)])
          (by simp only [Array.size_append, hosz, hnsz', ← Nat.add_mul]; exact Nat.le_add_right _ _)
        exact hfl.hv
    rcases hdst with ⟨⟨ad, hev⟩, hx0, rfl⟩ | ⟨ob, e', z', hob, rfl, rfl, hown, rfl⟩
    · subst hx0
      by_cases hy0 : ys = []
      · subst hy0
        have hn0 : news = #[] := by apply Array.eq_empty_of_size_eq_zero; simpa using hnsz
        refine ⟨.slice ad 0 0, w, none, exec ?_, ⟨rfl, rfl, rfl, Nat.le_refl _, fun _ _ _ => rfl, Nat.le_refl _⟩, ?_⟩
        · rw [hev]
          subst hn0
          rw [← hks] at hnews
          simp only [List.length_nil] at hnews hxl
          cases ad <;> simp [Builtin.append_, run_underlying hu, sizeOf, typeInfo, hi, hxl, hnews, storeCells]
        · have := hf.addObj (w' := w) (v0 := .slice ad 0 0) (ov' := OV.map (denL ρ) (.arr ks.length ⟨.o2 .app base s, .slice ks⟩)) ⟨rfl, rfl, rfl, Nat.le_refl _, fun _ _ _ => rfl, Nat.le_refl _⟩ (by rw [denSt_len]; exact hnew (.none (by rw [names_add_self]))) (by simp [blk_zero]) rfl
          rw [denSt_len] at this
          rw [denSt_snoc]; exact this
      · have hyl : 0 < ys.length := List.length_pos_iff.2 hy0
        have hrun := run_append_grow' (P := E.P) w tx o.type el info z hu hi hz ad 0 0 #[] (first_zero ad) (a.eval y) ys.length news' hxl (by rw [hks]; exact hnews') (by omega)
          (by simp only [cap, List.length_nil] at hlen; omega) (growslice_fits (by omega) (by simpa using hbytes))
        rw [← hev] at hrun
        refine ⟨_, _, none, exec hrun, (grown_new w _), ?_⟩
        have := hf.addObj (w' := w.drew.alloc (.cells (#[] ++ news' ++ Builtin.zeroCells z.cells (grownCap w (0 + ys.length) 0 el - (0 + ys.length))) el))
          (v0 := .slice (some ⟨w.heap.size, 0, none⟩) (0 + ys.length) (grownCap w (0 + ys.length) 0 el)) (ov' := OV.map (denL ρ) (.arr ks.length ⟨.o2 .app base s, .slice ks⟩))
          (grown_new w _)
          (by rw [denSt_len]; exact hnew (grown #[] 0 (by simp) ⟨by simp, by simp, by simp⟩ (by simpa using hyl) _ (by rw [names_add_self]; simp))) (by intro b hb; simp only [blk] at hb; split at hb <;> cases hb; exact Nat.le_refl _) rfl
        rw [denSt_len] at this
        rw [denSt_snoc]; exact this
    · have hob' : (denSt ρ st).objs[ob]? = some (OV.map (denL ρ) (.arr ks.length ⟨base, .slice ks⟩)) := by simp [denSt, St.map, hob]
      have hrep := hf.objs ob _ hob'
      simp only [OV.map, denL, hbase] at hrep
      simp only [RS, SV.map] at hown
      have hset : denSt ρ ⟨st.tmps, setAt st.objs ob .dead ++ [.arr ks.length ⟨.o2 .app base s, .slice ks⟩]⟩ = ⟨(denSt ρ st).tmps, (denSt ρ st).objs.set ob .dead ++ [OV.map (denL ρ) (.arr ks.length ⟨.o2 .app base s, .slice ks⟩)]⟩ := by
        simp [denSt, St.map, setAt, List.map_set, OV.map]
      generalize hev : a.eval x = ev at *
      have hσ : σ ob = some ev := by cases hown; assumption
      have place : ∀ (v' : Value) (w' : World) (row : Option Nat), Grown w w' row → (∀ b, row = some b → (σ ob).bind blk = some b) → (∀ b, blk v' = some b → (σ ob).bind blk = some b ∨ w.heap.size ≤ b) →
          RepO (σ.add st.objs.length v') m w' st.objs.length (.arr ks.length (.slice (xs ++ ys))) →
          Fits E (σ.add st.objs.length v') m (denSt ρ ⟨st.tmps, setAt st.objs ob .dead ++ [.arr ks.length ⟨.o2 .app base s, .slice ks⟩]⟩) a w' := by
        intro v' w' row hg hr hb h'
        have := hf.moveObj (v0 := v') (ov' := OV.map (denL ρ) (.arr ks.length ⟨.o2 .app base s, .slice ks⟩)) hob' rfl hg hr (by rw [denSt_len]; exact hnew h') hb rfl
        rw [denSt_len] at this
        rw [hset]; exact this
      cases hrep with
      | none hs =>
        rename_i ad
        rw [hs] at hσ; cases hσ
        by_cases hy0 : ys = []
        · subst hy0
          have hn0 : news = #[] := by apply Array.eq_empty_of_size_eq_zero; simpa using hnsz
          refine ⟨.slice ad 0 0, w, none, exec ?_, ⟨rfl, rfl, rfl, Nat.le_refl _, fun _ _ _ => rfl, Nat.le_refl _⟩, place _ _ none ⟨rfl, rfl, rfl, Nat.le_refl _, fun _ _ _ => rfl, Nat.le_refl _⟩ (by simp) (by simp [blk_zero]) (.none (by rw [names_add_self]))⟩
          subst hn0
          rw [← hks] at hnews
          simp only [List.length_nil] at hnews hxl
          cases ad <;> simp [Builtin.append_, run_underlying hu, sizeOf, typeInfo, hi, hxl, hnews, storeCells]
        · have hyl : 0 < ys.length := List.length_pos_iff.2 hy0
          have hrun := run_append_grow' (P := E.P) w tx o.type el info z hu hi hz ad 0 0 #[] (first_zero ad) (a.eval y) ys.length news' hxl (by rw [hks]; exact hnews') (by omega)
            (by simp only [cap, List.length_nil] at hlen; omega) (growslice_fits (by omega) (by simpa using hbytes))
          refine ⟨_, _, none, exec hrun, (grown_new w _), place _ _ none (grown_new w _) (by simp) (by intro b hb; simp only [blk] at hb; split at hb <;> cases hb; right; exact Nat.le_refl _) ?_⟩
          exact grown #[] 0 (by simp) ⟨by simp, by simp, by simp⟩ (by simpa using hyl) _ (by rw [names_add_self]; simp)
      | arr hs hb h0c hcc hcm hcap hsz he hv =>
        rename_i b cp cur bt
        rw [hs] at hσ; cases hσ
        have hfl : Flat m ks.length xs cur := ⟨by rw [hsz]; exact Nat.mul_le_mul_right _ hcc, he, hv⟩
        by_cases hroom : xs.length + ys.length ≤ cp
        · have hfit : xs.length * info.size + news.toList.length ≤ cur.size := by
            rw [hks, hsz]; simp only [Array.length_toList, hnsz, ← Nat.add_mul]; exact Nat.mul_le_mul_right _ hroom
          have hrun := run_append_room' (P := E.P) w tx o.type el bt info hu hi b xs.length cp cur hb (a.eval y) ys.length news.toList hxl (by rw [hks]; simpa using hnews) hn1 hroom hfit
          refine ⟨_, _, some b, exec hrun, ⟨rfl, rfl, rfl, by simp [World.setRow], fun k hk hne => setRow_other w b k _ (fun e => hne (by simp [e])), Nat.le_refl _⟩,
            place _ _ (some b) ⟨rfl, rfl, rfl, by simp [World.setRow], fun k hk hne => setRow_other w b k _ (fun e => hne (by simp [e])), Nat.le_refl _⟩ (by intro q hq; cases hq; simp only [hs, Option.bind_some]; exact blk_slice h0c) (by intro q hq; rw [blk_slice h0c] at hq; left; simp only [hs, Option.bind_some]; rw [blk_slice h0c]; exact hq) ?_⟩
          have hl1 : (cur.toList.take (xs.length * info.size)).length = xs.length * ks.length := by rw [hks]; simp only [List.length_take, Array.length_toList]; exact Nat.min_eq_left hfl.fit
          have hsz2 : (cur.toList.take (xs.length * info.size) ++ news.toList ++ cur.toList.drop (xs.length * info.size + news.toList.length)).length = cur.size := by
            simp only [List.length_append, hl1, List.length_drop, Array.length_toList]; rw [hks] at hfit ⊢; simp at hfit ⊢; omega
          refine .arr (b := b) (c := cp) (by rw [names_add_self]; simp) (setRow_heap w b cur _ bt (0, 0) hb) h0c (by simpa using hroom) hcm (by simpa using hlen) (by simp only [List.size_toArray, hsz2, hsz]) ?_ ?_
          · intro q hq; rcases List.mem_append.1 hq with hq | hq; exact he q hq; exact hnfl.he q hq
          · have hfl2 := hfl.append hnfl (arr' := (cur.toList.take (xs.length * info.size) ++ news.toList ++ cur.toList.drop (xs.length * info.size + news.toList.length)).toArray)
              (fun q hq => by
                rw [List.getElem?_toArray, List.append_assoc, List.getElem?_append_left (by omega), List.getElem?_take, if_pos (by rw [hks]; exact hq)]; simp)
              (fun q hq => by
                rw [List.getElem?_toArray, List.append_assoc, List.getElem?_append_right (by omega), hl1, Nat.add_sub_cancel_left, List.getElem?_append_left (by simp; omega)]; simp)
              (by simp only [List.size_toArray, hsz2, hsz]; exact Nat.mul_le_mul_right _ hroom)
            exact hfl2.hv
        · have hst := stretch_length (arr := cur) (off := 0) (n := xs.length * ks.length) (by simpa using hfl.fit)
          have holds : (Builtin.firstCells info.size xs.length (.slice (some ⟨b, 0, none⟩) xs.length cp)).run E.P w.drew = .ok (stretch cur 0 (xs.length * ks.length)).toArray w.drew := by
            refine run_firstCells_some (P := E.P) w.drew info.size xs.length ⟨b, 0, none⟩ xs.length cp _ (by rw [hst, hks]) (fun j v hj => ?_)
            have hjl : j < xs.length * ks.length := by rw [← hst]; exact (List.getElem?_eq_some_iff.1 hj).1
            rw [stretch_get hjl] at hj
            rw [add_at]
            exact (cell_at (w := w) hb).trans hj
          have hrun := run_append_grow' (P := E.P) w tx o.type el info z hu hi hz (some ⟨b, 0, none⟩) xs.length cp _ holds (a.eval y) ys.length news' hxl (by rw [hks]; exact hnews') (by omega)
            (by simp only [cap] at hlen; omega) (growslice_fits (by omega) hbytes)
          refine ⟨_, _, none, exec hrun, (grown_new w _), place _ _ none (grown_new w _) (by simp) (by intro q hq; simp [blk] at hq; right; omega) ?_⟩
          exact grown _ cp (by simp [hst]) (hfl.of_cells (fun q hq => by rw [List.getElem?_toArray, stretch_get hq]; simp) (by simp [hst])) (by omega) _ (by rw [names_add_self])
  obtain ⟨v', w', row, hrun, hg, hfits⟩ := main
  refine ⟨v', w', σ.add st.objs.length v', m, ?_, Mem.le_refl m, .inl hrun, by simpa using hfits, .own (names_add_self _ _ _), .own, by simpa using hall, by simp, by simp⟩
  have := Names.le_add hf.dom (Nat.le_refl _) v'
  rw [denSt_len] at this
  exact this
end
end Go.Sx
namespace Go.Sx
open Go Go.RowKit
section
variable {E : Env} {ρ : List D} {σ : Names} {m : Mem} {st : St TK} {a : Act} {w : World}
/-- elements of an array of one's own as what is appended -/
theorem Src.of_own (hf : Fits E σ m (denSt ρ st) a w) {ob : Nat} {ks : List K} {z : T} {x : Value} {ys : List (List D)} (hob : st.objs[ob]? = some (.arr ks.length ⟨z, .slice ks⟩)) (hd : den ρ z = .slice ys)
    (hk : ∀ y ∈ ys, HasKs ks y) (hflat : ks.all K.flat = true) (h : RS σ m ρ (.own ob) x) : Src E.P m w ks.length x ys := by
  have hr := hf.objs ob _ (by simp [denSt, St.map, hob]; rfl)
  simp only [OV.map, denL, hd] at hr
  simp only [RS, SV.map] at h
  cases h with
  | own hσ =>
    cases hr with
    | none hs => rw [hs] at hσ; cases hσ; exact ⟨_, 0, #[], rfl, by simp, ⟨by simp, by simp, by simp⟩, by simp, by simp⟩
    | arr hs hb h0c hc hcc hcap hsz he hv =>
      rename_i b c arr bt
      rw [hs] at hσ; cases hσ
      -- as data in the memory that holds this block
      have hm' : MemOk (fun b' => if b' = b then some (.cells arr bt (0, 0)) else m b') w := by
        intro b' o' h'
        simp only at h'
        split at h'
        · rename_i e; subst e; cases h'; exact hb
        · exact hf.mem b' o' h'
      have hdata : RepD (fun b' => if b' = b then some (.cells arr bt (0, 0)) else m b') (.slice ys) (.slice (some ⟨b, 0, none⟩) ys.length c) := by
        refine .slice ys b 0 arr bt (0, 0) ks.length c hc hcap (by simp) he (by rw [hsz]; simp; exact Nat.mul_le_mul_right _ hc) fun i j x d v hi hj hu => ?_
        refine (hv i j x d v hi hj (by rw [← hu]; congr 1; omega)).mono ?_
        intro b' o' h'
        simp only
        split
        · rename_i e
          subst e
          have := hf.sep ob _ b' (by simp [denSt, St.map, hob]; rfl) rfl (by simp only [hs, Option.bind_some]; exact blk_slice h0c)
          rw [this.1] at h'; cases h'
        · exact h'
      have hsrc := Src.of_data (P := E.P) hm' hdata hk hflat
      obtain ⟨ad, c', news, h1, h2, h3, h4, h5⟩ := hsrc.src
      refine ⟨ad, c', news, h1, h2, ⟨h3.fit, h3.he, fun i j y d v hi hj hu => ?_⟩, h4, h5⟩
      -- the cells lie in the block: read them there
      simp only [Value.slice.injEq] at h1
      obtain ⟨rfl, _, rfl⟩ := h1
      have hy0 : ys ≠ [] := by intro e; subst e; simp at hi
      obtain ⟨b2, hb2, hc2⟩ := h5 hy0
      cases hb2
      have := hc2 _ _ hu
      rw [add_at, cell_at hb, Nat.zero_add] at this
      exact hv i j y d v hi hj this
section ops
variable (hf : Fits E σ m (denSt ρ st) a w) (hok : st.Ok ρ) {g : Option T} (hg : ∀ c, g = some c → den ρ c = .bool true) {o : Oper} {s : Sym}
include hf hok hg
theorem asT_slice {sv : SV TK} {ks : List K} {t : T} {x : Value} (h : asT st.objs (.slice ks) sv = some t) (hr : RS σ m ρ sv x) (hk : SV.Ok ρ sv) : LOk ρ ⟨t, .slice ks⟩ ∧ RepD m (den ρ t) x := by
  have := allT_ok hf hok (ks := [.slice ks]) (vs := [sv]) (ts := [t]) (by simp [allT, h]) (by intro v hv; simp at hv; subst hv; exact hk)
  obtain ⟨_, _, l3, l4⟩ := this
  obtain ⟨t', ht', hd⟩ := l4 0 sv x rfl hr
  simp at ht'
  subst ht'
  exact ⟨⟨by have := l3.1; simp [HasKs] at this; exact this, l3.2 t (by simp)⟩, hd⟩
theorem ok_append {c : Call} {x y : Operand} {tx ty : TypeId} (ho : o.op = .call c) (hc : c.callee = .builtin .append) (hargs : c.args.toList = [x, y]) (hty : c.argTypes.toList = [tx, ty])
    (h : sxOp E.P g st o = some s) (hn : ∀ t ∈ s.needs, den ρ t = .bool true) : OpOk E ρ σ m st a w o s := by
  have hx := opnd_ok hf hok hg x
  have hy := opnd_ok hf hok hg y
  have ha : c.args = #[x, y] := by rw [← Array.toArray_toList (xs := c.args), hargs]
  have ht : c.argTypes = #[tx, ty] := by rw [← Array.toArray_toList (xs := c.argTypes), hty]
  simp only [sxOp, ho, hc, hargs, hty] at h
  generalize thaw st.objs (unguard g (look st x)) = xx at *
  generalize thaw st.objs (unguard g (look st y)) = yy at *
  split at h <;> try contradiction
  rename_i htt
  simp only [beq_iff_eq] at htt
  subst htt
  split at h <;> try contradiction
  rename_i el hu
  split at h <;> try contradiction
  rename_i ks info hks hi
  rcases hz : info.zero with _ | z
  · simp [hz] at h
  simp only [hz] at h
  split at h <;> try contradiction
  rename_i hcond
  simp only [Bool.and_eq_true, beq_iff_eq, decide_eq_true_eq] at hcond
  obtain ⟨⟨⟨c1, c2⟩, c3⟩, hzs⟩ := hcond
  -- the source
  have src : ∀ {t : T}, srcT st.objs ks yy = some t → LOk ρ ⟨t, .slice ks⟩ ∧ ∃ ys, den ρ t = .slice ys ∧ Src E.P m w ks.length (a.eval y) ys := by
    intro t hsrc
    simp only [srcT] at hsrc
    split at hsrc
    · rename_i ob
      split at hsrc <;> try contradiction
      rename_i e' zz hob
      split at hsrc <;> try contradiction
      rename_i hb
      cases hsrc
      simp only [Bool.and_eq_true, beq_iff_eq] at hb
      obtain ⟨rfl, hb2⟩ := hb
      have hb2 := K.eq_of_beq hb2
      have ho' := obj_of hf hok hg hob
      have hkz : LOk ρ zz := by have := ho'.2; cases this; assumption
      cases zz with
      | mk t k =>
        simp only at hb2
        subst hb2
        obtain ⟨ys, hys, hel⟩ := hkz.1.slice_inv
        simp only at hys
        exact ⟨hkz, ys, hys, Src.of_own hf hob hys hel c3 hy.1⟩
    · obtain ⟨k1, k2⟩ := asT_slice hf hok hg hsrc hy.1 hy.2
      obtain ⟨ys, hys, hel⟩ := k1.1.slice_inv
      simp only at hys
      rw [hys] at k2
      exact ⟨k1, ys, hys, Src.of_data hf.mem k2 hel c3⟩
  split at h <;> try contradiction
  · rename_i t hsrc
    cases h
    obtain ⟨kt, ys, hys, hS⟩ := src hsrc
    have hp := hx.1
    simp only [RS, SV.map] at hp
    generalize hev : a.eval x = ev at hp
    cases hp
    have b1 := hn _ List.mem_cons_self
    simp only [sxOp.fitsT, den, hys, O2.eval, O1.eval, D.bool.injEq, decide_eq_true_eq, List.nil_append] at b1
    have hbounds : ys.length * info.bytes ≤ 140737488355328 ∧ ys.length ≤ cap := by
      split at b1
      · rename_i h0; rw [h0]; simp only [Nat.mul_zero]; exact ⟨by omega, by omega⟩
      · rename_i h0
        have hb : ys.length ≤ cap / info.bytes := by omega
        have h1 : ys.length * info.bytes ≤ cap := Nat.le_trans (Nat.mul_le_mul_right _ hb) (Nat.div_mul_le_self _ _)
        exact ⟨by simpa [cap] using h1, Nat.le_trans hb (Nat.div_le_self _ _)⟩
    exact ok_append_core hf hok ho hc ha ht hu hi hz c1 c2 hzs hys kt hS .nils [] rfl (.nils ks) st.objs [] (by simpa using hbounds.1) (by simpa using hbounds.2) (.inl ⟨⟨_, hev⟩, rfl, rfl⟩) _
  · rename_i ob t hsrc
    split at h <;> try contradiction
    rename_i e' zz hob
    split at h <;> try contradiction
    rename_i hb
    cases h
    simp only [Bool.and_eq_true, beq_iff_eq] at hb
    obtain ⟨rfl, hb2⟩ := hb
    have hb2 := K.eq_of_beq hb2
    obtain ⟨kt, ys, hys, hS⟩ := src hsrc
    have ho' := obj_of hf hok hg hob
    have hkz : LOk ρ zz := by have := ho'.2; cases this; assumption
    cases zz with
    | mk bt k =>
      simp only at hb2
      subst hb2
      obtain ⟨xs, hxs, hel⟩ := hkz.1.slice_inv
      simp only at hxs
      have b1 := hn _ List.mem_cons_self
      simp only [sxOp.fitsT, den, hxs, hys, O2.eval, O1.eval, D.bool.injEq, decide_eq_true_eq, List.length_append] at b1
      have hbounds : (xs.length + ys.length) * info.bytes ≤ 140737488355328 ∧ xs.length + ys.length ≤ cap := by
        split at b1
        · rename_i h0; rw [h0]; simp only [Nat.mul_zero]; exact ⟨by omega, by omega⟩
        · rename_i h0
          have hb : xs.length + ys.length ≤ cap / info.bytes := by omega
          have h1 : (xs.length + ys.length) * info.bytes ≤ cap := Nat.le_trans (Nat.mul_le_mul_right _ hb) (Nat.div_mul_le_self _ _)
          exact ⟨by simpa [cap] using h1, Nat.le_trans hb (Nat.div_le_self _ _)⟩
      exact ok_append_core hf hok ho hc ha ht hu hi hz c1 c2 hzs hys kt hS bt xs hxs hkz _ [] hbounds.1 hbounds.2 (.inr ⟨ob, _, _, hob, rfl, rfl, hx.1, rfl⟩) _
theorem ok_makeSlice {t : TypeId} {x y : Operand} (ho : o.op = .makeSlice t x y) (h : sxOp E.P g st o = some s) (hn : ∀ t ∈ s.needs, den ρ t = .bool true) : OpOk E ρ σ m st a w o s := by
  have hx := opnd_ok hf hok hg x
  have hy := opnd_ok hf hok hg y
  simp only [sxOp, ho] at h
  generalize thaw st.objs (unguard g (look st x)) = xx at *
  generalize thaw st.objs (unguard g (look st y)) = yy at *
  split at h <;> try contradiction
  rename_i el lt k ct k' hu
  split at h <;> try contradiction
  rename_i ks info hks hi
  split at h <;> try contradiction
  rename_i z hz
  split at h <;> try contradiction
  rename_i cs hcs
  split at h <;> try contradiction
  rename_i ts hts
  split at h <;> try contradiction
  rename_i hc
  cases h
  simp only [Bool.and_eq_true, beq_iff_eq] at hc
  obtain ⟨⟨c1, c2⟩, c3⟩ := hc
  have kl := all_d hx.2
  have kc := all_d hy.2
  obtain ⟨n, hnd, hnv, n1, n2⟩ := RS.int hx.1 kl
  obtain ⟨c, hcd, hcv, q1, q2⟩ := RS.int hy.1 kc
  have b1 := hn _ List.mem_cons_self
  have b2 := hn _ (List.mem_cons_of_mem _ List.mem_cons_self)
  have b3 := hn _ (List.mem_cons_of_mem _ (List.mem_cons_of_mem _ List.mem_cons_self))
  simp only [den, hnd, hcd, O2.eval, D.bool.injEq, decide_eq_true_eq] at b1 b2 b3
  have hbounds : (info.bytes : Int) * c ≤ 281474976710656 ∧ c ≤ cap := by
    split at b3
    · rename_i h0; rw [h0]; exact ⟨by omega, b3⟩
    · rename_i h0
      have h1 : c.toNat ≤ cap / info.bytes := by omega
      have h2 : c.toNat * info.bytes ≤ cap := Nat.le_trans (Nat.mul_le_mul_right _ h1) (Nat.div_mul_le_self _ _)
      have h3 : c.toNat ≤ cap := Nat.le_trans h1 (Nat.div_le_self _ _)
      refine ⟨?_, by omega⟩
      have h4 : (info.bytes : Int) * c = ((c.toNat * info.bytes : Nat) : Int) := by
        have : c = (c.toNat : Int) := by omega
        rw [Int.natCast_mul, ← this, Int.mul_comm]
      rw [h4]; simp only [cap] at h2; omega
  have run := run_make (P := E.P) w t el info z hu hi hz k k' n c b1 b2 hbounds.1 (by have := hbounds.2; simp only [cap] at this; omega)
  -- the zero cells as data
  obtain ⟨l1, l2, l3, l4⟩ := zeroCells_ok (σ := σ) (m := m) (ρ := ρ) hcs
  have hempty : ∀ q : SV TK, ∀ kk tt, asT [] kk q = some tt → asT st.objs kk q = some tt := by
    intro q kk tt hq
    cases q with
    | d x => exact hq
    | nil => exact hq
    | own o => simp [asT] at hq
    | ptr o off => simp [asT] at hq
    | _ => simp [asT] at hq
  have hts' : allT st.objs ks cs = some ts := by
    clear l1 l2 l3 l4 hcs c1 c2 c3 hks hn b3
    induction ks generalizing cs ts with
    | nil => cases cs <;> simp_all [allT]
    | cons k ks ih =>
      cases cs with
      | nil => simp [allT] at hts
      | cons q cs =>
        simp only [allT] at hts ⊢
        split at hts <;> try contradiction
        rename_i t1 ts1 h1 h2
        cases hts
        rw [hempty _ _ _ h1, ih _ _ h2]
  obtain ⟨r1, r2, r3, r4⟩ := allT_ok hf hok hts' l4
  have hmax : c.toNat ≤ maxLen := by have := hbounds.2; simp only [cap] at this; simp only [maxLen]; omega
  have hrep : LOk ρ ⟨.rep lt (T.list ts), .slice ks⟩ := by
    refine .mk' (d := .slice (List.replicate n.toNat (ts.map (den ρ)))) (by simp only [den, hnd, den_list, D.list, D.rep]) (.mk_slice ?_) fun rs => by simp only [den]; rw [kl.2 rs, (LOk.list r3.1 r3.2).2 rs]
    intro q hq
    rw [List.eq_of_mem_replicate hq]; exact r3.1
  refine .new hf hok (v0 := .slice (some ⟨w.heap.size, 0, none⟩) n.toNat c.toNat) (arr := madeCells z.cells (c.toNat * info.size)) (t := el) ?_ (fun b hb => blk_new hf hok hg hb) ?_ (fun σ' h' => .own h') .own (.arr hrep) (by simp)
  · simp only [execOp, ho, hnv, hcv]; simp [run]
  · simp only [OV.map]
    have hd : denL ρ ⟨.rep lt (T.list ts), .slice ks⟩ = .slice (List.replicate n.toNat (ts.map (den ρ))) := by simp only [denL, den, hnd, den_list, D.list, D.rep]
    rw [hd]
    have hlen : (List.replicate n.toNat (ts.map (den ρ))).length = n.toNat := by simp
    rcases Nat.eq_zero_or_pos c.toNat with hc0 | hc0
    · have hn0 : n.toNat = 0 := by omega
      rw [hn0, List.replicate_zero]
      exact .none (by rw [names_add_self, hc0])
    refine .arr (b := w.heap.size) (c := c.toNat) (by rw [names_add_self, hlen]) (heap_new w _) hc0 (by rw [hlen]; omega) hmax (by rw [hlen]; have := hbounds.2; omega) (by rw [size_madeCells, c1]) ?_ ?_
    · intro q hq; rw [List.eq_of_mem_replicate hq]; simp [r1]; omega
    · intro i j q d v hiq hj hv
      have hi' : i < n.toNat := by simpa using (List.getElem?_eq_some_iff.1 hiq).1
      rw [List.getElem?_replicate, if_pos hi'] at hiq
      cases hiq
      simp only [List.getElem?_map, Option.map_eq_some_iff] at hj
      obtain ⟨t1, ht1, rfl⟩ := hj
      have hj' : j < ks.length := by have := (List.getElem?_eq_some_iff.1 ht1).1; omega
      have hlt : i * ks.length + j < c.toNat * info.size := by
        rw [c1]
        calc i * ks.length + j < i * ks.length + ks.length := by omega
          _ = (i + 1) * ks.length := by rw [Nat.add_mul, Nat.one_mul]
          _ ≤ c.toNat * ks.length := Nat.mul_le_mul_right _ (by omega)
      have hzj : z.cells[j]? = some v := by
        simp only [madeCells, Array.getElem?_map, Array.getElem?_range, if_pos hlt, Option.map_some, Option.some.injEq, c2] at hv
        have hmod : (i * ks.length + j) % ks.length = j := by rw [Nat.mul_comm, Nat.mul_add_mod, Nat.mod_eq_of_lt hj']
        rw [hmod] at hv
        have hjz : j < z.cells.size := by omega
        rw [← hv]; simp [hjz]
      have hcj : j < cs.length := by omega
      obtain ⟨t', ht', hr'⟩ := r4 j _ v (List.getElem?_eq_getElem hcj) (l3 j _ v (List.getElem?_eq_getElem hcj) (by simpa using hzj))
      rw [ht1] at ht'; cases ht'; exact hr'
end ops
end
end Go.Sx
namespace Go.Sx
open Go Go.RowKit
theorem splice_eq (arr : Array Value) (off : Nat) (vs : List Value) (h : off + vs.length ≤ arr.size) : (arr.toList.take off ++ vs ++ arr.toList.drop (off + vs.length)).toArray = putCells arr off vs := by
  apply Array.ext_getElem?
  intro q
  rw [putCells_get _ _ _ h]
  simp only [List.getElem?_toArray, List.append_assoc]
  have hlen : (arr.toList.take off).length = off := by simp; omega
  rw [List.getElem?_append, hlen]
  by_cases h1 : q < off
  · rw [if_pos h1, if_neg (by omega), List.getElem?_take, if_pos h1]; simp
  · rw [if_neg h1, List.getElem?_append]
    by_cases h2 : q - off < vs.length
    · rw [if_pos h2, if_pos (by omega)]
    · rw [if_neg h2, if_neg (by omega), List.getElem?_drop]
      simp; congr 1; omega
theorem run_storeAt {P : Program} {w : World} {t : TypeId} {b off : Nat} {arr : Array Value} {bt : TypeId} {u : Value} {i : TypeInfo} (hi : P.info? t = some i) (hn : u.cells.size = i.size)
    (hb : w.heap[b]? = some (.cells arr bt (0, 0))) (h : off + u.cells.size ≤ arr.size) (h1 : ∀ v ∈ u.cells.toList, v.oneCell' = true) :
    (Instr.storeAt t (.pointer (some ⟨b, off, none⟩)) u).run P w = .ok () (w.setRow b (putCells arr off u.cells.toList)) := by
  have hst := run_storeCells_at P b off bt u.cells.toList 0 arr w hb (by simpa using h) h1
  simp only [Nat.add_zero] at hst
  rw [splice_eq _ _ _ (by simpa using h)] at hst
  simp [Instr.storeAt, Instr.sureAddr, storeVar, sizeOf, typeInfo, hi, hn, hst]
theorem grownBy_setRow (w : World) (b : Nat) (cs : Array Value) : Grown w (w.setRow b cs) (some b) :=
  ⟨rfl, rfl, rfl, by simp [World.setRow], fun k _ hne => setRow_other w b k _ (fun e => hne (by simp [e])), Nat.le_refl _⟩
theorem setCells_get {x e : List D} {j : Nat} (h : j + e.length ≤ x.length) (q : Nat) : (setCells x j e)[q]? = if j ≤ q ∧ q < j + e.length then e[q - j]? else x[q]? := by
  unfold setCells
  have hlen : (x.take j).length = j := by simp; omega
  rw [List.append_assoc, List.getElem?_append, hlen]
  by_cases h1 : q < j
  · rw [if_pos h1, if_neg (by omega), List.getElem?_take, if_pos h1]
  · rw [if_neg h1, List.getElem?_append]
    by_cases h2 : q - j < e.length
    · rw [if_pos h2, if_pos (by omega)]
    · rw [if_neg h2, if_neg (by omega), List.getElem?_drop]
      congr 1; omega
theorem setCells_length {x e : List D} {j : Nat} (h : j + e.length ≤ x.length) : (setCells x j e).length = x.length := by
  simp [setCells]; omega
section
variable {E : Env} {ρ : List D} {σ : Names} {m : Mem} {st : St TK} {a : Act} {w : World}
section ops
variable (hf : Fits E σ m (denSt ρ st) a w) (hok : st.Ok ρ) {g : Option T} (hg : ∀ c, g = some c → den ρ c = .bool true) {o : Oper} {s : Sym}
include hf hok hg
theorem ok_store {t : TypeId} {x y : Operand} (ho : o.op = .store t x y) (h : sxOp E.P g st o = some s) : OpOk E ρ σ m st a w o s := by
  have hx := opnd_ok hf hok hg x
  have hy := opnd_ok hf hok hg y
  simp only [sxOp, ho] at h
  generalize thaw st.objs (unguard g (look st x)) = xx at *
  generalize thaw st.objs (unguard g (look st y)) = yy at *
  split at h <;> try contradiction
  rename_i hc
  simp only [Bool.and_eq_true, beq_iff_eq, Option.isSome_iff_exists] at hc
  obtain ⟨⟨c1, i, hi⟩, c3⟩ := hc
  have hval : isVal st.objs yy = true := by
    cases yy with
    | agg cs => rfl
    | _ => simp [cellsOf] at c3; simpa [isVal] using c3
  obtain ⟨k1, k2, k3⟩ := cellsOf_ok hf hok hg hy.1 hy.2 hval
  have hone : ∀ v ∈ (a.eval y).cells.toList, v.oneCell' = true := by
    intro v hv
    obtain ⟨q, hq, rfl⟩ := List.mem_iff_getElem.1 hv
    have hq1 : q < (a.eval y).cells.size := by simpa using hq
    have hq2 : q < (cellsOf yy).length := by omega
    have hm := List.getElem_mem hq2
    exact isCell_one hf hok hg (List.all_eq_true.1 c3 _ hm) (k2 q _ _ (List.getElem?_eq_getElem hq2) (by simp [hq1])) (k3 _ hm)
  have hsz : (a.eval y).cells.size = i.size := by rw [k1, c1, cellsOf_info hi]
  have run : ∀ {b off : Nat} {arr : Array Value} {bt : TypeId}, a.eval x = .pointer (some ⟨b, off, none⟩) → w.heap[b]? = some (.cells arr bt (0, 0)) → off + (cellsOf yy).length ≤ arr.size →
      (execOp a.eval o).run E.P w = .ok .skip (w.setRow b (putCells arr off (a.eval y).cells.toList)) := by
    intro b off arr bt hev hb hfit
    have := run_storeAt (P := E.P) (t := t) (off := off) (u := a.eval y) hi hsz hb (by omega) hone
    simp only [execOp, ho, hev]; simp [this]
  have fin : ∀ {ob b : Nat} {ov ov' : OV TK} {cs : Array Value}, st.objs[ob]? = some ov → ov.alive = true → (σ ob).bind blk = some b → (execOp a.eval o).run E.P w = .ok .skip (w.setRow b cs) →
      RepO σ m (w.setRow b cs) ob (ov'.map (denL ρ)) → OV.Ok ρ ov' → (ov'.map (denL ρ)).alive = true → OpOk E ρ σ m st a w o ⟨[], [], .any, some (setAt st.objs ob ov')⟩ := by
    intro ob b ov ov' cs hob hal hb hrun hrep hall hal2
    refine ⟨undef, _, σ, m, Names.le_refl σ, Mem.le_refl m, .inr ⟨hrun, rfl⟩, ?_, .any, .any, ?_, by simp, by simp⟩
    · simp only [Option.getD_some, setAt]
      rw [denSt_set]
      refine hf.update (o := ob) (ov := ov.map (denL ρ)) (b := b) (by simp [denSt, St.map, hob]) ?_ hb (grownBy_setRow w b cs) hrep (.inl hal2)
      cases ov <;> first | rfl | (simp [OV.alive] at hal)
    · intro z hz
      simp only [Option.getD_some, setAt] at hz
      rcases List.mem_or_eq_of_mem_set hz with hz | rfl
      · exact hok.objs z hz
      · exact hall
  split at h <;> try contradiction
  · rename_i ob off
    split at h <;> try contradiction
    rename_i old hob
    split at h <;> try contradiction
    rename_i hfit
    cases h
    have ho' := obj_of hf hok hg hob
    have hr := ho'.1
    have hka := ho'.2
    simp only [OV.map] at hr
    generalize hold : old.map (SV.map (denL ρ)) = dold at hr
    have hp := hx.1
    simp only [RS, SV.map] at hp
    generalize hev : a.eval x = ev at hp
    cases hr with
    | box hs hb hsz2 hv =>
    rename_i b arr bt
    cases hp with
    | ptr hσ =>
    rw [hs] at hσ; cases hσ
    have hsz3 : arr.size = old.length := by rw [hsz2, ← hold]; simp
    have hv' : ∀ (i : Nat) c v, old[i]? = some c → arr[i]? = some v → RS σ m ρ c v := by
      intro i c v hc hv1
      exact hv i _ v (by rw [← hold]; simp [hc]) hv1
    have hka' : ∀ c ∈ old, SV.Ok ρ c := by cases hka; assumption
    obtain ⟨s1, s2⟩ := splice_ok (σ := σ) (m := m) (ρ := ρ) (off := off) hsz3 hv' (vs := (a.eval y).cells.toList) (by simpa using k1) (by simpa using k2) (by omega)
    rw [c1] at s1 s2
    refine fin hob rfl (b := b) (by simp [hs, blk]) (run hev hb (by omega)) ?_ (.box fun c hc => ?_) rfl
    · simp only [OV.map]
      refine .box hs (setRow_heap w b arr _ bt (0, 0) hb) (by rw [s1]; simp) fun i c v hc hv1 => ?_
      rw [List.getElem?_map, Option.map_eq_some_iff] at hc
      obtain ⟨c', hc', rfl⟩ := hc
      exact s2 i c' v hc' hv1
    · rcases mem_splice hc with h' | h'
      · exact hka' c h'
      · exact k3 c h'
  · rename_i ob ix e off
    split at h <;> try contradiction
    rename_i e' z hob
    split at h <;> try contradiction
    rename_i ks hzk
    split at h <;> try contradiction
    rename_i hcond
    simp only [Bool.and_eq_true, beq_iff_eq, decide_eq_true_eq] at hcond
    obtain ⟨⟨⟨q1, q2⟩, q3⟩, q4⟩ := hcond
    split at h <;> try contradiction
    rename_i ts hts
    cases h
    subst q1
    have ho' := obj_of hf hok hg hob
    have hr := ho'.1
    have hkz : LOk ρ z := by have := ho'.2; cases this; assumption
    cases z with
    | mk zt zk =>
    simp only at hzk hts
    subst hzk
    obtain ⟨xs, hxs, hel⟩ := hkz.1.slice_inv
    simp only at hxs
    have hd : denL ρ ⟨zt, .slice ks⟩ = .slice xs := hxs
    simp only [OV.map, hd] at hr
    have hp := hx.1
    simp only [RS, SV.map] at hp
    have hki : LOk ρ ix := by have := hx.2; cases this; assumption
    generalize hdi : denL ρ ix = di at hp
    generalize hev : a.eval x = ev at hp
    cases hp with
    | oelt h0 hn hσ =>
    rename_i b n c0 k iv
    cases hr with
    | none hs => rw [hs] at hσ; cases hσ; simp at hn
    | arr hs hb h0c hc hcc hcap hsz2 he hv =>
    rename_i b2 c arr bt
    rw [hs] at hσ; cases hσ
    obtain ⟨l1, l2, l3, l4⟩ := allT_ok hf hok hts k3
    have hlen : ts.length = (cellsOf yy).length := l1
    have hlt : iv.toNat < xs.length := hn
    have hbound : iv.toNat * e + e ≤ arr.size := by
      rw [hsz2]
      calc iv.toNat * e + e = (iv.toNat + 1) * e := by rw [Nat.add_mul, Nat.one_mul]
        _ ≤ c0 * e := Nat.mul_le_mul_right _ (by omega)
    have hfit : iv.toNat * e + off + (cellsOf yy).length ≤ arr.size := by omega
    have hdt : den ρ (.upd zt ix.t off (T.list ts)) = .slice (xs.modify iv.toNat fun x => setCells x off (ts.map (den ρ))) := by
      have : den ρ ix.t = .int k iv := hdi
      simp only [den, hxs, this, den_list, D.list, D.upd]
    have hltl : LOk ρ ⟨.upd zt ix.t off (T.list ts), .slice ks⟩ := by
      refine LOk.upd (ik := ix.k) hkz hki ?_ (by omega)
      rw [hlen, c1]; exact l3
    refine fin hob rfl (b := b) (by simp only [hs, Option.bind_some]; exact blk_slice h0c) (run hev hb hfit) ?_ (.arr hltl) rfl
    simp only [OV.map]
    have hd2 : denL ρ ⟨.upd zt ix.t off (T.list ts), .slice ks⟩ = .slice (xs.modify iv.toNat fun x => setCells x off (ts.map (den ρ))) := hdt
    rw [hd2]
    have hxl : (xs.modify iv.toNat fun x => setCells x off (ts.map (den ρ))).length = xs.length := by simp
    refine .arr (b := b) (c := c0) (by rw [hxl]; exact hs) (setRow_heap w b arr _ bt (0, 0) hb) h0c (by rw [hxl]; exact hc) hcc (by rw [hxl]; exact hcap) (by rw [putCells_size]; exact hsz2) ?_ ?_
    · intro x hx'
      obtain ⟨q, hq, rfl⟩ := List.mem_iff_getElem.1 hx'
      simp only [List.length_modify] at hq
      rw [List.getElem_modify]
      have := he _ (List.getElem_mem hq)
      split
      · rw [setCells_length (by simp; omega)]; exact this
      · exact this
    · intro i2 j x d v hi2 hj hv2
      have hi2' : i2 < xs.length := by have := (List.getElem?_eq_some_iff.1 hi2).1; rw [hxl] at this; exact this
      have hxi := he _ (List.getElem_mem hi2')
      rw [putCells_get _ _ _ (by simp; omega)] at hv2
      simp only [Array.length_toList, k1] at hv2
      rw [List.getElem?_modify] at hi2
      simp only [List.getElem?_eq_getElem hi2', Option.map_eq_map, Option.map_some, Option.some.injEq] at hi2
      by_cases heq : iv.toNat = i2
      · subst heq
        simp only [if_true] at hi2
        subst hi2
        rw [setCells_get (by simp; omega)] at hj
        simp only [List.length_map, hlen] at hj
        by_cases hin : off ≤ j ∧ j < off + (cellsOf yy).length
        · rw [if_pos hin] at hj
          rw [if_pos (by omega)] at hv2
          have e1 : iv.toNat * e + j - (iv.toNat * e + off) = j - off := by omega
          rw [e1] at hv2
          simp only [List.getElem?_map, Option.map_eq_some_iff] at hj
          obtain ⟨t1, ht1, rfl⟩ := hj
          have hcj : j - off < (cellsOf yy).length := by omega
          obtain ⟨t', ht', hr'⟩ := l4 (j - off) _ v (List.getElem?_eq_getElem hcj) (k2 (j - off) _ v (List.getElem?_eq_getElem hcj) (by simpa using hv2))
          rw [ht1] at ht'; cases ht'; exact hr'
        · rw [if_neg hin] at hj
          rw [if_neg (by omega)] at hv2
          exact hv iv.toNat j _ d v (List.getElem?_eq_getElem hi2') hj hv2
      · simp only [heq, if_false, id] at hi2
        subst hi2
        have hje : j < e := by rw [← hxi]; exact (List.getElem?_eq_some_iff.1 hj).1
        have hout : ¬ (iv.toNat * e + off ≤ i2 * e + j ∧ i2 * e + j < iv.toNat * e + off + (cellsOf yy).length) := by
          intro ⟨g1, g2⟩
          rcases Nat.lt_or_gt_of_ne heq with hlt2 | hlt2
          · have : (iv.toNat + 1) * e ≤ i2 * e := Nat.mul_le_mul_right _ hlt2
            rw [Nat.add_mul, Nat.one_mul] at this
            omega
          · have : (i2 + 1) * e ≤ iv.toNat * e := Nat.mul_le_mul_right _ hlt2
            rw [Nat.add_mul, Nat.one_mul] at this
            omega
        rw [if_neg hout] at hv2
        exact hv i2 j _ d v (List.getElem?_eq_getElem hi2') hj hv2
end ops
end
end Go.Sx
namespace Go.Sx
open Go Go.RowKit
/-! ### equality of structs -/
theorem take_drop_get {α : Type} {l : List α} {off n i : Nat} (hi : i < n) : ((l.drop off).take n)[i]? = l[off + i]? := by
  rw [List.getElem?_take, if_pos hi, List.getElem?_drop]
theorem run_part_agg {P : Program} {w : World} {t : TypeId} {i : TypeInfo} {X : Array Value} {off : Nat} (hi : P.info? t = some i) (ha : aggOf P t = some true) :
    (part t X off).run P w = .ok (.agg (X.extract off (off + i.size))) w := by
  unfold aggOf at ha
  cases hu : P.underlying t with
  | none => rw [hu] at ha; simp at ha
  | some d =>
    rw [hu] at ha
    cases d <;> simp at ha <;> simp [part, isAgg, run_underlying hu, sizeOf, typeInfo, hi]
theorem run_part_one {P : Program} {w : World} {t : TypeId} {X : Array Value} {off : Nat} {v : Value} (ha : aggOf P t = some false) (hv : X[off]? = some v) :
    (part t X off).run P w = .ok v w := by
  unfold aggOf at ha
  cases hu : P.underlying t with
  | none => rw [hu] at ha; simp at ha
  | some d =>
    rw [hu] at ha
    cases d <;> simp at ha <;> simp [part, isAgg, run_underlying hu, hv]
section
variable {E : Env} {ρ : List D} {σ : Names} {m : Mem} {st : St TK} {a : Act} {w : World}
/-- symbolic cells and what lies there -/
structure CellsR (σ : Names) (m : Mem) (ρ : List D) (cs : List (SV TK)) (X : Array Value) : Prop where
  sz : X.size = cs.length
  rs : ∀ (i : Nat) c v, cs[i]? = some c → X[i]? = some v → RS σ m ρ c v
  ok : ∀ c ∈ cs, SV.Ok ρ c
theorem CellsR.one {c : SV TK} {X : Array Value} (h : CellsR σ m ρ [c] X) : ∃ v, X = #[v] ∧ RS σ m ρ c v ∧ SV.Ok ρ c := by
  have hs := h.sz
  simp at hs
  have : X = #[X[0]] := by
    apply Array.ext (by simp [hs])
    intro i h1 h2
    simp at h2; subst h2; rfl
  exact ⟨X[0], this, h.rs 0 c _ rfl (by simp [hs]), h.ok c (by simp)⟩
theorem CellsR.part {cs : List (SV TK)} {X : Array Value} (h : CellsR σ m ρ cs X) {off n : Nat} (hfit : off + n ≤ cs.length) : CellsR σ m ρ ((cs.drop off).take n) (X.extract off (off + n)) := by
  have hsz := h.sz
  refine ⟨by simp; omega, fun i c v hc hv => ?_, fun c hc => h.ok c (List.mem_of_mem_drop (List.mem_of_mem_take hc))⟩
  have hi : i < n := by have := (List.getElem?_eq_some_iff.1 hc).1; simp at this; omega
  rw [take_drop_get hi] at hc
  rw [Array.getElem?_extract] at hv
  split at hv
  · exact h.rs _ c v hc hv
  · cases hv
theorem eqb_refl_of {a b : D} : D.eqb a b = D.eqb a b := rfl
/-- a value of a type that is compared, from its cells -/
def ofCells (ag : Bool) (X : Array Value) : Value := if ag then .agg X else X.getD 0 undef
theorem eqTerm_ok (P : Program) : ∀ (n : Nat) (t : TypeId) (xs ys : List (SV TK)) (e : T), eqTerm P n t xs ys = some e → ∀ (X Y : Array Value), CellsR σ m ρ xs X → CellsR σ m ρ ys Y → ∀ (d : Nat),
    ∃ (ag b : Bool), aggOf P t = some ag ∧ (ag = false → X.size = 1 ∧ Y.size = 1) ∧ (Op.equalIn (n + d) t (ofCells ag X) (ofCells ag Y)).run P w = .ok b w ∧ den ρ e = .bool b ∧ LOk ρ ⟨e, .bool⟩
  | 0, _, _, _, _, h => by simp [eqTerm] at h
  | n + 1, t, xs, ys, e, h => by
    intro X Y hX hY d
    have e1 : n + 1 + d = (n + d) + 1 := by omega
    rw [e1]
    simp only [eqTerm] at h
    split at h <;> try contradiction
    · rename_i kk hu
      split at h <;> try contradiction
      rename_i p k q k'
      split at h <;> try contradiction
      rename_i hk
      subst hk
      cases h
      obtain ⟨v1, rfl, r1, a1⟩ := hX.one
      obtain ⟨v2, rfl, r2, a2⟩ := hY.one
      obtain ⟨u, hu1, eu, _, _⟩ := RS.int r1 (all_d a1)
      obtain ⟨v, hv1, ev, _, _⟩ := RS.int r2 (all_d a2)
      subst eu ev
      refine ⟨false, u == v, by simp [aggOf, hu], by simp, ?_, by simp only [den, hu1, hv1, O2.eval, D.eqb], (all_d a1).cmp (all_d a2) rfl⟩
      simp [ofCells, run_equalIn_int w (n + d) t k kk u v hu]
    · rename_i hu
      split at h <;> try contradiction
      rename_i p q
      cases h
      obtain ⟨v1, rfl, r1, a1⟩ := hX.one
      obtain ⟨v2, rfl, r2, a2⟩ := hY.one
      obtain ⟨u, hu1, eu⟩ := RS.bool r1 (all_d a1)
      obtain ⟨v, hv1, ev⟩ := RS.bool r2 (all_d a2)
      subst eu ev
      refine ⟨false, u == v, by simp [aggOf, hu], by simp, ?_, by simp only [den, hu1, hv1, O2.eval, D.eqb], (all_d a1).cmp (all_d a2) rfl⟩
      simp [ofCells, run_equalIn_bool' w (n + d) t u v hu]
    · rename_i hu
      split at h <;> try contradiction
      rename_i p q
      cases h
      obtain ⟨v1, rfl, r1, a1⟩ := hX.one
      obtain ⟨v2, rfl, r2, a2⟩ := hY.one
      obtain ⟨u, hu1, eu, _⟩ := RS.str r1 (all_d a1)
      obtain ⟨v, hv1, ev, _⟩ := RS.str r2 (all_d a2)
      subst eu ev
      refine ⟨false, u == v, by simp [aggOf, hu], by simp, ?_, by simp only [den, hu1, hv1, O2.eval, D.eqb], (all_d a1).cmp (all_d a2) rfl⟩
      simp only [ofCells, Bool.false_eq_true, if_false]
      have := run_equalIn_string (P := P) w (n + d) t ⟨u.toArray⟩ ⟨v.toArray⟩ hu
      simpa [bytesList] using this
    · rename_i fs hu
      split at h <;> try contradiction
      rename_i hst
      have hfo : P.fieldsOf t = fs := by simp [Program.fieldsOf, hu]
      have main : ∀ (l : List Field) (e : T), eqFieldsT P (eqTerm P n) xs ys l = some e → ∃ b, (Op.eqFields (n + d) X Y l).run P w = .ok b w ∧ den ρ e = .bool b ∧ LOk ρ ⟨e, .bool⟩ := by
        intro l
        induction l with
        | nil => intro e h; simp [eqFieldsT] at h; subst h; exact ⟨true, by simp [Op.eqFields], rfl, .bool _⟩
        | cons f l ih =>
          intro e h
          simp only [eqFieldsT] at h
          split at h <;> try contradiction
          rename_i hc
          simp only [Bool.or_eq_true, beq_iff_eq, decide_eq_true_eq, not_or, Nat.not_lt] at hc
          obtain ⟨⟨hname, hx⟩, hy⟩ := hc
          split at h <;> try contradiction
          rename_i e1 es he1 hes
          cases h
          obtain ⟨ag, b, hag, h1, hrun, hd, hl⟩ := eqTerm_ok P n f.type _ _ e1 he1 _ _ (hX.part hx) (hY.part hy) d
          obtain ⟨bs, hruns, hds, hls⟩ := ih es hes
          refine ⟨b && bs, ?_, by simp only [den, hd, hds, O2.eval], ?_⟩
          · have hsX := hX.sz
            have hsY := hY.sz
            have parts : ∀ (Z : Array Value), Z.size ≥ f.offset + P.cellsOf f.type → (ag = false → (Z.extract f.offset (f.offset + P.cellsOf f.type)).size = 1) →
                (Go.part f.type Z f.offset).run P w = .ok (ofCells ag (Z.extract f.offset (f.offset + P.cellsOf f.type))) w := by
              intro Z hz h1
              cases ag with
              | true =>
                have : ∃ i, P.info? f.type = some i := by
                  unfold aggOf at hag
                  cases hu2 : P.underlying f.type with
                  | none => rw [hu2] at hag; simp at hag
                  | some d => exact info_of_underlying hu2
                obtain ⟨i, hi⟩ := this
                rw [run_part_agg hi hag, cellsOf_info hi]; rfl
              | false =>
                have hz1 := h1 rfl
                have hc1 : P.cellsOf f.type = 1 := by simp at hz1; omega
                have hlt : f.offset < Z.size := by omega
                rw [run_part_one (v := Z[f.offset]) hag (by simp [hlt])]
                simp [ofCells, Array.getD, hz1]
            have p1 := parts X (by omega) (fun e => (h1 e).1)
            have p2 := parts Y (by omega) (fun e => (h1 e).2)
            simp only [Op.eqFields, if_pos (show f.name ≠ "_" from hname), Sem.run_bind, p1, p2, Result.andThen_ok, hrun]
            cases b <;> simp [hruns]
          · have := hl.cmp (o := .band) hls
            refine .mk' (d := .bool (b && bs)) (by simp only [den, hd, hds, O2.eval]) (.mk_bool _) fun rs => by simp only [den]; rw [hl.2 rs, hls.2 rs]
      obtain ⟨b, h1, h2, h3⟩ := main _ _ h
      refine ⟨true, b, by simp [aggOf, hu], by simp, ?_, h2, h3⟩
      simp only [ofCells, if_true]
      rw [run_equalIn_struct w (n + d) t X Y (by rw [hfo]; exact hu) (by simpa using hst), hfo]
      exact h1
section ops
variable (hf : Fits E σ m (denSt ρ st) a w) (hok : st.Ok ρ) {g : Option T} (hg : ∀ c, g = some c → den ρ c = .bool true) {o : Oper} {s : Sym}
include hf hok hg
theorem ok_binOp {op : BinOp} {t yt : TypeId} {x y : Operand} (ho : o.op = .binOp op t x y yt) (h : sxOp E.P g st o = some s) (hn : ∀ t ∈ s.needs, den ρ t = .bool true) : OpOk E ρ σ m st a w o s := by
  have hx := opnd_ok hf hok hg x
  have hy := opnd_ok hf hok hg y
  simp only [sxOp, ho] at h
  generalize thaw st.objs (unguard g (look st x)) = xx at *
  generalize thaw st.objs (unguard g (look st y)) = yy at *
  split at h <;> try contradiction
  · cases op <;> exact ok_binInt hf hok hg ho hx.1 hy.1 (all_d hx.2) (all_d hy.2) hn h
  · exact ok_binStr hf hok hg ho hx.1 hy.1 (all_d hx.2) (all_d hy.2) hn h
  · rename_i p q
    have kx := all_d hx.2
    have ky := all_d hy.2
    obtain ⟨u, hu, eu⟩ := RS.bool hx.1 kx
    obtain ⟨v, hv, ev⟩ := RS.bool hy.1 ky
    split at h <;> try contradiction
    · rename_i ht
      cases h
      refine .val hf hok (v := .bool (u == v)) (by simp [execOp, ho, eu, ev, eqGuard, binOp, run_equal_bool w t u v ht]) (.d ?_) (.d (kx.cmp ky rfl)) (by simp)
      simp only [denL, den, hu, hv, O2.eval, D.eqb]; exact .bool _
    · rename_i ht
      cases h
      refine .val hf hok (v := .bool (u != v)) (by simp [execOp, ho, eu, ev, eqGuard, binOp, run_equal_bool w t u v ht, bne]) (.d ?_) (.d (kx.cmp ky rfl)) (by simp)
      simp only [denL, den, hu, hv, O2.eval, D.eqb, bne]; exact .bool _
  · rename_i cs ds
    split at h <;> try contradiction
    rename_i hc
    simp only [Bool.and_eq_true, beq_iff_eq, Bool.not_eq_true'] at hc
    obtain ⟨hag, hgd⟩ := hc
    have hx1 := hx.1
    have hy1 := hy.1
    simp only [RS, SV.map, SV.mapL_eq] at hx1 hy1
    generalize hcs : cs.map (SV.map (denL ρ)) = mcs at hx1
    generalize hds : ds.map (SV.map (denL ρ)) = mds at hy1
    generalize hex : a.eval x = ex at hx1
    generalize hey : a.eval y = ey at hy1
    cases hx1 with
    | agg hsz1 hv1 =>
    cases hy1 with
    | agg hsz2 hv2 =>
    rename_i X Y
    have cX : CellsR σ m ρ cs X := ⟨by rw [hsz1, ← hcs]; simp, fun i c v hc hv => hv1 i _ v (by rw [← hcs]; simp [hc]) hv, by have := hx.2; cases this; assumption⟩
    have cY : CellsR σ m ρ ds Y := ⟨by rw [hsz2, ← hds]; simp, fun i c v hc hv => hv2 i _ v (by rw [← hds]; simp [hc]) hv, by have := hy.2; cases this; assumption⟩
    split at h <;> try contradiction
    all_goals
      rename_i e he
      cases h
      obtain ⟨ag, b, hag', _, hrun, hd, hl⟩ := eqTerm_ok (w := w) E.P _ _ _ _ _ he X Y cX cY (10000 - depthK)
      rw [hag] at hag'; cases hag'
      have hdk : depthK + (10000 - depthK) = 10000 := by decide
      rw [hdk] at hrun
      simp only [ofCells, if_true] at hrun
    · refine .val hf hok (v := .bool b) ?_ (.d (by simp only [denL, hd]; exact .bool _)) (.d hl) (by simp)
      simp only [execOp, ho, hex, hey]
      simp [run_eqGuard_agg w .eql t x y X Y hgd, run_eql_struct, hrun]
    · refine .val hf hok (v := .bool (!b)) ?_ (.d (by simp only [denL, T.notB, den, hd, O1.eval]; exact .bool _)) (.d hl.notB) (by simp)
      simp only [execOp, ho, hex, hey]
      simp [run_eqGuard_agg w .neq t x y X Y hgd, run_neq_struct, hrun]
end ops
end
end Go.Sx
namespace Go.Sx
open Go Go.RowKit
/-- a bound that is given, or not -/
def BoundOf (v : Option Value) (n dflt : Int) : Prop := (v = none ∧ n = dflt) ∨ ∃ k, v = some (.int k n)
theorem run_bounds {P : Program} {w : World} {isS : Bool} {len cp : Nat} {lo hi : Option Value} {l h : Int} (hl : BoundOf lo l 0) (hh : BoundOf hi h len) (h0 : 0 ≤ l) (h1 : l ≤ h) (h2 : h ≤ len) (h3 : len ≤ cp) :
    (Instr.sliceBounds isS len cp lo hi none).run P w = .ok (l.toNat, h.toNat, cp) w := by
  have eh : (h.toNat : Int) = h := Int.toNat_of_nonneg (by omega)
  have a1 : (0 : Int) ≤ h := by omega
  have a2 : h ≤ (cp : Int) := by omega
  have a3 : l ≤ (len : Int) := by omega
  rcases hl with ⟨rfl, rfl⟩ | ⟨kl, rfl⟩ <;> rcases hh with ⟨rfl, rfl⟩ | ⟨kh, rfl⟩ <;>
    simp [Instr.sliceBounds, run_sliceBound, h0, h1, a1, a2, a3, eh]
section
variable {E : Env} {ρ : List D} {σ : Names} {m : Mem} {st : St TK} {a : Act} {w : World}
section ops
variable (hf : Fits E σ m (denSt ρ st) a w) (hok : st.Ok ρ) {g : Option T} (hg : ∀ c, g = some c → den ρ c = .bool true) {o : Oper} {s : Sym}
include hf hok hg
theorem bound_ok {x : Option Operand} {t d : T} (h : sxOp.boundT (x.map fun x => thaw st.objs (unguard g (look st x))) d = some t) (hd : LOk ρ ⟨d, .int .i64⟩) :
    ∃ n k n0 k0, den ρ t = .int k n ∧ den ρ d = .int k0 n0 ∧ BoundOf (x.map a.eval) n n0 ∧ ∃ kk, LOk ρ ⟨t, .int kk⟩ := by
  obtain ⟨n0, hn0, _⟩ := hd.1.int_inv
  simp only at hn0
  cases x with
  | none => simp [sxOp.boundT] at h; subst h; exact ⟨n0, _, n0, _, hn0, hn0, .inl ⟨rfl, rfl⟩, _, hd⟩
  | some x =>
    have hx := opnd_ok hf hok hg x
    simp only [Option.map_some] at h
    generalize thaw st.objs (unguard g (look st x)) = xx at *
    unfold sxOp.boundT at h
    split at h <;> try contradiction
    rename_i t' k he
    cases he
    cases h
    obtain ⟨n, hn, hev, _, _⟩ := RS.int hx.1 (all_d hx.2)
    exact ⟨n, _, n0, _, hn, hn0, .inr ⟨k, by simp [hev]⟩, k, all_d hx.2⟩
theorem ok_slice {t : TypeId} {x : Operand} {lo hi mx : Option Operand} (ho : o.op = .slice t x lo hi mx) (h : sxOp E.P g st o = some s) (hn : ∀ t ∈ s.needs, den ρ t = .bool true) : OpOk E ρ σ m st a w o s := by
  have hx := opnd_ok hf hok hg x
  simp only [sxOp, ho] at h
  cases mx with
  | some my =>
    have zero : ∀ {y : Operand}, thaw st.objs (unguard g (look st y)) = .d ⟨.int .i64 0, .int .i64⟩ → a.eval y = .int .i64 0 := by
      intro y hy
      have h1 := opnd_ok hf hok hg y
      rw [hy] at h1
      obtain ⟨n, hn1, hn2, _⟩ := RS.int h1.1 (all_d h1.2)
      simp only [den] at hn1
      cases hn1
      exact hn2
    have fin : ∀ {e : TypeId} {y : Operand} {ad : Option Addr} {n c : Nat} {ks : List K}, E.P.underlying t = some (.slice e) → (E.P.info? e).isSome = true → lo = none → hi = some y → a.eval y = .int .i64 0 → a.eval my = .int .i64 0 → a.eval x = .slice ad n c →
        OpOk E ρ σ m st a w o ⟨[], [], .own st.objs.length, some (st.objs ++ [.arr ks.length ⟨.nils, .slice ks⟩])⟩ := by
      intro e y ad n c ks hu hi' hlo hhi hy hmy hx'
      obtain ⟨i, hi''⟩ := Option.isSome_iff_exists.1 hi'
      have hA := hf.newObj (v0 := .slice ad 0 0) (ov := OV.map (denL ρ) (.arr ks.length ⟨.nils, .slice ks⟩)) (.none (names_add_self _ _ _)) (fun b hb => by simp [blk_zero] at hb) (by simp [OV.map]) (by simp [OV.map])
      rw [denSt_len] at hA
      refine ⟨.slice ad 0 0, w, σ.add st.objs.length (.slice ad 0 0), m, names_le_new hf hok hg _, Mem.le_refl m, .inl ?_, ?_, .own (names_add_self _ _ _), .own, ?_, by simp, by simp⟩
      · simp only [execOp, ho, hlo, hhi, Option.map_none, Option.map_some, hy, hmy, hx']
        simp [Instr.sliceAt, Instr.slice, run_underlying hu, Instr.sliceBounds, Instr.sliceBound, asIntOf, sizeOf, typeInfo, hi'']
      · simp only [Option.getD_some]
        rw [denSt_snoc]
        exact hA
      · intro q hq
        simp only [Option.getD_some] at hq
        rcases List.mem_append.1 hq with hq | hq
        · exact hok.objs q hq
        · simp at hq; subst hq; exact .arr (.nils ks)
    simp only [Option.isSome_some, if_true, Option.map_some] at h
    split at h <;> try contradiction
    · rename_i e q ks hu hl hh hm
      split at h <;> try contradiction
      rename_i ks' hks'
      split at h <;> try contradiction
      rename_i hinf
      cases h
      rw [hl] at hx
      obtain ⟨xs, hxs, _⟩ := (all_d hx.2).1.slice_inv
      simp only at hxs
      have hrep := hx.1.d_inv
      simp only [denL, hxs] at hrep
      cases hi with
      | none => simp at hh
      | some y =>
        simp only [Option.map_some, Option.some.injEq] at hh hm
        generalize hev : a.eval x = ev at hrep
        cases hrep with
        | empty ad c => exact fin hu hinf rfl rfl (zero hh) (zero (by assumption)) hev
        | slice xs b off arr bt fz e c => exact fin hu hinf rfl rfl (zero hh) (zero (by assumption)) hev
    · rename_i e hu hl hh hm
      split at h <;> try contradiction
      rename_i ks' hks'
      split at h <;> try contradiction
      rename_i hinf
      cases h
      rw [hl] at hx
      have hp := hx.1
      simp only [RS, SV.map] at hp
      cases hi with
      | none => simp at hh
      | some y =>
        simp only [Option.map_some, Option.some.injEq] at hh hm
        generalize hev : a.eval x = ev at hp
        cases hp
        exact fin hu hinf rfl rfl (zero hh) (zero (by assumption)) hev
  | none =>
  simp only [Option.isSome_none, Bool.false_eq_true, if_false] at h
  split at h <;> try contradiction
  · rename_i sl hu hl
    rw [hl] at hx
    split at h <;> try contradiction
    rename_i l hh hlo hhi
    cases h
    have kx := all_d hx.2
    obtain ⟨xs, hxs, hev, hcap⟩ := RS.str hx.1 kx
    have klen : LOk ρ ⟨.o1 .len sl, .int .i64⟩ := kx.len (by intro ys hy; rw [hxs] at hy; cases hy) (by intro ys hy; rw [hxs] at hy; cases hy; exact hcap)
    obtain ⟨nl, kl, n0, k0, d1, d2, b1, kk1, lk1⟩ := bound_ok hf hok hg hlo (.int _ _ rfl)
    obtain ⟨nh, kh, n1, k1, d3, d4, b2, kk2, lk2⟩ := bound_ok hf hok hg hhi klen
    simp only [den] at d2
    cases d2
    simp only [den, hxs, O1.eval] at d4
    cases d4
    have c1 := hn _ List.mem_cons_self
    have c2 := hn _ (List.mem_cons_of_mem _ List.mem_cons_self)
    have c3 := hn _ (List.mem_cons_of_mem _ (List.mem_cons_of_mem _ List.mem_cons_self))
    simp only [den, d1, d3, hxs, O1.eval, O2.eval, D.bool.injEq, decide_eq_true_eq] at c1 c2 c3
    have hsz := bytes_size xs
    have run := run_bounds (P := E.P) (w := w) (isS := false) (len := (⟨xs.toArray⟩ : ByteArray).size) (cp := (⟨xs.toArray⟩ : ByteArray).size) (lo := lo.map a.eval) (hi := hi.map a.eval) b1 (by rw [hsz]; exact b2) c1 c2 (by rw [hsz]; exact c3) (Nat.le_refl _)
    have hres : (⟨xs.toArray⟩ : ByteArray).extract nl.toNat nh.toNat = ⟨((xs.take nh.toNat).drop nl.toNat).toArray⟩ := by
      apply ByteArray.ext
      simp [ByteArray.data_extract, List.extract_toArray, List.extract_eq_take_drop, List.drop_take]
    refine .val hf hok (v := .string ⟨((xs.take nh.toNat).drop nl.toNat).toArray⟩) ?_ (.d ?_) (.d (kx.sub (.inl rfl) lk1 lk2)) (by simp)
    · simp only [execOp, ho, hev, Option.map_none]
      simp [run_sliceAt_string w t _ _ _ _ hu, Instr.slice, run_underlying hu, run, hres]
    · simp only [denL, den, hxs, d1, d3, D.sub]
      exact .str _ (by simp; omega)
  · rename_i el sl ks hu hl
    rw [hl] at hx
    split at h <;> try contradiction
    rename_i hsize
    split at h <;> try contradiction
    rename_i l hh hlo hhi
    cases h
    simp only [Bool.and_eq_true, beq_iff_eq, Option.isSome_iff_exists] at hsize
    obtain ⟨hsize, inf, hinf⟩ := hsize
    have kx := all_d hx.2
    obtain ⟨xs, hxs, hel⟩ := kx.1.slice_inv
    simp only at hxs
    have hd := hx.1.d_inv
    simp only [denL, hxs] at hd
    generalize hev : a.eval x = ev at hd
    have hcap : xs.length ≤ cap := by
      cases hd with
      | empty => simp
      | slice => assumption
    have klen : LOk ρ ⟨.o1 .len sl, .int .i64⟩ := kx.len (by intro ys hy; rw [hxs] at hy; cases hy; exact hcap) (by intro ys hy; rw [hxs] at hy; cases hy)
    obtain ⟨nl, kl, n0, k0, d1, d2, b1, kk1, lk1⟩ := bound_ok hf hok hg hlo (.int _ _ rfl)
    obtain ⟨nh, kh, n1, k1, d3, d4, b2, kk2, lk2⟩ := bound_ok hf hok hg hhi klen
    simp only [den] at d2
    cases d2
    simp only [den, hxs, O1.eval] at d4
    cases d4
    have c1 := hn _ List.mem_cons_self
    have c2 := hn _ (List.mem_cons_of_mem _ List.mem_cons_self)
    have c3 := hn _ (List.mem_cons_of_mem _ (List.mem_cons_of_mem _ List.mem_cons_self))
    simp only [den, d1, d3, hxs, O1.eval, O2.eval, D.bool.injEq, decide_eq_true_eq] at c1 c2 c3
    have kres := kx.sub (.inr ⟨_, rfl⟩) lk1 lk2
    have hel' : E.P.elem t = el := by simp [Program.elem, hu]
    have hu' : E.P.underlying t = some (.slice (E.P.elem t)) := by rw [hel']; exact hu
    -- the run, whatever the slice is
    have run : ∀ (ad : Option Addr) (c : Nat), ev = .slice ad xs.length c → xs.length ≤ c →
        (execOp a.eval o).run E.P w = .ok (.value (sliced ad nl.toNat nh.toNat c inf.size)) w := by
      intro ad c hv hc
      have run := run_bounds (P := E.P) (w := w) (isS := true) (len := xs.length) (cp := c) (lo := lo.map a.eval) (hi := hi.map a.eval) b1 b2 c1 c2 c3 hc
      simp only [execOp, ho, hev, hv, Option.map_none]
      simp [run_sliceAt_slice w t _ _ _ _ hu', run_slice_any w t ad xs.length c hu', run, hel', sizeOf, typeInfo, hinf]
    have hden : denL ρ ⟨.sub sl l hh, .slice ks⟩ = .slice ((xs.take nh.toNat).drop nl.toNat) := by simp only [denL, den, hxs, d1, d3, D.sub]
    have hlen : ((xs.take nh.toNat).drop nl.toNat).length = nh.toNat - nl.toNat := by simp; omega
    by_cases hemp : nh.toNat = nl.toNat
    · have hnil : (xs.take nh.toNat).drop nl.toNat = [] := List.eq_nil_of_length_eq_zero (by omega)
      have hform : ∃ ad c, ev = .slice ad xs.length c ∧ xs.length ≤ c := by
        cases hd with
        | empty ad c => exact ⟨ad, c, rfl, Nat.zero_le _⟩
        | slice _ b off arr bt fz e c hc => exact ⟨_, c, rfl, hc⟩
      obtain ⟨ad, c, hv, hc⟩ := hform
      refine .val hf hok (run ad c hv hc) (.d ?_) (.d kres) (by simp)
      rw [hden, hnil, sliced, hemp, Nat.sub_self]
      exact .empty _ _
    · cases hd with
      | empty => simp at c3; omega
      | slice _ b off arr bt fz e c hc _ hm he hfit hv =>
        refine .val hf hok (run _ c rfl hc) (.d ?_) (.d kres) (by simp)
        have hpos : 0 < xs.length := by omega
        have hie : inf.size = e := by
          have h1 := he _ (List.getElem_mem hpos)
          have h2 := (hel _ (List.getElem_mem hpos)).length
          rw [cellsOf_info hinf] at hsize; omega
        rw [hden, sliced, if_neg (by omega), hie]
        simp only [Option.map_some, add_at]
        have := RepD.slice (m := m) ((xs.take nh.toNat).drop nl.toNat) b (off + nl.toNat * e) arr bt fz e (c - nl.toNat) (by rw [hlen]; omega) (by rw [hlen]; omega) hm
          (fun x hx' => he x (List.mem_of_mem_take (List.mem_of_mem_drop hx')))
          (by
            rw [hlen]
            have : nl.toNat * e + (nh.toNat - nl.toNat) * e ≤ xs.length * e := by
              rw [← Nat.add_mul]; exact Nat.mul_le_mul_right _ (by omega)
            omega)
          (fun i j x d v hi' hj hu2 => by
            have hlt := (List.getElem?_eq_some_iff.1 hi').1
            rw [hlen] at hlt
            rw [List.getElem?_drop, List.getElem?_take, if_pos (by omega)] at hi'
            refine hv (nl.toNat + i) j x d v hi' hj ?_
            rw [← hu2, Nat.add_mul]; congr 1; omega)
        rw [hlen] at this
        exact this
end ops
end
end Go.Sx
namespace Go.Sx
open Go Go.RowKit
section
variable {E : Env} {ρ : List D} {σ : Names} {m : Mem} {st : St TK} {a : Act} {w : World}
theorem ok_maxmin (hf : Fits E σ m (denSt ρ st) a w) (hok : st.Ok ρ) {g : Option T} (hg : ∀ c, g = some c → den ρ c = .bool true) {o : Oper} {s : Sym} {c : Call} {x y : Operand} {mx : Bool}
    (ho : o.op = .call c) (hc : c.callee = .builtin (if mx then .max else .min)) (hargs : c.args.toList = [x, y])
    (h : (match thaw st.objs (unguard g (look st x)), thaw st.objs (unguard g (look st y)) with
        | .d ⟨a, .int k⟩, .d ⟨b, .int k'⟩ => if k = k' then some (⟨[], [], .d ⟨.ite (.o2 (if mx then .gt else .lt) b a) b a, .int k⟩, none⟩ : Sym) else none
        | _, _ => none) = some s) : OpOk E ρ σ m st a w o s := by
  have hx := opnd_ok hf hok hg x
  have hy := opnd_ok hf hok hg y
  have ha : c.args = #[x, y] := by rw [← Array.toArray_toList (xs := c.args), hargs]
  generalize thaw st.objs (unguard g (look st x)) = xx at *
  generalize thaw st.objs (unguard g (look st y)) = yy at *
  split at h <;> try contradiction
  rename_i p k q k'
  split at h <;> try contradiction
  rename_i hk
  subst hk
  cases h
  have kx := all_d hx.2
  have ky := all_d hy.2
  obtain ⟨u, hu, eu, u1, u2⟩ := RS.int hx.1 kx
  obtain ⟨v, hv, ev, v1, v2⟩ := RS.int hy.1 ky
  cases mx with
  | true =>
    simp only [if_true] at hc ⊢
    have hd : den ρ (.ite (.o2 .gt q p) q p) = .int k (if v > u then v else u) := by
      simp only [den, hu, hv, O2.eval]
      by_cases hvu : v > u
      · simp [hvu, D.cond]
      · simp [hvu, D.cond]
    refine .val hf hok (v := .int k (if v > u then v else u)) ?_ (.d ?_) (.d ⟨?_, fun rs => ?_⟩) (by simp)
    · simp [execOp, ho, resolve, hc, ha, eu, ev, invoke, builtin, Builtin.max_, Builtin.max2]
    · simp only [denL, hd]; exact .int _ _
    · show HasK (.int k) (den ρ (.ite (.o2 .gt q p) q p))
      rw [hd]
      refine HasK.mk_int ?_ ?_ <;> split <;> assumption
    · simp only [den]; rw [kx.2 rs, ky.2 rs]
  | false =>
    simp only [Bool.false_eq_true, if_false] at hc ⊢
    have hd : den ρ (.ite (.o2 .lt q p) q p) = .int k (if v < u then v else u) := by
      simp only [den, hu, hv, O2.eval]
      by_cases hvu : v < u
      · simp [hvu, D.cond]
      · simp [hvu, D.cond]
    refine .val hf hok (v := .int k (if v < u then v else u)) ?_ (.d ?_) (.d ⟨?_, fun rs => ?_⟩) (by simp)
    · simp [execOp, ho, resolve, hc, ha, eu, ev, invoke, builtin, Builtin.min_, Builtin.min2]
    · simp only [denL, hd]; exact .int _ _
    · show HasK (.int k) (den ρ (.ite (.o2 .lt q p) q p))
      rw [hd]
      refine HasK.mk_int ?_ ?_ <;> split <;> assumption
    · simp only [den]; rw [kx.2 rs, ky.2 rs]
theorem sxOp_ok (hf : Fits E σ m (denSt ρ st) a w) (hok : st.Ok ρ) {g : Option T} (hg : ∀ c, g = some c → den ρ c = .bool true) {o : Oper} {s : Sym}
    (h : sxOp E.P g st o = some s) (hn : ∀ t ∈ s.needs, den ρ t = .bool true) : OpOk E ρ σ m st a w o s := by
  have h' := h
  cases ho : o.op
  case move x => exact ok_move hf hok hg (.inl ho) h
  case assign x => exact ok_move hf hok hg (.inr ho) h
  case pick c x y => exact ok_pick hf hok hg ho h
  case alloc t => exact ok_alloc hf hok hg ho h
  case box t x => exact ok_box hf hok hg ho h
  case build t ps => exact ok_build hf hok hg ho h
  case buildSlice t n ps => exact ok_buildSlice hf hok hg ho h
  case makeSlice t l c => exact ok_makeSlice hf hok hg ho h hn
  case load t x => exact ok_load hf hok hg ho h
  case store t x y => exact ok_store hf hok hg ho h
  case nilCheck x => exact ok_nilCheck hf hok hg ho h
  case binOp op t x y yt => exact ok_binOp hf hok hg ho h hn
  case unOp op t x => exact ok_unOp hf hok hg ho h
  case convert p q x => exact ok_convert hf hok hg ho h
  case slice t x lo hi mx => exact ok_slice hf hok hg ho h hn
  case fieldAddr t x f => exact ok_fieldAddr hf hok hg ho h
  case field t x f => exact ok_field hf hok hg ho h
  case indexAddr t x i => exact ok_indexAddr hf hok hg ho h hn
  case index t x i => exact ok_index hf hok hg ho h hn
  case extract x i => exact ok_extract hf hok hg ho h
  case call c =>
    simp only [sxOp, ho] at h'
    split at h' <;> try contradiction
    · rename_i hc
      split at h' <;> try contradiction
      rename_i x t hargs hty
      exact ok_len hf hok hg ho hc hargs hty h
    · rename_i hc
      split at h' <;> try contradiction
      rename_i x y hargs
      exact ok_maxmin (mx := true) hf hok hg ho hc hargs h'
    · rename_i hc
      split at h' <;> try contradiction
      rename_i x y hargs
      exact ok_maxmin (mx := false) hf hok hg ho hc hargs h'
    · rename_i hc
      split at h' <;> try contradiction
      rename_i x y tx ty hargs hty
      exact ok_append hf hok hg ho hc hargs hty h hn
  all_goals (simp [sxOp, ho] at h')
end
end Go.Sx
namespace Go.Sx
open Go Go.RowKit
section
variable {E : Env} {σ : Names} {m : Mem} {st : St D} {a : Act} {w : World}
/-- an object is let go, or frozen without a block -/
theorem Fits.setDead (h : Fits E σ m st a w) (o : Nat) {ov' : OV D} (hd : ov'.alive = false) (h' : RepO σ m w o ov') (hyv : ov' ≠ .yld ∧ ∀ cs, ov' ≠ .sav cs := by simp) : Fits E σ m ⟨st.tmps, st.objs.set o ov'⟩ a w :=
  { sz := h.sz, tm := h.tm, dfr := h.dfr, mem := h.mem, le := h.le
    yld := fun o' ho' => by
      simp only at ho'
      rcases getElem?_set_some ho' with ⟨rfl, he, _⟩ | ⟨_, ho'⟩
      · exact absurd he.symm hyv.1
      · exact h.yld o' ho'
    sav := fun o' cs ho' => by
      simp only at ho'
      rcases getElem?_set_some ho' with ⟨rfl, he, _⟩ | ⟨_, ho'⟩
      · exact absurd he.symm (hyv.2 cs)
      · exact h.sav o' cs ho'
    objs := fun o' ov ho' => by
      simp only at ho'
      rcases getElem?_set_some ho' with ⟨rfl, rfl, _⟩ | ⟨_, ho'⟩
      · exact h'
      · exact h.objs o' ov ho'
    sep := fun o' ov b ho' ha hb => by
      simp only at ho'
      rcases getElem?_set_some ho' with ⟨rfl, rfl, _⟩ | ⟨_, ho'⟩
      · rw [hd] at ha; cases ha
      · exact h.sep o' ov b ho' ha hb
    inj := fun o1 o2 v1 v2 b h1 h2 a1 a2 b1 b2 => by
      simp only at h1 h2
      rcases getElem?_set_some h1 with ⟨_, rfl, _⟩ | ⟨_, h1⟩
      · rw [hd] at a1; cases a1
      · rcases getElem?_set_some h2 with ⟨_, rfl, _⟩ | ⟨_, h2⟩
        · rw [hd] at a2; cases a2
        · exact h.inj o1 o2 v1 v2 b h1 h2 a1 a2 b1 b2
    dom := fun o' v hv => by simpa using h.dom o' v hv
    grow := h.grow, keep := h.keep, old := h.old, os := h.os, tape := h.tape, output := h.output, drawn := h.drawn }
end
section
variable {E : Env} {ρ : List D} {σ : Names} {ts : List (SV TK)} {a : Act} {w : World}
/-- what freezing does -/
structure FrOk (E : Env) (ρ : List D) (σ : Names) (ts : List (SV TK)) (a : Act) (w : World) (m : Mem) (objs' : List (OV TK)) (n : Nat) (m' : Mem) : Prop where
  le : m.le m'
  fits : Fits E σ m' (denSt ρ ⟨ts, objs'⟩) a w
  ok : ∀ o ∈ objs', OV.Ok ρ o
  len : objs'.length = n
theorem freezeAll_ok {f : List (OV TK) → SV TK → Option (TK × List (OV TK))}
    (hF : ∀ {objs v x objs' m val}, Fits E σ m (denSt ρ ⟨ts, objs⟩) a w → (∀ o ∈ objs, OV.Ok ρ o) → f objs v = some (x, objs') → RS σ m ρ v val → SV.Ok ρ v →
      ∃ m', FrOk E ρ σ ts a w m objs' objs.length m' ∧ LOk ρ x ∧ RepD m' (denL ρ x) val) :
    ∀ {vs : List (SV TK)} {vals : List Value} {objs xs objs' m}, Fits E σ m (denSt ρ ⟨ts, objs⟩) a w → (∀ o ∈ objs, OV.Ok ρ o) → freezeAll f objs vs = some (xs, objs') →
      (∀ (i : Nat) c v, vs[i]? = some c → vals[i]? = some v → RS σ m ρ c v) → vals.length = vs.length → (∀ c ∈ vs, SV.Ok ρ c) →
      ∃ m', FrOk E ρ σ ts a w m objs' objs.length m' ∧ xs.length = vs.length ∧ (∀ x ∈ xs, LOk ρ x) ∧ ∀ (i : Nat) x v, xs[i]? = some x → vals[i]? = some v → RepD m' (denL ρ x) v := by
  intro vs
  induction vs with
  | nil =>
    intro vals objs xs objs' m hf hok h hr hl hk
    simp [freezeAll] at h
    obtain ⟨rfl, rfl⟩ := h
    exact ⟨m, ⟨Mem.le_refl m, hf, hok, rfl⟩, rfl, by simp, by simp⟩
  | cons v vs ih =>
    intro vals objs xs objs' m hf hok h hr hl hk
    cases vals with
    | nil => simp at hl
    | cons u vals =>
    simp only [freezeAll] at h
    split at h <;> try contradiction
    rename_i x objs1 h1
    split at h <;> try contradiction
    rename_i xs1 objs2 h2
    cases h
    obtain ⟨m1, f1, k1, r1⟩ := hF hf hok h1 (hr 0 _ _ rfl rfl) (hk _ List.mem_cons_self)
    obtain ⟨m2, f2, l2, k2, r2⟩ := ih (vals := vals) f1.fits f1.ok h2 (fun i c v hc hv => (hr (i + 1) c v (by simpa using hc) (by simpa using hv)).mono (Names.le_refl σ) f1.le) (by simpa using hl)
      (fun c hc => hk c (List.mem_cons_of_mem _ hc))
    refine ⟨m2, ⟨Mem.le_trans f1.le f2.le, f2.fits, f2.ok, by rw [f2.len, f1.len]⟩, by simp [l2], ?_, ?_⟩
    · intro y hy
      rcases List.mem_cons.1 hy with rfl | hy
      · exact k1
      · exact k2 y hy
    · intro i y v hy hv
      cases i with
      | zero => simp at hy hv; subst hy hv; exact r1.mono f2.le
      | succ i => exact r2 i y v (by simpa using hy) (by simpa using hv)
theorem LOks.of_tks {xs : List TK} (h : ∀ x ∈ xs, LOk ρ x) : LOks ρ (xs.map (·.k)) (xs.map (·.t)) := by
  induction xs with
  | nil => exact .nil
  | cons x xs ih => exact .cons (h x List.mem_cons_self) (ih fun y hy => h y (List.mem_cons_of_mem _ hy))
theorem ptrTK_ok {xs : List TK} {off : Nat} (hk : ∀ x ∈ xs, LOk ρ x) : LOk ρ (ptrTK off xs) ∧ denL ρ (ptrTK off xs) = .ptr ((xs.map (denL ρ)).drop off) := by
  have h1 := LOk.ptr (LOks.of_tks hk)
  have e1 : den ρ (.ptr (T.list (xs.map (·.t)))) = .ptr (xs.map (denL ρ)) := by
    simp only [den, den_list, D.list, List.map_map]; rfl
  unfold ptrTK
  split
  · rename_i h0; subst h0; exact ⟨h1, by simp only [denL, List.drop_zero]; exact e1⟩
  · exact ⟨h1.padd, by simp only [denL, den]; rw [show den ρ (T.list (xs.map (·.t))) = .agg (xs.map (denL ρ)) from by rw [den_list, List.map_map]; rfl]; rfl⟩
theorem RepD.ptr_drop {m : Mem} {cs : List D} {b : Nat} (h : RepD m (.ptr cs) (.pointer (some ⟨b, 0, none⟩))) {off : Nat} (ho : off ≤ cs.length) : RepD m (.ptr (cs.drop off)) (.pointer (some ⟨b, off, none⟩)) := by
  cases h with
  | ptr _ _ _ arr t fz hm hsz hv =>
    refine .ptr _ b off arr t fz hm (by simp; omega) fun j d v hd hu => ?_
    rw [List.getElem?_drop] at hd
    exact hv (off + j) d v hd (by rw [← hu]; congr 1; omega)
theorem freeze_ok : ∀ (n : Nat) {objs : List (OV TK)} {v : SV TK} {x : TK} {objs' : List (OV TK)} {m : Mem} {val : Value}, Fits E σ m (denSt ρ ⟨ts, objs⟩) a w → (∀ o ∈ objs, OV.Ok ρ o) →
    freeze n objs v = some (x, objs') → RS σ m ρ v val → SV.Ok ρ v → ∃ m', FrOk E ρ σ ts a w m objs' objs.length m' ∧ LOk ρ x ∧ RepD m' (denL ρ x) val
  | 0, _, _, _, _, _, _, _, _, h, _, _ => by simp [freeze] at h
  | n + 1, objs, v, x, objs', m, val, hf, hok, h, hr, hk => by
    have objof : ∀ {o : Nat} {ov : OV TK}, objs[o]? = some ov → RepO σ m w o (ov.map (denL ρ)) ∧ OV.Ok ρ ov := fun {o ov} ho =>
      ⟨hf.objs o _ (by simp [denSt, St.map, ho]), hok _ (List.mem_of_getElem? ho)⟩
    have setok : ∀ {l : List (OV TK)} {o : Nat} {ov : OV TK}, (∀ o ∈ l, OV.Ok ρ o) → OV.Ok ρ ov → ∀ z ∈ l.set o ov, OV.Ok ρ z := by
      intro l o ov h1 h2 z hz
      rcases List.mem_or_eq_of_mem_set hz with hz | rfl
      · exact h1 z hz
      · exact h2
    have same : ∀ {x : TK}, LOk ρ x → RepD m (denL ρ x) val → ∃ m', FrOk E ρ σ ts a w m objs objs.length m' ∧ LOk ρ x ∧ RepD m' (denL ρ x) val := fun k r => ⟨m, ⟨Mem.le_refl m, hf, hok, rfl⟩, k, r⟩
    simp only [freeze] at h
    split at h
    · cases h
      exact same (all_d hk) hr.d_inv
    · cases h
      simp only [RS, SV.map] at hr
      cases hr
      exact same (.nils _) (.empty _ _)
    · rename_i o
      simp only [RS, SV.map] at hr
      cases hr with
      | own hσ =>
      split at h <;> try contradiction
      · rename_i e y ho
        cases h
        obtain ⟨ro, ko⟩ := objof ho
        have ky : LOk ρ x := by cases ko; assumption
        simp only [OV.map] at ro
        generalize hd : denL ρ x = d at ro
        cases ro with
        | none hs =>
          rename_i ad
          rw [hs] at hσ; cases hσ
          have rd : RepD m (denL ρ x) (.slice ad 0 0) := by rw [hd]; exact .empty _ 0
          refine ⟨m, ⟨Mem.le_refl m, ?_, setok hok (.farr ky), by simp⟩, ky, by rw [← hd]; exact rd⟩
          rw [denSt_set (st := ⟨ts, objs⟩)]
          exact hf.setDead o rfl (.farr hs rd) (by simp [OV.map])
        | arr hs hb h0c hc hcc hcap hsz he hv =>
          rename_i xs b c arr bt
          rw [hs] at hσ; cases hσ
          have hmem : (m.add b (.cells arr bt (0, 0))) b = some (.cells arr bt (0, 0)) := by simp [Mem.add]
          have hsep := hf.sep o (.arr e (.slice xs)) b (by simp [denSt, St.map, ho, OV.map, hd]) rfl (by simp only [hs, Option.bind_some]; exact blk_slice h0c)
          have hle : m.le (m.add b (.cells arr bt (0, 0))) := Mem.le_add hsep.1
          have rd : RepD (m.add b (.cells arr bt (0, 0))) (denL ρ x) (.slice (some ⟨b, 0, none⟩) xs.length c) := by
            rw [hd]
            exact .slice xs b 0 arr bt (0, 0) e c hc hcap hmem he (by rw [hsz, Nat.zero_add]; exact Nat.mul_le_mul_right _ hc) fun i j y d v hi hj hu =>
              (hv i j y d v hi hj (by rw [← hu, Nat.zero_add])).mono hle
          obtain ⟨f1, _⟩ := hf.freezeObj (o := o) (b := b) (ov := .arr e (.slice xs)) (ov' := .farr (denL ρ x)) (by simp [denSt, St.map, ho, OV.map, hd]) rfl (by simp only [hs, Option.bind_some]; exact blk_slice h0c) hb rfl (.farr hs rd)
          refine ⟨_, ⟨hle, ?_, setok hok (.farr ky), by simp⟩, ky, by rw [← hd]; exact rd⟩
          rw [denSt_set (st := ⟨ts, objs⟩)]
          exact f1
      · rename_i y ho
        cases h
        obtain ⟨ro, ko⟩ := objof ho
        have ky : LOk ρ x := by cases ko; assumption
        simp only [OV.map] at ro
        cases ro with
        | farr hs hrep => rw [hs] at hσ; cases hσ; exact same ky hrep
    · rename_i o off
      simp only [RS, SV.map] at hr
      cases hr with
      | ptr hσ =>
      rename_i b
      split at h <;> try contradiction
      · rename_i cs ho
        split at h <;> try contradiction
        rename_i xs objs1 h1
        split at h <;> try contradiction
        rename_i cs2 ho2
        split at h <;> try contradiction
        rename_i hoff
        cases h
        obtain ⟨ro, ko⟩ := objof ho
        have kcs : ∀ c ∈ cs, SV.Ok ρ c := by cases ko; assumption
        simp only [OV.map] at ro
        generalize hmcs : cs.map (SV.map (denL ρ)) = mcs at ro
        cases ro with
        | box hs hb hsz hv =>
        rename_i b' arr bt
        rw [hs] at hσ; cases hσ
        obtain ⟨m1, f1, l1, k1, r1⟩ := freezeAll_ok (fun {objs v x objs' m val} => freeze_ok n) (vals := arr.toList) hf hok h1
          (fun i c v hc hv2 => hv i _ v (by rw [← hmcs]; simp [hc]) (by simpa using hv2)) (by simp [hsz, ← hmcs]) kcs
        have hsz' : arr.size = xs.length := by rw [l1, hsz, ← hmcs]; simp
        have hmem : (m1.add b (.cells arr bt (0, 0))) b = some (.cells arr bt (0, 0)) := by simp [Mem.add]
        have hobj : (denSt ρ ⟨ts, objs1⟩).objs[o]? = some (.box (cs2.map (SV.map (denL ρ)))) := by simp [denSt, St.map, ho2, OV.map]
        have hsep := f1.fits.sep o _ b hobj rfl (by simp [hs, blk])
        have hle : m1.le (m1.add b (.cells arr bt (0, 0))) := Mem.le_add hsep.1
        have rd : RepD (m1.add b (.cells arr bt (0, 0))) (.ptr (xs.map (denL ρ))) (.pointer (some ⟨b, 0, none⟩)) := by
          refine .ptr _ b 0 arr bt (0, 0) hmem (by simp [hsz']) fun j d v hd hu => ?_
          simp only [List.getElem?_map, Option.map_eq_some_iff] at hd
          obtain ⟨y, hy, rfl⟩ := hd
          exact (r1 j y v hy (by simpa using hu)).mono hle
        obtain ⟨f2, _⟩ := f1.fits.freezeObj (o := o) (b := b) (ov' := .fbox (xs.map (denL ρ))) hobj rfl (by simp [hs, blk]) hb rfl (.fbox hs rd)
        obtain ⟨p1, p2⟩ := ptrTK_ok (off := off) k1
        refine ⟨_, ⟨Mem.le_trans f1.le hle, ?_, setok f1.ok (.fbox k1), by simp [f1.len]⟩, p1, ?_⟩
        · rw [denSt_set (st := ⟨ts, objs1⟩)]
          exact f2
        · rw [p2]
          exact rd.ptr_drop (by simpa using hoff)
      · rename_i xs ho
        split at h <;> try contradiction
        rename_i hoff
        cases h
        obtain ⟨ro, ko⟩ := objof ho
        have kxs : ∀ c ∈ xs, LOk ρ c := by cases ko; assumption
        simp only [OV.map] at ro
        generalize hmcs : xs.map (denL ρ) = mcs at ro
        cases ro with
        | fbox hs hrep =>
        rw [hs] at hσ; cases hσ
        obtain ⟨p1, p2⟩ := ptrTK_ok (off := off) kxs
        refine same p1 ?_
        rw [p2, hmcs]
        exact hrep.ptr_drop (by rw [← hmcs]; simpa using hoff)
    · rename_i cs
      split at h <;> try contradiction
      rename_i xs objs1 h1
      cases h
      have kcs : ∀ c ∈ cs, SV.Ok ρ c := by cases hk; assumption
      simp only [RS, SV.map, SV.mapL_eq] at hr
      generalize hmcs : cs.map (SV.map (denL ρ)) = mcs at hr
      cases hr with
      | agg hsz hv =>
      rename_i arr
      obtain ⟨m1, f1, l1, k1, r1⟩ := freezeAll_ok (fun {objs v x objs' m val} => freeze_ok n) (vals := arr.toList) hf hok h1
        (fun i c v hc hv2 => hv i _ v (by rw [← hmcs]; simp [hc]) (by simpa using hv2)) (by simp [hsz, ← hmcs]) kcs
      have hl := LOks.of_tks k1
      refine ⟨m1, f1, LOk.list hl.1 hl.2, ?_⟩
      have e1 : denL ρ ⟨T.list (xs.map (·.t)), .agg (xs.map (·.k))⟩ = .agg (xs.map (denL ρ)) := by simp only [denL, den_list, List.map_map]; rfl
      rw [e1]
      refine .agg _ arr (by rw [hsz, ← hmcs]; simp [l1]) fun i d v hd hu => ?_
      simp only [List.getElem?_map, Option.map_eq_some_iff] at hd
      obtain ⟨y, hy, rfl⟩ := hd
      exact r1 i y v hy (by simpa using hu)
    · rename_i f cs
      split at h <;> try contradiction
      rename_i xs objs1 h1
      cases h
      have kcs : ∀ c ∈ cs, SV.Ok ρ c := by cases hk; assumption
      simp only [RS, SV.map, SV.mapL_eq] at hr
      generalize hmcs : cs.map (SV.map (denL ρ)) = mcs at hr
      cases hr with
      | clo hsz hv =>
      rename_i arr
      obtain ⟨m1, f1, l1, k1, r1⟩ := freezeAll_ok (fun {objs v x objs' m val} => freeze_ok n) (vals := arr.toList) hf hok h1
        (fun i c v hc hv2 => hv i _ v (by rw [← hmcs]; simp [hc]) (by simpa using hv2)) (by simp [hsz, ← hmcs]) kcs
      have hl := LOks.of_tks k1
      refine ⟨m1, f1, LOk.clo hl.2, ?_⟩
      have e1 : denL ρ ⟨.clo f (T.list (xs.map (·.t))), .fn⟩ = .clo f (xs.map (denL ρ)) := by simp only [denL, den, den_list, D.list, List.map_map]; rfl
      rw [e1]
      refine .clo f _ arr (by rw [hsz, ← hmcs]; simp [l1]) fun i d v hd hu => ?_
      simp only [List.getElem?_map, Option.map_eq_some_iff] at hd
      obtain ⟨y, hy, rfl⟩ := hd
      exact r1 i y v hy (by simpa using hu)
    · contradiction
end
end Go.Sx
namespace Go.Sx
open Go Go.RowKit
section
variable {E : Env} {σ : Names} {m : Mem} {st : St D} {a : Act} {w : World}
/-- behind a call that leaves old blocks alone -/
theorem Fits.called (h : Fits E σ m st a w) {w' : World} {m' : Mem} (hB : BelowD w.heap.size w w') (hle : m.le m') (hmem : MemOk m' w') (hold : ∀ b, b < w.heap.size → m' b = m b) : Fits E σ m' st a w' :=
  { sz := h.sz
    tm := fun i s v a b => (h.tm i s v a b).mono (Names.le_refl σ) hle
    dfr := h.dfr.keep (fun D hD => by rw [hB.block D (Array.getElem?_eq_some_iff.1 hD).1]; exact hD) (fun D hD hn => by rw [hold D (Array.getElem?_eq_some_iff.1 hD).1]; exact hn)
    yld := h.yld, sav := h.sav, mem := hmem, le := Mem.le_trans h.le hle
    objs := fun o ov ho => ((h.objs o ov ho).mono (Names.le_refl σ) hle).keep fun b ha hb => hB.block b ((h.objs o ov ho).lt ha hb)
    sep := fun o ov b ho ha hb => by
      have hs := h.sep o ov b ho ha hb
      exact ⟨by rw [hold b ((h.objs o ov ho).lt ha hb)]; exact hs.1, hs.2⟩
    inj := h.inj, dom := h.dom
    grow := Nat.le_trans h.grow hB.size
    keep := fun b hlt hm => by rw [hB.block b (Nat.lt_of_lt_of_le hlt h.grow)]; exact h.keep b hlt hm
    old := fun b hlt hm => by rw [hold b (Nat.lt_of_lt_of_le hlt h.grow)]; exact h.old b hlt hm
    os := hB.os.trans h.os, tape := hB.tape.trans h.tape, output := hB.output.trans h.output, drawn := Nat.le_trans h.drawn hB.drawn }
end
/-- the variables of a call's results -/
def Vars (ρ : List D) (n : Nat) (ds : List D) : Prop := ∀ (i : Nat) d, ds[i]? = some d → ρ[n + i]? = some d
theorem Vars.head {ρ : List D} {n : Nat} {d : D} {ds : List D} (h : Vars ρ n (d :: ds)) : ρ[n]? = some d := by simpa using h 0 d rfl
theorem Vars.tail {ρ : List D} {n : Nat} {d : D} {ds : List D} (h : Vars ρ n (d :: ds)) : Vars ρ (n + 1) ds := fun i e he => by
  have := h (i + 1) e (by simpa using he)
  rw [← this]; congr 1; omega
theorem Vars.left {ρ : List D} {n : Nat} {ds es : List D} (h : Vars ρ n (ds ++ es)) : Vars ρ n ds := fun i d hd => h i d (by rw [List.getElem?_append_left (List.getElem?_eq_some_iff.1 hd).1]; exact hd)
theorem Vars.right {ρ : List D} {n : Nat} {ds es : List D} (h : Vars ρ n (ds ++ es)) : Vars ρ (n + ds.length) es := fun i d hd => by
  have := h (ds.length + i) d (by rw [List.getElem?_append_right (by omega)]; simpa using hd)
  rw [← this]; congr 1; omega
theorem Vars.self (ρ ds : List D) : Vars (ρ ++ ds) ρ.length ds := fun i d hd => by
  rw [List.getElem?_append_right (by omega)]; simpa using hd
theorem LOk.var {ρ : List D} {n : Nat} {k : K} {d : D} (h : ρ[n]? = some d) (hk : HasK k d) : LOk ρ ⟨.var n, k⟩ := by
  refine .mk' (d := d) (by simp [den, List.getD, h]) hk fun rs => ?_
  have hlt := (List.getElem?_eq_some_iff.1 h).1
  simp only [den, List.getD]
  rw [List.getElem?_append_left hlt]
theorem denL_var {ρ : List D} {n : Nat} {k : K} {d : D} (h : ρ[n]? = some d) : denL ρ ⟨.var n, k⟩ = d := by simp [denL, den, List.getD, h]
theorem freshCells_ok {ρ : List D} : ∀ {ks : List K} {n : Nat} {ds : List D}, Vars ρ n ds → HasKs ks ds → (freshCells n ks).length = ds.length ∧ (∀ x ∈ freshCells n ks, LOk ρ x) ∧ ∀ (i : Nat) x d, (freshCells n ks)[i]? = some x → ds[i]? = some d → denL ρ x = d
  | [], n, [], _, _ => ⟨rfl, by simp [freshCells], by simp [freshCells]⟩
  | [], _, _ :: _, _, h => by simp [HasKs] at h
  | _ :: _, _, [], _, h => by simp [HasKs] at h
  | k :: ks, n, d :: ds, hv, h => by
    simp only [HasKs] at h
    obtain ⟨h1, h2, h3⟩ := freshCells_ok hv.tail h.2
    refine ⟨by simp [freshCells, h1], ?_, ?_⟩
    · intro x hx
      simp only [freshCells, List.mem_cons] at hx
      rcases hx with rfl | hx
      · exact .var hv.head h.1
      · exact h2 x hx
    · intro i x e hx he
      cases i with
      | zero => simp [freshCells] at hx he; subst hx he; exact denL_var hv.head
      | succ i => exact h3 i x e (by simpa [freshCells] using hx) (by simpa using he)
theorem RV.cells_own {ks : List K} {v : RV} {ds : List D} (h : v.cells (.own ks) = some ds) : ∃ xs, v = .own ks.length xs ∧ ds = [.slice xs] := by
  cases v with
  | any => simp [RV.cells] at h
  | d x => simp [RV.cells] at h
  | own e xs =>
    simp only [RV.cells] at h
    split at h
    · rename_i he; subst he; cases h; exact ⟨xs, rfl, rfl⟩
    · cases h
theorem RepR.mono {m m' : Mem} {w : World} {B : Nat → Prop} {r : RV} {u : Value} (h : RepR m w B r u) (hle : m.le m') (hn : ∀ b, r.isOwn = true → blk u = some b → m' b = Option.none) : RepR m' w B r u := by
  cases h with
  | d h => exact .d (h.mono hle)
  | none => exact .none
  | any => exact .any
  | own hB hm hb h0 hc hcc hcap hsz he hv => exact .own hB (hn _ rfl (blk_slice h0)) hb h0 hc hcc hcap hsz he fun i j x d v a b c => (hv i j x d v a b c).mono hle
theorem HasKs.unappend : ∀ {ks ks' : List K} {ds ds' : List D}, ds.length = ks.length → HasKs (ks ++ ks') (ds ++ ds') → HasKs ks ds ∧ HasKs ks' ds'
  | [], _, [], _, _, h => by simpa [HasKs] using h
  | [], _, _ :: _, _, h, _ => by simp at h
  | _ :: _, _, [], _, h, _ => by simp at h
  | k :: ks, _, d :: ds, _, hl, h => by
    simp only [List.cons_append, HasKs] at h
    obtain ⟨h1, h2⟩ := HasKs.unappend (by simpa using hl) h.2
    simp only [HasKs]
    exact ⟨⟨h.1, h1⟩, h2⟩
section
variable {E : Env} {ρ : List D} {ts : List (SV TK)} {a : Act} {w : World}
/-- what a call's results come to -/
structure ResOk (E : Env) (ρ : List D) (ts : List (SV TK)) (a : Act) (w : World) (σ : Names) (m : Mem) (objs' : List (OV TK)) (vs : List (SV TK)) (us : List Value) (σ' : Names) (m' : Mem) : Prop where
  leσ : σ.le σ'
  lem : m.le m'
  fits : Fits E σ' m' (denSt ρ ⟨ts, objs'⟩) a w
  objs : ∀ o ∈ objs', OV.Ok ρ o
  len : vs.length = us.length
  rs : ∀ (i : Nat) v u, vs[i]? = some v → us[i]? = some u → RS σ' m' ρ v u
  all : ∀ v ∈ vs, SV.Ok ρ v
/-- the results of a call as symbolic values -/
theorem resSVs_ok {B : Nat → Prop} : ∀ {rk : List RK} {rvs : List RV} {us : List Value} {n : Nat} {objs objs' : List (OV TK)} {vs : List (SV TK)} {n' : Nat} {ds : List D} {σ : Names} {m : Mem},
    resSVs rk n objs = (vs, n', objs') → RV.all rk rvs = some ds → HasKs (RK.all rk) ds → Vars ρ n ds → Fits E σ m (denSt ρ ⟨ts, objs⟩) a w → (∀ o ∈ objs, OV.Ok ρ o) →
    us.length = rvs.length → (∀ (i : Nat) r u, rvs[i]? = some r → us[i]? = some u → RepR m w B r u) → (∀ b, B b → E.w0.heap.size ≤ b ∨ E.mine b) →
    (∀ (i : Nat) r u b, rvs[i]? = some r → us[i]? = some u → r.isOwn = true → blk u = some b → ∀ (o : Nat) ov, objs[o]? = some ov → ov.alive = true → (σ o).bind blk ≠ some b) →
    (∀ (i j : Nat) r r' u u' b, i ≠ j → rvs[i]? = some r → rvs[j]? = some r' → us[i]? = some u → us[j]? = some u' → r.isOwn = true → r'.isOwn = true → blk u = some b → blk u' ≠ some b) →
    n' = n + (RK.all rk).length ∧ ∃ σ' m', ResOk E ρ ts a w σ m objs' vs us σ' m'
  | [], rvs, us, n, objs, objs', vs, n', ds, σ, m, h, hall, hk, hv, hf, hok, hl, hr, hB, hs1, hs2 => by
    cases rvs with
    | cons r rvs => simp [RV.all] at hall
    | nil =>
      simp [resSVs] at h
      obtain ⟨rfl, rfl, rfl⟩ := h
      cases us with
      | cons u us => simp at hl
      | nil => exact ⟨by simp [RK.all], σ, m, ⟨Names.le_refl σ, Mem.le_refl m, hf, hok, rfl, by simp, by simp⟩⟩
  | k :: rk, rvs, us, n, objs, objs', vs, n', ds, σ, m, h, hall, hk, hv, hf, hok, hl, hr, hB, hs1, hs2 => by
    cases rvs with
    | nil => simp [RV.all] at hall
    | cons r rvs =>
    cases us with
    | nil => simp at hl
    | cons u us =>
    simp only [RV.all] at hall
    split at hall <;> try contradiction
    rename_i d1 d2 h1 h2
    cases hall
    have hr0 := hr 0 _ _ rfl rfl
    have hl' : us.length = rvs.length := by simpa using hl
    have hrt : ∀ (i : Nat) r u, rvs[i]? = some r → us[i]? = some u → RepR m w B r u := fun i r u a b => hr (i + 1) r u (by simpa using a) (by simpa using b)
    have hs1t : ∀ (i : Nat) r u b, rvs[i]? = some r → us[i]? = some u → r.isOwn = true → blk u = some b → ∀ (o : Nat) ov, objs[o]? = some ov → ov.alive = true → (σ o).bind blk ≠ some b :=
      fun i r u b x y => hs1 (i + 1) r u b (by simpa using x) (by simpa using y)
    have hs2t : ∀ (i j : Nat) r r' u u' b, i ≠ j → rvs[i]? = some r → rvs[j]? = some r' → us[i]? = some u → us[j]? = some u' → r.isOwn = true → r'.isOwn = true → blk u = some b → blk u' ≠ some b :=
      fun i j r r' u u' b hne a1 a2 a3 a4 => hs2 (i + 1) (j + 1) r r' u u' b (by omega) (by simpa using a1) (by simpa using a2) (by simpa using a3) (by simpa using a4)
    -- how the first one and the others are put together
    have fin : ∀ {σ1 : Names} {m1 : Mem} {v : SV TK} {vs2 : List (SV TK)} {n1 : Nat}, σ.le σ1 → m.le m1 → (n' = n1 + (RK.all rk).length ∧ ∃ σ' m', ResOk E ρ ts a w σ1 m1 objs' vs2 us σ' m') →
        RS σ1 m1 ρ v u → SV.Ok ρ v → n1 = n + k.kinds.length →
        n' = n + (RK.all (k :: rk)).length ∧ ∃ σ' m', ResOk E ρ ts a w σ m objs' (v :: vs2) (u :: us) σ' m' := by
      rintro σ1 m1 v vs2 n1 hle hlm ⟨hn', σ', m', g⟩ hrs hka hn
      refine ⟨by rw [hn', hn]; simp [RK.all]; omega, σ', m', fun o v hv => g.leσ o v (hle o v hv), Mem.le_trans hlm g.lem, g.fits, g.objs, by simp [g.len], ?_, ?_⟩
      · intro i v' u' hv' hu'
        cases i with
        | zero => simp at hv' hu'; subst hv' hu'; exact hrs.mono g.leσ g.lem
        | succ i => exact g.rs i v' u' (by simpa using hv') (by simpa using hu')
      · intro v' hv'
        rcases List.mem_cons.1 hv' with rfl | hv'
        · exact hka
        · exact g.all v' hv'
    cases k with
    | cell kk =>
      have hk' : RK.all (.cell kk :: rk) = kk :: RK.all rk := rfl
      rw [hk'] at hk
      simp only [resSVs] at h
      generalize hrec : resSVs rk (n + 1) objs = rec at h
      obtain ⟨vs2, n2, o2⟩ := rec
      simp only [Prod.mk.injEq] at h
      obtain ⟨rfl, rfl, rfl⟩ := h
      -- the first one as data
      have one : ∃ x m1, d1 = [x] ∧ m.le m1 ∧ RepD m1 x u ∧ Fits E σ m1 (denSt ρ ⟨ts, objs⟩) a w ∧ ∀ (i : Nat) r u, rvs[i]? = some r → us[i]? = some u → RepR m1 w B r u := by
        cases r with
        | any => simp [RV.cells] at h1
        | d x => simp [RV.cells] at h1; subst h1; cases hr0; exact ⟨x, m, rfl, Mem.le_refl m, by assumption, hf, hrt⟩
        | own e xs =>
          simp [RV.cells] at h1; subst h1
          cases hr0 with
          | none => exact ⟨_, m, rfl, Mem.le_refl m, .empty _ _, hf, hrt⟩
          | own hB' hm hb h0c hc hcc hcap hsz he hvv =>
            rename_i b c arr bt
            obtain ⟨f1, f2⟩ := hf.addMem2 hm hb (hB _ hB') (fun o ov ho hal => by
              simp only [denSt, St.map, List.getElem?_map, Option.map_eq_some_iff] at ho
              obtain ⟨ov', ho', rfl⟩ := ho
              exact hs1 0 _ _ b rfl rfl rfl (blk_slice h0c) o ov' ho' (by cases ov' <;> first | rfl | (simp [OV.map, OV.alive] at hal)))
            refine ⟨_, _, rfl, f2, .slice xs b 0 arr bt (0, 0) e c hc hcap (by simp [Mem.add]) he (by rw [hsz, Nat.zero_add]; exact Nat.mul_le_mul_right _ hc)
              (fun i j x d v q1 q2 q3 => (hvv i j x d v q1 q2 (by rw [← q3, Nat.zero_add])).mono f2), f1, fun i r u q1 q2 => ?_⟩
            refine (hrt i r u q1 q2).mono f2 fun b' ho' hb'' => ?_
            have hne : b' ≠ b := fun e => hs2 0 (i + 1) _ _ _ _ b (by omega) rfl (by simpa using q1) rfl (by simpa using q2) rfl ho' (blk_slice h0c) (by rw [← e]; exact hb'')
            simp only [Mem.add, if_neg hne]
            have := hrt i r u q1 q2
            cases this with
            | d => cases ho'
            | any => cases ho'
            | none => simp [blk_zero] at hb''
            | own _ hm2 _ h0d => rw [blk_slice h0d] at hb''; cases hb''; exact hm2
      obtain ⟨x, m1, rfl, hlm, hx, hf1, hr1⟩ := one
      simp only [List.singleton_append] at hk hv
      simp only [HasKs] at hk
      have hrec' := resSVs_ok hrec h2 hk.2 hv.tail hf1 hok hl' hr1 hB hs1t hs2t
      exact fin (n1 := n + 1) (Names.le_refl σ) hlm hrec' (.d (by rw [denL_var hv.head]; exact hx)) (.d (.var hv.head hk.1)) rfl
    | agg kk =>
      have hk' : RK.all (.agg kk :: rk) = kk ++ RK.all rk := rfl
      rw [hk'] at hk
      simp only [resSVs] at h
      generalize hrec : resSVs rk (n + kk.length) objs = rec at h
      obtain ⟨vs2, n2, o2⟩ := rec
      simp only [Prod.mk.injEq] at h
      obtain ⟨rfl, rfl, rfl⟩ := h
      cases r with
      | own e xs => simp [RV.cells] at h1
      | any => simp [RV.cells] at h1
      | d x =>
      cases x <;> simp [RV.cells] at h1
      obtain ⟨hlen, rfl⟩ := h1
      rename_i cs
      have hkk : HasKs kk cs ∧ HasKs (RK.all rk) d2 := HasKs.unappend hlen hk
      have hrec' := resSVs_ok hrec h2 hkk.2 (by rw [← hlen]; exact hv.right) hf hok hl' hrt hB hs1t hs2t
      obtain ⟨c1, c2, c3⟩ := freshCells_ok hv.left hkk.1
      refine fin (n1 := n + kk.length) (Names.le_refl σ) (Mem.le_refl m) hrec' ?_ (.agg fun c hc => by obtain ⟨y, hy, rfl⟩ := List.mem_map.1 hc; exact .d (c2 y hy)) rfl
      cases hr0 with
      | d hd =>
      cases hd with
      | agg _ arr hsz hvv =>
        simp only [RS, SV.map, SV.mapL_eq, List.map_map]
        refine .agg (by simp [hsz, c1]) fun i c v hc hu => ?_
        simp only [List.getElem?_map, Option.map_eq_some_iff] at hc
        obtain ⟨y, hy, rfl⟩ := hc
        have hlt : i < cs.length := by rw [← c1]; exact (List.getElem?_eq_some_iff.1 hy).1
        refine .d ?_
        rw [c3 i y _ hy (List.getElem?_eq_getElem hlt)]
        exact hvv i _ v (List.getElem?_eq_getElem hlt) hu
    | any =>
      simp only [resSVs] at h
      generalize hrec : resSVs rk n objs = rec at h
      obtain ⟨vs2, n2, o2⟩ := rec
      simp only [Prod.mk.injEq] at h
      obtain ⟨rfl, rfl, rfl⟩ := h
      have hd1 : d1 = [] := by cases r <;> simp [RV.cells] at h1 <;> exact h1
      subst hd1
      have hrec' := resSVs_ok hrec h2 hk (by simpa using hv) hf hok hl' hrt hB hs1t hs2t
      exact fin (n1 := n) (Names.le_refl σ) (Mem.le_refl m) hrec' .any .any rfl
    | own kk =>
      have hk' : RK.all (.own kk :: rk) = .slice kk :: RK.all rk := rfl
      rw [hk'] at hk
      simp only [resSVs] at h
      generalize hrec : resSVs rk (n + 1) (objs ++ [OV.arr kk.length { t := T.var n, k := K.slice kk }]) = rec at h
      obtain ⟨vs2, n2, o2⟩ := rec
      simp only [Prod.mk.injEq] at h
      obtain ⟨rfl, rfl, rfl⟩ := h
      obtain ⟨xs, rfl, rfl⟩ := RV.cells_own h1
      simp only [List.singleton_append] at hk hv
      simp only [HasKs] at hk
      have hden := denL_var (k := .slice kk) hv.head
      have hlv : LOk ρ ⟨.var n, .slice kk⟩ := .var hv.head hk.1
      have hA : Fits E (σ.add objs.length u) m (denSt ρ ⟨ts, objs ++ [.arr kk.length ⟨.var n, .slice kk⟩]⟩) a w := by
        rw [denSt_snoc (st := ⟨ts, objs⟩)]
        have := hf.newObj (v0 := u) (ov := .arr kk.length (.slice xs)) (by
          rw [denSt_len]
          cases hr0 with
          | none => exact .none (names_add_self _ _ _)
          | own hB' hm hb h0c hc hcc hcap hsz he hvv => exact .arr (names_add_self _ _ _) hb h0c hc hcc hcap hsz he hvv) (fun b hbb hal => by
            refine ⟨?_, ?_, fun o ov ho hal' => ?_⟩
            · cases hr0 with
              | none => simp [blk_zero] at hbb
              | own hB' hm _ h0c => rw [blk_slice h0c] at hbb; cases hbb; exact hm
            · cases hr0 with
              | none => simp [blk_zero] at hbb
              | own hB' hm _ h0c => rw [blk_slice h0c] at hbb; cases hbb; exact hB _ hB'
            · simp only [denSt, St.map, List.getElem?_map, Option.map_eq_some_iff] at ho
              obtain ⟨ov', ho', rfl⟩ := ho
              exact hs1 0 _ _ b rfl rfl rfl hbb o ov' ho' (by cases ov' <;> first | rfl | (simp [OV.map, OV.alive] at hal')))
        rw [denSt_len] at this
        simp only [OV.map, hden]
        exact this
      have hle : σ.le (σ.add objs.length u) := by
        have := Names.le_add hf.dom (Nat.le_refl _) u
        rw [denSt_len] at this
        exact this
      have hrec' := resSVs_ok hrec h2 hk.2 hv.tail hA (by
          intro o ho
          rcases List.mem_append.1 ho with ho | ho
          · exact hok o ho
          · simp at ho; subst ho; exact .arr hlv) hl' hrt hB
        (by
          intro i r u' b hi hu ho hb o ov hov hal
          rw [List.getElem?_append] at hov
          split at hov
          · rename_i hlt
            simp only [Names.add]
            rw [if_neg (by omega)]
            exact hs1t i r u' b hi hu ho hb o ov hov hal
          · rename_i hge
            have hq : o = objs.length := by
              have := (List.getElem?_eq_some_iff.1 hov).1
              simp at this; omega
            subst hq
            simp only [Names.add, if_true, Option.bind_some]
            exact fun hbu => hs2 0 (i + 1) _ _ _ _ b (by omega) rfl (by simpa using hi) rfl (by simpa using hu) rfl ho hbu hb) hs2t
      exact fin (n1 := n + 1) hle (Mem.le_refl m) hrec' (.own (names_add_self _ _ _)) .own rfl
end
end Go.Sx
namespace Go.Sx
open Go Go.RowKit
section
variable {E : Env} {ρ : List D} {σ : Names} {m : Mem} {st : St TK} {a : Act} {w : World}
theorem denSt_putT (dst : Option Tmp) (sv : SV TK) (objs : List (OV TK)) : denSt ρ ⟨putT st.tmps dst sv, objs⟩ = ⟨putT (denSt ρ ⟨st.tmps, objs⟩).tmps dst (sv.map (denL ρ)), (denSt ρ ⟨st.tmps, objs⟩).objs⟩ := by
  cases dst <;> simp [denSt, St.map, putT, List.map_set]
theorem St.Ok.putT {st : St TK} (h : st.Ok ρ) (dst : Option Tmp) {sv : SV TK} {objs : List (OV TK)} (hs : SV.Ok ρ sv) (ho : ∀ o ∈ objs, OV.Ok ρ o) : St.Ok ρ ⟨putT st.tmps dst sv, objs⟩ := by
  refine ⟨fun v hv => ?_, ho⟩
  cases dst with
  | none => exact h.tmps v hv
  | some d =>
    simp only [Go.Sx.putT] at hv
    rcases List.mem_or_eq_of_mem_set hv with hv | rfl
    · exact h.tmps v hv
    · exact hs
/-- under which condition an operation is done -/
theorem guardT_ok {ops : Array Oper} {o : Oper} {g : Option T} (hf : Fits E σ m (denSt ρ st) a w) (hok : st.Ok ρ) (h : guardT st ops.toList o.guard = some g) :
    (g = none → Region.wanted o (yielded ops a.tmps) = true) ∧ ∀ c, g = some c → LOk ρ ⟨c, .bool⟩ ∧ den ρ c = .bool (Region.wanted o (yielded ops a.tmps)) := by
  unfold guardT at h
  split at h
  · rename_i hg
    cases h
    exact ⟨fun _ => by simp [Region.wanted, hg], by simp⟩
  · rename_i j want hg
    split at h <;> try contradiction
    rename_i d hd
    have hd' : (ops[j]?).bind (·.dst) = some d := by simpa using hd
    -- the slot and what it holds
    have slot : ∀ sv, st.tmps.getD d .any = sv → sv ≠ .any → ∃ v, a.tmps[d]? = some v ∧ RS σ m ρ sv v ∧ SV.Ok ρ sv := by
      intro sv hsv hne
      cases hs : st.tmps[d]? with
      | none => simp [List.getD, hs] at hsv; exact absurd hsv.symm hne
      | some s =>
        have : s = sv := by simpa [List.getD, hs] using hsv
        subst this
        have hlt : d < st.tmps.length := (List.getElem?_eq_some_iff.1 hs).1
        have hsz := hf.sz
        simp only [denSt, St.map, List.length_map] at hsz
        have hlt' : d < a.tmps.size := by rw [hsz]; exact hlt
        exact ⟨a.tmps[d], by simp [hlt'], hf.tm d _ _ (by simp [denSt, St.map, hs]) (by simp [hlt']), hok.tmps s (List.mem_of_getElem? hs)⟩
    have wantIf : ∀ {t : T} {b : Bool}, LOk ρ ⟨t, .bool⟩ → den ρ t = .bool b → LOk ρ ⟨if want then t else T.notB t, .bool⟩ ∧ den ρ (if want then t else T.notB t) = .bool (b == want) := by
      intro t b hl hd
      cases want
      · exact ⟨hl.notB, by simp [T.notB, den, hd, O1.eval]⟩
      · exact ⟨hl, by simp [hd]⟩
    split at h <;> try contradiction
    · rename_i t ht
      cases h
      obtain ⟨v, hv, hr, hk⟩ := slot _ ht (by simp)
      obtain ⟨b, hb, hev⟩ := RS.bool hr (all_d hk)
      refine ⟨by simp, fun c hc => ?_⟩
      cases hc
      obtain ⟨w1, w2⟩ := wantIf (all_d hk) hb
      refine ⟨w1, ?_⟩
      rw [w2]
      simp [Region.wanted, hg, yielded, hd', hv, hev]
    · rename_i c0 t ht
      cases h
      obtain ⟨v, hv, hr, hk⟩ := slot _ ht (by simp)
      cases hk with
      | grd hkc hst hkt =>
      obtain ⟨cb, hcb⟩ := hkc.1.bool_inv
      simp only at hcb
      simp only [RS, SV.map] at hr
      cases hr with
      | grd h1 h2 =>
      simp only [denL] at h1 h2
      refine ⟨by simp, fun c hc => ?_⟩
      cases hc
      have hst' : ∀ rs, den (ρ ++ rs) t = den ρ t := by cases hst with | d h => exact h
      have stab : ∀ rs, den (ρ ++ rs) (.o2 .band c0 (if want then t else T.notB t)) = den ρ (.o2 .band c0 (if want then t else T.notB t)) := by
        intro rs
        simp only [den]
        rw [hkc.2 rs]
        congr 1
        cases want
        · simp only [Bool.false_eq_true, if_false, T.notB, den]; rw [hst' rs]
        · simp only [if_true]; exact hst' rs
      have key : den ρ (.o2 .band c0 (if want then t else T.notB t)) = .bool (Region.wanted o (yielded ops a.tmps)) := by
        cases cb with
        | true =>
          obtain ⟨b, hb, hev⟩ := RS.bool (h1 hcb) (all_d (hkt hcb))
          obtain ⟨w1, w2⟩ := wantIf (all_d (hkt hcb)) hb
          simp only [den, hcb, w2, O2.eval]
          simp [Region.wanted, hg, yielded, hd', hv, hev]
        | false =>
          have : v = undef := h2 (by rw [hcb]; simp)
          simp only [den, hcb]
          have e2 : ∀ x : D, O2.eval .band (.bool false) x = .bool false := by intro x; cases x <;> simp [O2.eval]
          rw [e2]
          simp [Region.wanted, hg, yielded, hd', hv, this, undef]
      exact ⟨.mk' key (.mk_bool _) stab, key⟩
/-- what is known (g), and what the result is under (gr) -/
structure GOk (ρ : List D) (ops : Array Oper) (o : Oper) (a : Act) (g gr : Option T) : Prop where
  nn : gr = none → Region.wanted o (yielded ops a.tmps) = true
  ss : ∀ c, gr = some c → LOk ρ ⟨c, .bool⟩ ∧ den ρ c = .bool (Region.wanted o (yielded ops a.tmps))
  known : Region.wanted o (yielded ops a.tmps) = true → ∀ c, g = some c → den ρ c = .bool true
  both : ∀ c, gr = some c → g = some c
theorem GOk.of {ops : Array Oper} {o : Oper} {g : Option T} (hf : Fits E σ m (denSt ρ st) a w) (hok : st.Ok ρ) (h : guardT st ops.toList o.guard = some g) : GOk ρ ops o a g g := by
  obtain ⟨g1, g2⟩ := guardT_ok hf hok h
  exact ⟨g1, g2, fun hw c hc => by rw [(g2 c hc).2, hw], fun c hc => hc⟩
/-- a plain operation, done if it is wanted -/
structure PureOk (E : Env) (ρ : List D) (σ : Names) (m : Mem) (st : St TK) (ops : Array Oper) (a : Act) (w : World) (o : Oper) (sv : SV TK) (objs : List (OV TK)) (fs : List T) (v : Value) (w' : World) (σ' : Names) (m' : Mem) : Prop where
  leσ : σ.le σ'
  lem : m.le m'
  run : Region.wanted o (yielded ops a.tmps) = true → (execOp a.eval o).run E.P w = .ok (.value v) w' ∨ ((execOp a.eval o).run E.P w = .ok .skip w' ∧ v = undef)
  skip : Region.wanted o (yielded ops a.tmps) = false → v = undef ∧ w' = w
  fits : Fits E σ' m' (denSt ρ ⟨putT st.tmps o.dst sv, objs⟩) (a.put o.dst v) w'
  rs : RS σ' m' ρ sv v
  all : St.Ok ρ ⟨putT st.tmps o.dst sv, objs⟩
  facts : ∀ t ∈ fs, den ρ t = .bool true
theorem pure_ok {ops : Array Oper} {o : Oper} {g gr : Option T} {s : Sym} (hf : Fits E σ m (denSt ρ st) a w) (hok : st.Ok ρ) (hG : GOk ρ ops o a g gr) (hs : sxOp E.P g st o = some s) (hcl : gr.isSome = true → s.v.closed ρ.length = true) :
    (gr = none → (∀ t ∈ s.needs, den ρ t = .bool true) → ∃ v w' σ' m', PureOk E ρ σ m st ops a w o s.v (s.objs.getD st.objs) s.facts v w' σ' m' ∧ (s.objs = none → w' = w ∧ σ' = σ ∧ m' = m)) ∧
    (∀ c, gr = some c → s.objs = none → (∀ t ∈ s.needs.map (T.imp c), den ρ t = .bool true) → ∃ v, PureOk E ρ σ m st ops a w o (.grd ⟨c, .bool⟩ s.v) st.objs (s.facts.map (T.imp c)) v w σ m) := by
  constructor
  · intro hgr hn
    have hw := hG.nn hgr
    obtain ⟨v, w', σ', m', h1, h2, h3, h4, h5, h6, h7, h8, h9⟩ := sxOp_ok hf hok (g := g) (hG.known hw) hs hn
    refine ⟨v, w', σ', m', ⟨h1, h2, fun _ => h3, (fun h => by rw [hw] at h; cases h), ?_, h5, hok.putT _ h6 h7, h8⟩, h9⟩
    rw [denSt_putT]
    exact h4.put o.dst h5
  · intro c hgr hno hn
    obtain ⟨hc, hw⟩ := hG.ss c hgr
    cases hb : Region.wanted o (yielded ops a.tmps) with
    | true =>
      rw [hb] at hw
      have hn' : ∀ t ∈ s.needs, den ρ t = .bool true := by
        intro t ht
        have := hn _ (List.mem_map_of_mem ht)
        simp only [T.imp, den, hw, D.cond] at this
        exact this
      obtain ⟨v, w', σ', m', h1, h2, h3, h4, h5, h6, h7, h8, h9⟩ := sxOp_ok hf hok (g := g) (hG.known hb) hs hn'
      obtain ⟨rfl, rfl, rfl⟩ := h9 hno
      rw [hno] at h4 h7
      have hr : RS σ' m' ρ (.grd ⟨c, .bool⟩ s.v) v := .grd (fun _ => h5) (fun h => absurd hw (by simpa [denL] using h))
      refine ⟨v, Names.le_refl _, Mem.le_refl _, fun _ => h3, (fun h => by rw [hb] at h; cases h), ?_, hr, hok.putT _ (.grd hc h6.stb fun _ => h6) hok.objs, ?_⟩
      · rw [denSt_putT]
        exact hf.put o.dst hr
      · intro t ht
        obtain ⟨t', ht', rfl⟩ := List.mem_map.1 ht
        simp only [T.imp, den, hw, D.cond]
        exact h8 t' ht'
    | false =>
      rw [hb] at hw
      have hr : RS σ m ρ (.grd ⟨c, .bool⟩ s.v) undef := .grd (fun h => by simp [denL, hw] at h) (fun _ => rfl)
      refine ⟨undef, Names.le_refl _, Mem.le_refl _, (fun h => by rw [hb] at h; cases h), fun _ => ⟨rfl, rfl⟩, ?_, hr, hok.putT _ (.grd hc (SV.closed_ok (hcl (by rw [hgr]; rfl))) fun h => by simp [hw] at h) hok.objs, ?_⟩
      · rw [denSt_putT]
        exact hf.put o.dst hr
      · intro t ht
        obtain ⟨t', ht', rfl⟩ := List.mem_map.1 ht
        simp only [T.imp, den, hw, D.cond]
end
end Go.Sx
namespace Go.Sx
open Go Go.RowKit
/-! ### freezing without objects -/
theorem freezeAll_nil {f : List (OV TK) → SV TK → Option (TK × List (OV TK))} (hf : ∀ {v x o'}, f [] v = some (x, o') → o' = [] ∧ ∀ objs, f objs v = some (x, objs)) :
    ∀ {vs xs o'}, freezeAll f [] vs = some (xs, o') → o' = [] ∧ ∀ objs, freezeAll f objs vs = some (xs, objs) := by
  intro vs
  induction vs with
  | nil => intro xs o' h; simp [freezeAll] at h; obtain ⟨rfl, rfl⟩ := h; exact ⟨rfl, fun _ => rfl⟩
  | cons v vs ih =>
    intro xs o' h
    simp only [freezeAll] at h
    split at h <;> try contradiction
    rename_i x o1 h1
    split at h <;> try contradiction
    rename_i xs1 o2 h2
    cases h
    obtain ⟨rfl, g1⟩ := hf h1
    obtain ⟨rfl, g2⟩ := ih h2
    exact ⟨rfl, fun objs => by simp only [freezeAll, g1, g2]⟩
theorem freeze_nil : ∀ (n : Nat) {v : SV TK} {x : TK} {o' : List (OV TK)}, freeze n [] v = some (x, o') → o' = [] ∧ ∀ objs, freeze n objs v = some (x, objs)
  | 0, _, _, _, h => by simp [freeze] at h
  | n + 1, v, x, o', h => by
    cases v with
    | d y => simp [freeze] at h; obtain ⟨rfl, rfl⟩ := h; exact ⟨rfl, fun _ => by simp [freeze]⟩
    | nil => simp [freeze] at h; obtain ⟨rfl, rfl⟩ := h; exact ⟨rfl, fun _ => by simp [freeze]⟩
    | own o => simp [freeze] at h
    | ptr o off => simp [freeze] at h
    | agg cs =>
      simp only [freeze] at h
      split at h <;> try contradiction
      rename_i xs o1 h1
      cases h
      obtain ⟨rfl, g⟩ := freezeAll_nil (fun {v x o'} => freeze_nil n) h1
      exact ⟨rfl, fun objs => by simp only [freeze, g]⟩
    | clo f cs =>
      simp only [freeze] at h
      split at h <;> try contradiction
      rename_i xs o1 h1
      cases h
      obtain ⟨rfl, g⟩ := freezeAll_nil (fun {v x o'} => freeze_nil n) h1
      exact ⟨rfl, fun objs => by simp only [freeze, g]⟩
    | _ => simp [freeze] at h
theorem T.toList_ok {ρ : List D} : ∀ {e : T} {ts : List T}, T.toList e = some ts → (den ρ e).list = ts.map (den ρ) := by
  intro e
  induction e with
  | lnil => intro ts h; simp [T.toList] at h; subst h; rfl
  | lcons a b _ ih =>
    intro ts h
    simp only [T.toList, Option.map_eq_some_iff] at h
    obtain ⟨ts', h1, rfl⟩ := h
    show den ρ a :: (den ρ b).list = _
    rw [ih h1]; rfl
  | _ => intro ts h; simp [T.toList] at h
section
variable {E : Env} {ρ : List D} {σ : Names} {m : Mem} {st : St TK} {a : Act} {w : World}
/-- the frames of which the rules speak: a function's, or a round's -/
def fen (r : Option Nat) : Fence := { Fence.wide with round := r }
theorem calls_in {P : Program} {r : Option Nat} {n : Nat} {f : FuncId} {args : Array Value} {w : World} {R : Ending → World → Prop} (h : Calls P f args w R) : CallsIn (fen r) n P f args w R := by
  have h' : CallsIn Fence.wide n P f args w R := callsIn_wide.2 h
  cases r with
  | none => exact h'
  | some l => exact CallsIn.inRound l h'
theorem not_defer {P : Program} {o : Oper} {ev : Operand → Value} {w w' : World} {x : Next} (h : (execOp ev o).run P w = .ok x w') (hx : ∀ d, x ≠ .defer d) : ∀ c, o.op ≠ .defer c := by
  intro c hc
  simp only [execOp, hc] at h
  cases hr : (resolve ev c o.type).run P w with
  | ok d w1 =>
    simp [Sem.run_bind, hr, Result.andThen] at h
    exact hx d h.1.symm
  | halt y w1 => simp [Sem.run_bind, hr, Result.andThen] at h
theorem wpIn_upon {P : Program} {r : Option Nat} {o : Oper} {a : Act} {w w' : World} {K : Act → World → Prop} {Q : Exit → Act → World → Prop} {x : Next} (hr : (execOp a.eval o).run P w = .ok x w') (hx : ∀ d, x ≠ .defer d)
    (h : o.uponIn (fen r) 0 P a K Q (.ok x w')) : o.wpIn (fen r) 0 P a w K Q :=
  ⟨fun _ _ => trivial, by
    rw [Oper.semAt_eq _ _ _ (not_defer hr hx), hr]; exact h⟩
/-- what the operation gives, whatever frame it is done in that looks the same to it -/
def Res (E : Env) (Kd : Ags → List D → XExit → XS → Prop) (ags : Ags) (a : Act) (dst : Option Tmp) (v : Value) (w' : World) : Prop :=
  ∃ ρ xs σ m, Kd ags ρ .norm xs ∧ Fits E σ m (denSt ρ xs.st) (a.put dst v) w' ∧ XOk ρ xs
def StepOk (E : Env) (ops : Array Oper) (o : Oper) (a : Act) (w : World) (R : Value → World → Prop) : Prop :=
  ∀ (a' : Act) (K : Act → World → Prop) (Q : Exit → Act → World → Prop), Region.wanted o (yielded ops a'.tmps) = Region.wanted o (yielded ops a.tmps) → execOp a'.eval o = execOp a.eval o →
    (∀ v w', R v w' → K (a'.put o.dst v) w') → if Region.wanted o (yielded ops a'.tmps) then o.wpIn (fen E.r) 0 E.P a' w K Q else K (a'.put o.dst undef) w
/-- a function value -/
theorem callee_ok {t : T} {v : Value} (h : RS σ m ρ (.d ⟨t, .fn⟩) v) (hk : LOk ρ ⟨t, .fn⟩) : ∃ f caps arr, den ρ t = .clo f caps ∧ v = .func (.func f) #[] arr ∧ arr.size = caps.length ∧
    ∀ (i : Nat) d u, caps[i]? = some d → arr[i]? = some u → RepD m d u := by
  obtain ⟨f, caps, hd⟩ := hk.1.fn_inv
  simp only at hd
  have := h.d_inv
  simp only [denL, hd] at this
  cases this with
  | clo _ _ arr hsz hv => exact ⟨f, caps, arr, hd, rfl, hsz, hv⟩
theorem run_call {P : Program} {w : World} {o : Oper} {c : Call} {fv : Operand} {f : FuncId} {arr : Array Value} {ev : Operand → Value} (ho : o.op = .call c) (hc : c.callee = .value fv) (hv : ev fv = .func (.func f) #[] arr)
    (hcl : callable P f = true) : (execOp ev o).run P w = .ok (.enter f (c.args.map ev ++ arr)) w := by
  unfold callable at hcl
  split at hcl <;> try contradiction
  rename_i fn hfn
  simp only [Bool.and_eq_true, Bool.not_eq_true', Option.isSome_iff_exists] at hcl
  obtain ⟨⟨body, hb⟩, hname⟩ := hcl
  have h1 : fn.name ≠ "runtime.NumGoroutine" := by simpa using hname
  have := show (callFunc f (c.args.map ev ++ arr)).run P w = .ok (.enter f (c.args.map ev ++ arr)) w from by simp [callFunc, hfn, h1, hb]
  simp [execOp, ho, resolve, hc, hv, Deferred.ofValue, invoke, this]
/-! ### kinds of arguments and results -/
theorem nilOr_ok {x : TK} {k : K} (hx : LOk ρ x) (h : nilOr x k = true) : HasK k (denL ρ x) := nilAs_ok hx.1 h
theorem tksMatch_ok {P : Program} {caps : List D} : ∀ {tys : List TypeId} {ts : List TK}, tksMatch P tys ts = true → (∀ x ∈ ts, LOk ρ x) → tysHave P tys (ts.map (denL ρ) ++ caps)
  | [], _, _, _ => by unfold tysHave; trivial
  | _ :: _, [], h, _ => by simp [tksMatch] at h
  | t :: tys, x :: ts, h, hk => by
    simp only [tksMatch, Bool.and_eq_true] at h
    refine ⟨fun rk hrk => ?_, tksMatch_ok h.2 fun y hy => hk y (List.mem_cons_of_mem _ hy)⟩
    have h1 := h.1
    rw [hrk] at h1
    exact nilOr_ok (hk x List.mem_cons_self) h1
theorem sameTypes_eq : ∀ {a b : List TypeId}, sameTypes a b = true → a = b
  | [], [], _ => rfl
  | [], _ :: _, h => by simp [sameTypes] at h
  | _ :: _, [], h => by simp [sameTypes] at h
  | a :: l, b :: r, h => by
    simp only [sameTypes, Bool.and_eq_true, beq_iff_eq] at h
    rw [h.1, sameTypes_eq h.2]
theorem resKinds_own {P : Program} {own : Bool} : ∀ {tys : List TypeId} {rk : List RK}, resKinds P own tys = some rk → ∃ rk0, resKinds P false tys = some rk0 ∧ RK.all rk0 = RK.all rk ∧ ∀ rvs ds, RV.all rk rvs = some ds → RV.all rk0 rvs = some ds
  | [], rk, h => by simp [resKinds] at h; subst h; exact ⟨[], rfl, rfl, fun _ _ h => h⟩
  | t :: tys, rk, h => by
    simp only [resKinds] at h
    split at h <;> try contradiction
    rename_i ks hks
    obtain ⟨ks0, h1, h2, h3⟩ := resKinds_own hks
    have keep : ∀ {k k' : RK}, resKinds P false (t :: tys) = some (k :: ks0) → k.kinds = k'.kinds → (∀ v ds, RV.cells k' v = some ds → RV.cells k v = some ds) → some (k' :: ks) = some rk → ∃ rk0, resKinds P false (t :: tys) = some rk0 ∧ RK.all rk0 = RK.all rk ∧ ∀ rvs ds, RV.all rk rvs = some ds → RV.all rk0 rvs = some ds := by
      intro k k' hk e1 e2 e3
      cases e3
      refine ⟨k :: ks0, hk, ?_, ?_⟩
      · simp only [RK.all, List.map_cons, List.flatten_cons, e1] at h2 ⊢; rw [h2]
      · intro rvs ds hd
        cases rvs with
        | nil => simp [RV.all] at hd
        | cons v vs =>
          simp only [RV.all] at hd ⊢
          split at hd <;> try contradiction
          rename_i a b ha hb
          cases hd
          rw [e2 _ _ ha, h3 _ _ hb]
    split at h
    · rename_i k hk
      split at h
      · refine keep (k' := .own _) (show resKinds P false (t :: tys) = some (.cell (.slice _) :: ks0) by simp only [resKinds, hk, h1]) rfl ?_ h
        intro v ds hv
        cases v with
        | d x => simp [RV.cells] at hv
        | any => simp [RV.cells] at hv
        | own e xs =>
          simp only [RV.cells] at hv ⊢
          split at hv
          · exact hv
          · cases hv
      · exact keep (by simp only [resKinds, hk, h1]) rfl (fun _ _ h => h) h
    · rename_i hk
      exact keep (k := .any) (by simp only [resKinds, hk, h1]) rfl (fun _ _ h => h) h
/-- which contract a call takes, and what with -/
theorem callSays_ok {P : Program} {fv : Fv} {args : List T} {res : List RK} {J : List D → Prop} {f : FuncId} {caps : List D} {ts : List TK} (h : callSays P ρ fv args res J) (hk : ∀ x ∈ ts, LOk ρ x)
    (hfv : (fv = .fn f ∧ callable P f = true ∧ args.map (den ρ) = (ts.map (·.t)).map (den ρ) ++ caps ∧ argsMatch P f ts = true ∧ ∃ own, resKinds P own (fnTypes P f) = some res) ∨ (∃ t, fv = .val t ∧ den ρ t = .clo f caps ∧ args = ts.map (·.t))) :
    callable P f = true ∧ ∃ (s : Spec) (K : List RV → Prop), Contract P f s ∧ s (ts.map (denL ρ) ++ caps) K ∧ ArgsTyped P f (ts.map (denL ρ) ++ caps) ∧
      ∀ rvs, K rvs → ResTyped P f [] rvs → ∃ rs, RV.all res rvs = some rs ∧ HasKs (RK.all res) rs ∧ J rs := by
  have em : (ts.map (·.t)).map (den ρ) = ts.map (denL ρ) := by rw [List.map_map]; rfl
  rcases hfv with ⟨rfl, hcl, he, hm, own, hres⟩ | ⟨t, rfl, hd, rfl⟩
  · obtain ⟨s, h1, h2⟩ := h
    refine ⟨hcl, s, _, h1, by rw [← em, ← he]; exact h2, ?_, ?_⟩
    · intro fn hfn
      simp only [argsMatch, hfn] at hm
      exact tksMatch_ok hm hk
    · rintro rvs ⟨rs, r1, r2⟩ ht
      obtain ⟨rk0, q1, q2, q3⟩ := resKinds_own hres
      obtain ⟨ds, d1, d2⟩ := ht rk0 q1
      simp only [List.append_nil] at d1 d2
      rw [q3 _ _ r1] at d1
      cases d1
      exact ⟨rs, r1, by rw [← q2]; exact d2, r2⟩
  · obtain ⟨s, h1, h2⟩ := h
    simp only [FvC, hd] at h1
    obtain ⟨hcl, s', hs', hcon⟩ := h1
    rw [em] at h2
    obtain ⟨g1, g2⟩ := hcon _ _ h2
    exact ⟨hcl, s', _, hs', g1, g2, fun rvs h _ => h⟩
theorem guardable_ok : ∀ {rk : List RK} {n : Nat} {objs : List (OV TK)}, guardable rk = true → (resSVs rk n objs).2.2 = objs
  | [], _, _, _ => rfl
  | .cell k :: rk, n, objs, h => by simp only [resSVs]; exact guardable_ok (rk := rk) (by simpa [guardable] using h)
  | .agg k :: rk, n, objs, h => by simp only [resSVs]; exact guardable_ok (rk := rk) (by simpa [guardable] using h)
  | .any :: rk, n, objs, h => by simp only [resSVs]; exact guardable_ok (rk := rk) (by simpa [guardable] using h)
  | .own k :: rk, _, _, h => by simp [guardable] at h
/-- results that are data: in order whatever the variables are -/
theorem resSVs_plain {ρ : List D} : ∀ {rk : List RK} {n : Nat} {objs : List (OV TK)} {ds : List D}, guardable rk = true → HasKs (RK.all rk) ds → Vars ρ n ds →
    (∀ v ∈ (resSVs rk n objs).1, SV.Ok ρ v) ∧ (resSVs rk n objs).2.1 = n + ds.length
  | [], n, objs, ds, _, hk, _ => by
    cases ds with
    | nil => exact ⟨by simp [resSVs], rfl⟩
    | cons d ds => simp [RK.all, HasKs] at hk
  | .cell k :: rk, n, objs, ds, h, hk, hv => by
    have hk' : RK.all (.cell k :: rk) = k :: RK.all rk := rfl
    rw [hk'] at hk
    cases ds with
    | nil => simp [HasKs] at hk
    | cons d ds =>
    simp only [HasKs] at hk
    obtain ⟨h1, h2⟩ := resSVs_plain (objs := objs) (by simpa [guardable] using h) hk.2 hv.tail
    simp only [resSVs]
    refine ⟨fun v hv' => ?_, by rw [h2]; simp; omega⟩
    rcases List.mem_cons.1 hv' with rfl | hv'
    · exact .d (.var hv.head hk.1)
    · exact h1 v hv'
  | .agg ks :: rk, n, objs, ds, h, hk, hv => by
    have hk' : RK.all (.agg ks :: rk) = ks ++ RK.all rk := rfl
    rw [hk'] at hk
    have hlen := hk.length
    have hsplit : ds = ds.take ks.length ++ ds.drop ks.length := by simp
    have hl : (ds.take ks.length).length = ks.length := by simp at hlen ⊢; omega
    rw [hsplit] at hk hv
    obtain ⟨k1, k2⟩ := HasKs.unappend hl hk
    have hvr := hv.right
    rw [hl] at hvr
    obtain ⟨h1, h2⟩ := resSVs_plain (objs := objs) (by simpa [guardable] using h) k2 hvr
    obtain ⟨c1, c2, c3⟩ := freshCells_ok hv.left k1
    simp only [resSVs]
    refine ⟨fun v hv' => ?_, by rw [h2]; simp at hlen ⊢; omega⟩
    rcases List.mem_cons.1 hv' with rfl | hv'
    · exact .agg fun c hc => by obtain ⟨y, hy, rfl⟩ := List.mem_map.1 hc; exact .d (c2 y hy)
    · exact h1 v hv'
  | .any :: rk, n, objs, ds, h, hk, hv => by
    obtain ⟨h1, h2⟩ := resSVs_plain (rk := rk) (objs := objs) (by simpa [guardable] using h) hk hv
    simp only [resSVs]
    refine ⟨fun v hv' => ?_, h2⟩
    rcases List.mem_cons.1 hv' with rfl | hv'
    · exact .any
    · exact h1 v hv'
  | .own ks :: rk, _, _, _, h, _, _ => by simp [guardable] at h
theorem packRes_ok {ρ : List D} {vs : List (SV TK)} (h : ∀ v ∈ vs, SV.Ok ρ v) : SV.Ok ρ (packRes vs) := by
  unfold packRes
  split
  · exact h _ (by simp)
  · exact .tup h
end
end Go.Sx
namespace Go.Sx
open Go Go.RowKit
section
variable {E : Env} {σ : Names} {m : Mem} {st : St D} {a : Act} {w : World}
/-- the blocks of live objects -/
def aliveB (σ : Names) (st : St D) (b : Nat) : Prop := ∃ (o : Nat) (ov : OV D), st.objs[o]? = some ov ∧ ov.alive = true ∧ (σ o).bind blk = some b
/-- somebody else's steps -/
theorem Fits.other (hf : Fits E σ m st a w) {O : Nat → Prop} {m' : Mem} {w' : World} (hk : ∀ b, b < w.heap.size → ¬ O b → w'.heap[b]? = w.heap[b]?) (hs : w.heap.size ≤ w'.heap.size) (hos : w'.os = w.os) (htape : w'.tape = w.tape) (hout : w'.output = w.output) (hdr : w.drawn ≤ w'.drawn)
    (hle : m.le m') (hm : ∀ b, b < w.heap.size → ¬ O b → m' b = m b) (hmem : MemOk m' w') (hap : ∀ b, aliveB σ st b → ¬ O b) (hO : ∀ b, O b → E.w0.heap.size ≤ b ∨ E.mine b) (hmk : ∀ D, mark D ∈ a.defers → ¬ O D) : Fits E σ m' st a w' :=
  { sz := hf.sz
    tm := fun i s v a b => (hf.tm i s v a b).mono (Names.le_refl σ) hle
    dfr := by
      obtain ⟨Ds, h1, h2, h3⟩ := hf.dfr
      refine ⟨Ds, h1, h2, fun D hD => ?_⟩
      obtain ⟨g1, g2, g3⟩ := h3 D hD
      have hlt := (Array.getElem?_eq_some_iff.1 g1).1
      have hno := hmk D (by rw [h1]; exact List.mem_map_of_mem hD)
      exact ⟨by rw [hk D hlt hno]; exact g1, by rw [hm D hlt hno]; exact g2, g3⟩
    yld := hf.yld, sav := hf.sav, mem := hmem, le := Mem.le_trans hf.le hle
    objs := fun o ov ho => ((hf.objs o ov ho).mono (Names.le_refl σ) hle).keep fun b ha hb => hk b ((hf.objs o ov ho).lt ha hb) (hap b ⟨o, ov, ho, ha, hb⟩)
    sep := fun o ov b ho ha hb => by
      have hs := hf.sep o ov b ho ha hb
      exact ⟨by rw [hm b ((hf.objs o ov ho).lt ha hb) (hap b ⟨o, ov, ho, ha, hb⟩)]; exact hs.1, hs.2⟩
    inj := hf.inj, dom := hf.dom, grow := Nat.le_trans hf.grow hs
    keep := fun b hb hmb => by
      have hno : ¬ O b := fun h => (hO b h).elim (fun h => by omega) hmb
      rw [hk b (Nat.lt_of_lt_of_le hb hf.grow) hno]; exact hf.keep b hb hmb
    old := fun b hb hmb => by
      have hno : ¬ O b := fun h => (hO b h).elim (fun h => by omega) hmb
      rw [hm b (Nat.lt_of_lt_of_le hb hf.grow) hno]; exact hf.old b hb hmb
    os := hos.trans hf.os, tape := htape.trans hf.tape, output := hout.trans hf.output, drawn := Nat.le_trans hf.drawn hdr }
/-- a dead object comes back to life -/
theorem Fits.revive (h : Fits E σ m st a w) {o : Nat} {ov : OV D} (ho : st.objs[o]? = some .dead) (h' : RepO σ m w o ov) (hy : ov ≠ .yld) (hsv : ∀ cs, ov ≠ .sav cs)
    (hfree : ∀ b, ov.alive = true → (σ o).bind blk = some b → m b = none ∧ (E.w0.heap.size ≤ b ∨ E.mine b) ∧ ∀ (o' : Nat) ov', st.objs[o']? = some ov' → ov'.alive = true → (σ o').bind blk ≠ some b) :
    Fits E σ m ⟨st.tmps, st.objs.set o ov⟩ a w :=
  { sz := h.sz, tm := h.tm, dfr := h.dfr, mem := h.mem, le := h.le
    yld := fun o' ho' => by
      rcases getElem?_set_some ho' with ⟨rfl, he, _⟩ | ⟨_, ho'⟩
      · exact absurd he.symm hy
      · exact h.yld o' ho'
    sav := fun o' cs ho' => by
      rcases getElem?_set_some ho' with ⟨rfl, he, _⟩ | ⟨_, ho'⟩
      · exact absurd he.symm (hsv cs)
      · exact h.sav o' cs ho'
    objs := fun o' ov' ho' => by
      rcases getElem?_set_some ho' with ⟨rfl, rfl, _⟩ | ⟨_, ho'⟩
      · exact h'
      · exact h.objs o' ov' ho'
    sep := fun o' ov' b ho' ha hb => by
      rcases getElem?_set_some ho' with ⟨rfl, rfl, _⟩ | ⟨_, ho'⟩
      · exact ⟨(hfree b ha hb).1, (hfree b ha hb).2.1⟩
      · exact h.sep o' ov' b ho' ha hb
    inj := fun o1 o2 ov1 ov2 b h1 h2 a1 a2 b1 b2 => by
      rcases getElem?_set_some h1 with ⟨e1, q1, _⟩ | ⟨n1, h1⟩
      · subst e1
        rcases getElem?_set_some h2 with ⟨e2, _, _⟩ | ⟨_, h2⟩
        · exact e2
        · rw [q1] at a1; exact absurd b2 ((hfree b a1 b1).2.2 o2 ov2 h2 a2)
      · rcases getElem?_set_some h2 with ⟨e2, q2, _⟩ | ⟨_, h2⟩
        · subst e2
          rw [q2] at a2; exact absurd b1 ((hfree b a2 b2).2.2 o1 ov1 h1 a1)
        · exact h.inj o1 o2 ov1 ov2 b h1 h2 a1 a2 b1 b2
    dom := fun o' v hv => by simpa using h.dom o' v hv
    grow := h.grow, keep := h.keep, old := h.old, os := h.os, tape := h.tape, output := h.output, drawn := h.drawn }
end
end Go.Sx
namespace Go.Sx
open Go Go.RowKit
section
variable {E : Env} {ρ : List D} {σ : Names} {m : Mem} {a : Act} {w : World}
/-- arguments as they are handed to a call -/
theorem args_ok {st : St TK} (hf : Fits E σ m (denSt ρ st) a w) (hok : st.Ok ρ) {g gr : Option T} {sc : Bool} (hg : ∀ c, g = some c → den ρ c = .bool true) {args : List Operand} {ts : List TK} {objs : List (OV TK)}
    (h : argTs gr sc st.objs (args.map fun x => thaw st.objs (unguard g (look st x))) = some (ts, objs)) :
    ∃ m', FrOk E ρ σ st.tmps a w m objs st.objs.length m' ∧ ts.length = args.length ∧ (∀ x ∈ ts, LOk ρ x) ∧ (∀ (i : Nat) x v, ts[i]? = some x → (args.map a.eval)[i]? = some v → RepD m' (denL ρ x) v) := by
  have hfr : freezeAll (freeze 6) st.objs (args.map fun x => thaw st.objs (unguard g (look st x))) = some (ts, objs) := by
    simp only [argTs] at h
    split at h
    · split at h <;> try contradiction
      rename_i p h1
      cases h
      exact (freezeAll_nil (fun {v x o'} => freeze_nil 6) h1).2 _
    · exact h
  obtain ⟨m', f1, l1, k1, r1⟩ := freezeAll_ok (E := E) (ρ := ρ) (σ := σ) (ts := st.tmps) (a := a) (w := w) (fun {objs v x objs' m val} => freeze_ok 6) (vals := args.map a.eval) (by exact hf) hok.objs hfr
    (fun i c v hc hv => by
      simp only [List.getElem?_map, Option.map_eq_some_iff] at hc hv
      obtain ⟨x, hx, rfl⟩ := hc
      obtain ⟨y, hy, rfl⟩ := hv
      rw [hx] at hy; cases hy
      exact (opnd_ok hf hok hg x).1) (by simp) (by
      intro c hc
      obtain ⟨x, _, rfl⟩ := List.mem_map.1 hc
      exact (opnd_ok hf hok hg x).2)
  exact ⟨m', f1, by simpa using l1, k1, r1⟩
theorem MemOk.of_le {m m' : Mem} {w : World} (h : MemOk m' w) (hle : m.le m') : MemOk m w := fun b o hb => h b o (hle b o hb)
/-- results without memory -/
theorem scalar_rep {P : Program} {m m' : Mem} {w : World} {B : Nat → Prop} : ∀ {rk : List RK} {rvs : List RV} {ds : List D}, scalars rk = true → RV.all rk rvs = some ds → HasKs (RK.all rk) ds →
    ∀ (i : Nat) r u, rvs[i]? = some r → RepR m w B r u → RepR m' w B r u
  | [], [], _, _, _, _, i, r, u, h, _ => by simp at h
  | [], _ :: _, _, _, h, _, _, _, _, _, _ => by simp [RV.all] at h
  | _ :: _, [], _, _, h, _, _, _, _, _, _ => by simp [RV.all] at h
  | k :: rk, v :: vs, ds, hs, h, hk, i, r, u, hi, hr => by
    simp only [RV.all] at h
    split at h <;> try contradiction
    rename_i x y h1 h2
    cases h
    cases k with
    | cell k =>
      simp only [scalars, Bool.and_eq_true] at hs
      have hx : x.length = 1 := by
        cases v <;> simp [RV.cells] at h1 <;> subst h1 <;> rfl
      have hkk : RK.all (.cell k :: rk) = [k] ++ RK.all rk := rfl
      rw [hkk] at hk
      obtain ⟨k1, k2⟩ := HasKs.unappend (by simpa using hx) hk
      cases i with
      | succ i => exact scalar_rep (P := P) hs.2 h2 k2 i r u (by simpa using hi) hr
      | zero =>
        simp at hi; subst hi
        cases v with
        | any => simp [RV.cells] at h1
        | own e xs =>
          simp [RV.cells] at h1; subst h1
          simp only [HasKs] at k1
          have := k1.1
          cases k <;> simp [K.scalar, HasK] at hs this
        | d z =>
          simp [RV.cells] at h1; subst h1
          simp only [HasKs] at k1
          have hz := k1.1
          cases hr with
          | d hr =>
          refine .d ?_
          cases hr with
          | int k n => exact .int k n
          | bool b => exact .bool b
          | str s h => exact .str s h
          | _ => cases k <;> simp [K.scalar, HasK] at hs hz
    | agg ks => simp [scalars] at hs
    | own ks => simp [scalars] at hs
    | any =>
      have hx : x = [] ∧ v = .any := by cases v <;> simp [RV.cells] at h1 <;> exact ⟨by simp [h1], rfl⟩
      obtain ⟨rfl, rfl⟩ := hx
      cases i with
      | succ i => exact scalar_rep (P := P) (by simpa [scalars] using hs) h2 (by simpa [RK.all, RK.kinds] using hk) i r u (by simpa using hi) hr
      | zero => simp at hi; subst hi; exact .any
/-- after a call: the world is later, and what is unchanging is so still -/
theorem Fits.lent {st' : St TK} (h : Fits E σ m (denSt ρ st') a w) {w' : World} {m' : Mem} (hB : BelowD w.heap.size w w') (hle : m.le m') (hmem : MemOk m' w') : Fits E σ m (denSt ρ st') a w' :=
  h.called hB (Mem.le_refl m) (hmem.of_le hle) (fun _ _ => rfl)
theorem call_ok {F : Option Nat → List RV → Prop} {Kd : Ags → List D → XExit → XS → Prop} {ags : Ags} {md : Mode} {xs : XS} {o : Oper} {c : Call} {fv : Operand} {g gr : Option T} {ops : Array Oper}
    (ho : o.op = .call c) (hc : c.callee = .value fv) (hf : Fits E σ m (denSt ρ xs.st) a w) (hx : XOk ρ xs) (hG : GOk ρ ops o a g gr)
    (hX : ∀ f pk upd vs, gr = none → vs = c.args.toList.map (fun x => thaw xs.st.objs (unguard g (look xs.st x))) → thaw xs.st.objs (unguard g (look xs.st fv)) = .d ⟨.fn f, .fn⟩ →
      denR E.P F Kd (callX E.P xs o vs (md.own.contains f) f pk upd) ags ρ → StepOk E ops o a w (Res E Kd ags a o.dst))
    (h : denR E.P F Kd (sxCall E.P md g gr xs o fv c.args.toList) ags ρ) : StepOk E ops o a w (Res E Kd ags a o.dst) := by
  simp only [sxCall] at h
  split at h
  · simp [denR] at h
  split at h
  · rename_i f pk upd hfind
    split at h
    · simp [denR] at h
    rename_i hgr
    have hgr : gr = none := by cases gr with | none => rfl | some _ => simp at hgr
    split at hfind <;> try contradiction
    rename_i f' hfl
    have := List.find?_some hfind
    simp only [beq_iff_eq] at this
    subst this
    exact hX _ _ _ _ hgr rfl hfl h
  split at h
  · simp [denR] at h
  rename_i ts objs' hfr
  -- the call itself, where it is done
  have main : ∀ {fid : FuncId} {caps : List D} {rk : List RK} {fvv : Fv} {args : List T} {J : List D → Prop}, (∀ c, g = some c → den ρ c = .bool true) →
      (∀ v, a.eval fv = v → ∃ arr, v = .func (.func fid) #[] arr ∧ arr.size = caps.length ∧ ∀ (i : Nat) d u, caps[i]? = some d → arr[i]? = some u → RepD m d u) →
      callSays E.P ρ fvv args rk J → ((fvv = .fn fid ∧ callable E.P fid = true ∧ args.map (den ρ) = (ts.map (·.t)).map (den ρ) ++ caps ∧ argsMatch E.P fid ts = true ∧ ∃ own, resKinds E.P own (fnTypes E.P fid) = some rk) ∨ (∃ t, fvv = .val t ∧ den ρ t = .clo fid caps ∧ args = ts.map (·.t))) →
      (∃ own, resKinds E.P own (resTypes E.P o.type) = some rk) →
      (∀ ds, HasKs (RK.all rk) ds → J ds → Kd ags (ρ ++ ds) .norm { xs with st := { tmps := putT xs.st.tmps o.dst (underG gr (packRes (resSVs rk xs.nv (if lends E.P o then xs.st.objs else objs')).1)), objs := (resSVs rk xs.nv (if lends E.P o then xs.st.objs else objs')).2.2 }, nv := (resSVs rk xs.nv (if lends E.P o then xs.st.objs else objs')).2.1 }) →
      (∀ c, gr = some c → LOk ρ ⟨c, .bool⟩ ∧ den ρ c = .bool true) →
      ∀ (a' : Act) (K : Act → World → Prop) (Q : Exit → Act → World → Prop), execOp a'.eval o = execOp a.eval o → (∀ v w', Res E Kd ags a o.dst v w' → K (a'.put o.dst v) w') → o.wpIn (fen E.r) 0 E.P a' w K Q := by
    intro fid caps rk fvv args J hgt hval hsays hfv hty hcont hgrt a' K Q heq hK
    obtain ⟨arr, hev, hasz, hcr⟩ := hval _ rfl
    obtain ⟨m1, f1, l1, k1, r1⟩ := args_ok hf hx.all hgt hfr
    obtain ⟨hcl, s, KK, hcon, hs, htyped, hKK⟩ := callSays_ok hsays k1 hfv
    have l1 : ts.length = c.args.size := by simpa using l1
    have hrun := run_call (P := E.P) (w := w) ho hc hev hcl
    rw [← heq] at hrun
    refine wpIn_upon hrun (by simp) ?_
    rw [Oper.uponIn_enter]
    refine ⟨by simp [fen, Fence.wide], calls_in ?_⟩
    have hcall := hcon.2 _ _ hs htyped w m1 (c.args.map a.eval ++ arr) f1.fits.mem (by simp [hasz, l1]) (by
      intro i d v hd hv
      rw [List.getElem?_append] at hd
      rw [Array.getElem?_append] at hv
      simp only [List.length_map, Array.size_map] at hd hv
      split at hd
      · rename_i hlt
        rw [if_pos (by omega)] at hv
        simp only [List.getElem?_map, Option.map_eq_some_iff] at hd
        obtain ⟨x, hx', rfl⟩ := hd
        exact r1 i x v hx' (by simpa using hv)
      · rename_i hge
        rw [if_neg (by omega)] at hv
        rw [l1] at hd
        exact (hcr _ d v hd hv).mono f1.le)
    refine hcall.mono ?_
    rintro e w' ⟨rvs, v, m2, hKr, hrt, rfl, ⟨us, hv, hreps⟩, hle, hmem, hold, hbel⟩
    obtain ⟨ds, hds, hks, hJ⟩ := hKK rvs hKr hrt
    simp only
    -- the state behind the call
    have hst : ∃ m3, Fits E σ m3 (denSt ρ ⟨xs.st.tmps, if lends E.P o then xs.st.objs else objs'⟩) a w' ∧ (∀ ob ∈ (if lends E.P o then xs.st.objs else objs'), OV.Ok ρ ob) ∧ (∀ (i : Nat) r u, rvs[i]? = some r → us[i]? = some u → RepR m3 w' (fun b => w.heap.size ≤ b) r u) ∧
        ∀ (o' : Nat) ov b, (if lends E.P o then xs.st.objs else objs')[o']? = some ov → ov.alive = true → (σ o').bind blk = some b → b < w.heap.size := by
      cases hl : lends E.P o with
      | true =>
        simp only [if_true]
        refine ⟨m, hf.lent hbel (Mem.le_trans f1.le hle) hmem, hx.all.objs, ?_, ?_⟩
        · unfold lends at hl
          obtain ⟨own, hty⟩ := hty
          obtain ⟨rk0, q1, q2, q3⟩ := resKinds_own hty
          rw [q1] at hl
          intro i r u h1 h2
          exact scalar_rep (P := E.P) hl (q3 _ _ hds) (by rw [q2]; exact hks) i r u h1 (hreps.rep i r u h1 h2)
        · intro o' ov b hov hal hbb
          exact (hf.objs o' (ov.map (denL ρ)) (by simp [denSt, St.map, hov])).lt (by cases ov <;> first | rfl | (simp [OV.alive] at hal)) hbb
      | false =>
        simp only [Bool.false_eq_true, if_false]
        refine ⟨m2, f1.fits.called hbel hle hmem hold, f1.ok, hreps.rep, ?_⟩
        intro o' ov b hov hal hbb
        exact (f1.fits.objs o' (ov.map (denL ρ)) (by simp [denSt, St.map, hov])).lt (by cases ov <;> first | rfl | (simp [OV.alive] at hal)) hbb
    obtain ⟨m3, hf2, hok2, hrep3, hlt3⟩ := hst
    generalize hobjs : (if lends E.P o then xs.st.objs else objs') = objs at *
    have hok2' : St.Ok ρ ⟨xs.st.tmps, objs⟩ := ⟨hx.all.tmps, hok2⟩
    have hf3 : Fits E σ m3 (denSt (ρ ++ ds) ⟨xs.st.tmps, objs⟩) a w' := by rw [denSt_ext hok2']; exact hf2
    have hnv : xs.nv = ρ.length := hx.nv.symm
    generalize hres : resSVs rk xs.nv objs = res at hcont
    obtain ⟨vs, n', objs2⟩ := res
    have hcont' := hcont ds hks hJ
    simp only at hcont'
    obtain ⟨hn', σ', m', R⟩ := resSVs_ok (us := us) hres hds hks (by rw [hnv]; exact Vars.self ρ ds) hf3 (fun o ho => (hok2 o ho).ext ds) hreps.len hrep3 (fun b hb => .inl (Nat.le_trans hf.grow hb))
      (by
        intro i r u b hi hu how hb o' ov hov hal hbb
        have hlt := hlt3 o' ov b hov hal hbb
        have hrr := hrep3 i r u hi hu
        cases hrr with
        | d => cases how
        | any => cases how
        | none => simp [blk_zero] at hb
        | own hB _ _ h0c => rw [blk_slice h0c] at hb; cases hb; exact absurd hlt (Nat.not_lt.2 hB))
      hreps.sep
    have hlen : ρ.length + ds.length = n' := by rw [hn', hks.length, hnv]
    -- the value
    have hrs : RS σ' m' (ρ ++ ds) (packRes vs) v := by
      have hvl : vs.length = us.length := R.len
      rw [hv]
      unfold packRes packV
      split
      · rename_i v1
        have h1 : us.toArray.size = 1 := by simpa using hvl.symm
        rw [dif_pos h1]
        exact R.rs 0 _ _ rfl (by simp [h1])
      · rename_i hne
        have h1 : us.toArray.size ≠ 1 := by
          intro h1
          have h1' : us.length = 1 := by simpa using h1
          rw [h1'] at hvl
          match vs, hvl with
          | [x], _ => exact hne x rfl
        rw [dif_neg h1]
        simp only [RS, SV.map, SV.mapL_eq]
        refine .tup (by simp [hvl]) fun i c u hc' hu => ?_
        simp only [List.getElem?_map, Option.map_eq_some_iff] at hc'
        obtain ⟨c', hc'', rfl⟩ := hc'
        exact R.rs i c' u hc'' (by simpa using hu)
    have hrs2 : RS σ' m' (ρ ++ ds) (underG gr (packRes vs)) v ∧ SV.Ok (ρ ++ ds) (underG gr (packRes vs)) := by
      have hpk := packRes_ok R.all
      cases hgr : gr with
      | none => exact ⟨hrs, hpk⟩
      | some c =>
        obtain ⟨q1, q2⟩ := hgrt c hgr
        have q2' : den (ρ ++ ds) c = .bool true := by rw [q1.2 ds]; exact q2
        exact ⟨.grd (fun _ => hrs) (fun h => absurd q2' (by simpa [denL] using h)), .grd (q1.ext ds) hpk.stb fun _ => hpk⟩
    refine hK v w' ⟨ρ ++ ds, _, σ', m', hcont', ?_, ?_, ?_⟩
    · simp only
      rw [denSt_putT]
      exact R.fits.put o.dst hrs2.1
    · exact (St.Ok.putT (st := ⟨xs.st.tmps, objs2⟩) ⟨fun v hv => (hx.all.tmps v hv).ext ds, R.objs⟩ o.dst hrs2.2 R.objs)
    · simp only [List.length_append]; exact hlen
  -- where it is not done
  have skip : ∀ {rk : List RK} {J : List D → Prop} {c0 : T}, gr = some c0 → den ρ c0 = .bool false → guardable rk = true → J (Go.Sx.K.zeros (RK.all rk)) →
      (∀ ds, HasKs (RK.all rk) ds → J ds → Kd ags (ρ ++ ds) .norm { xs with st := { tmps := putT xs.st.tmps o.dst (underG gr (packRes (resSVs rk xs.nv (if lends E.P o then xs.st.objs else objs')).1)), objs := (resSVs rk xs.nv (if lends E.P o then xs.st.objs else objs')).2.2 }, nv := (resSVs rk xs.nv (if lends E.P o then xs.st.objs else objs')).2.1 }) →
      Res E Kd ags a o.dst undef w := by
    intro rk J c0 hgc hcf hgd hJ hcont
    have hz := HasKs.zeros (RK.all rk)
    have hcont' := hcont _ hz hJ
    have hobj : (if lends E.P o then xs.st.objs else objs') = xs.st.objs := by
      have hgs := hG.both c0 hgc
      cases hl : lends E.P o with
      | true => rfl
      | false =>
        simp only [Bool.false_eq_true, if_false]
        have hfr' := hfr
        simp only [argTs, hgc, hl, Option.isSome_some, Bool.not_false, Bool.and_self, if_true] at hfr'
        generalize freezeL 6 [] _ = q at hfr'
        cases q with
        | none => cases hfr'
        | some p => cases hfr'; rfl
    rw [hobj] at hcont'
    rw [guardable_ok hgd] at hcont'
    obtain ⟨p1, p2⟩ := resSVs_plain (n := xs.nv) (objs := xs.st.objs) hgd hz (by rw [← hx.nv]; exact Vars.self ρ _)
    have hL := (hG.ss c0 hgc).1
    have hsv : RS σ m (ρ ++ Go.Sx.K.zeros (RK.all rk)) (underG gr (packRes (resSVs rk xs.nv xs.st.objs).1)) undef ∧ SV.Ok (ρ ++ Go.Sx.K.zeros (RK.all rk)) (underG gr (packRes (resSVs rk xs.nv xs.st.objs).1)) := by
      rw [hgc]
      have hcf' : den (ρ ++ Go.Sx.K.zeros (RK.all rk)) c0 = .bool false := by rw [hL.2]; exact hcf
      exact ⟨.grd (fun h => by simp [denL, hcf'] at h) (fun _ => rfl), .grd (hL.ext _) (packRes_ok p1).stb fun _ => packRes_ok p1⟩
    refine ⟨_, _, σ, m, hcont', ?_, ?_, ?_⟩
    · simp only
      rw [denSt_putT]
      have : denSt (ρ ++ Go.Sx.K.zeros (RK.all rk)) ⟨xs.st.tmps, xs.st.objs⟩ = denSt ρ xs.st := denSt_ext hx.all _
      rw [this]
      exact hf.put o.dst hsv.1
    · exact (hx.all.ext _).putT o.dst hsv.2 (fun o ho => (hx.all.objs o ho).ext _)
    · simp only [List.length_append]; rw [p2, hx.nv]
  -- put together
  have fin : ∀ {own : Bool} {fvv : Fv} {extra : List T},
      ((∀ c, g = some c → den ρ c = .bool true) → ∃ (fid : FuncId) (caps : List D), (∀ v, a.eval fv = v → ∃ arr, v = .func (.func fid) #[] arr ∧ arr.size = caps.length ∧ ∀ (i : Nat) d u, caps[i]? = some d → arr[i]? = some u → RepD m d u) ∧
        ∀ rk, resKinds E.P own (resTypes E.P o.type) = some rk → ((fvv = .fn fid ∧ callable E.P fid = true ∧ (ts.map (·.t) ++ extra).map (den ρ) = (ts.map (·.t)).map (den ρ) ++ caps ∧ argsMatch E.P fid ts = true ∧ ∃ own, resKinds E.P own (fnTypes E.P fid) = some rk) ∨ (∃ t, fvv = .val t ∧ den ρ t = .clo fid caps ∧ ts.map (·.t) ++ extra = ts.map (·.t)))) →
      denR E.P F Kd (callR E.P gr xs o (if lends E.P o then xs.st.objs else objs') ts own fvv extra) ags ρ → StepOk E ops o a w (Res E Kd ags a o.dst) := by
    intro own fvv extra hval hR
    simp only [callR] at hR
    split at hR
    · simp [denR] at hR
    rename_i rk hrk
    split at hR
    · simp [denR] at hR
    rename_i hgd
    have hgd' : gr.isSome = true → guardable rk = true := by
      intro hs
      simp only [hs, Bool.true_and, Bool.not_eq_true', Bool.not_eq_false] at hgd
      simpa using hgd
    intro a' K Q hw heq hK
    rw [hw]
    cases hg0 : gr with
    | none =>
      simp only [hg0, denR] at hR
      have hwt := hG.nn hg0
      rw [hwt]
      simp only [if_true]
      obtain ⟨fid, caps, hv1, hv2⟩ := hval (hG.known hwt)
      refine main (J := fun rs => Kd ags (ρ ++ rs) .norm { xs with st := { tmps := putT xs.st.tmps o.dst (underG gr (packRes (resSVs rk xs.nv (if lends E.P o then xs.st.objs else objs')).1)), objs := (resSVs rk xs.nv (if lends E.P o then xs.st.objs else objs')).2.2 }, nv := (resSVs rk xs.nv (if lends E.P o then xs.st.objs else objs')).2.1 })
        (hG.known hwt) hv1 ?_ (hv2 rk hrk) ⟨own, hrk⟩ (fun ds _ h => h) (by rw [hg0]; simp) a' K Q heq hK
      rw [hg0]
      exact hR
    | some c0 =>
      simp only [hg0, denR] at hR
      obtain ⟨J, hJ1, hJ2, hJ3⟩ := hR
      obtain ⟨hL, hwant⟩ := hG.ss c0 hg0
      cases hb : Region.wanted o (yielded ops a.tmps) with
      | true =>
        rw [hb] at hwant
        simp only [if_true]
        obtain ⟨fid, caps, hv1, hv2⟩ := hval (hG.known hb)
        refine main (J := J) (hG.known hb) hv1 (hJ1 hwant) (hv2 rk hrk) ⟨own, hrk⟩ (fun ds h1 h2 => by rw [hg0]; exact hJ3 ds h1 h2) (by rw [hg0]; intro c hc; cases hc; exact ⟨hL, hwant⟩) a' K Q heq hK
      | false =>
        rw [hb] at hwant
        simp only [Bool.false_eq_true, if_false]
        refine hK undef w (skip (J := J) hg0 hwant (hgd' (by rw [hg0]; rfl)) (hJ2 hwant) (fun ds h1 h2 => by rw [hg0]; exact hJ3 ds h1 h2))
  have hL : ∀ x, (∀ c, g = some c → den ρ c = .bool true) → RS σ m ρ (thaw xs.st.objs (unguard g (look xs.st x))) (a.eval x) ∧ SV.Ok ρ (thaw xs.st.objs (unguard g (look xs.st x))) := fun x hgt => opnd_ok hf hx.all hgt x
  split at h
  · rename_i f hfl
    split at h
    · rename_i hcl
      simp only [Bool.and_eq_true] at hcl
      obtain ⟨⟨hcl, ham⟩, hst⟩ := hcl
      have hst := sameTypes_eq hst
      refine fin (fun hgt => ⟨f, [], fun v hv => ?_, fun rk hrk => .inl ⟨rfl, hcl, by simp, ham, _, by rw [← hst]; exact hrk⟩⟩) h
      have := hL fv hgt
      rw [hfl, hv] at this
      obtain ⟨f', caps, arr, h1, h2, h3, h4⟩ := callee_ok this.1 (all_d this.2)
      simp only [den] at h1
      cases h1
      exact ⟨arr, h2, h3, h4⟩
    · simp [denR] at h
  · rename_i f e hfl
    split at h
    · rename_i hcl
      simp only [Bool.and_eq_true] at hcl
      obtain ⟨⟨hcl, ham⟩, hst⟩ := hcl
      have hst := sameTypes_eq hst
      split at h
      · rename_i caps hcaps
        refine fin (fun hgt => ⟨f, caps.map (den ρ), fun v hv => ?_, fun rk hrk => .inl ⟨rfl, hcl, by simp, ham, _, by rw [← hst]; exact hrk⟩⟩) h
        have := hL fv hgt
        rw [hfl, hv] at this
        obtain ⟨f', caps', arr, h1, h2, h3, h4⟩ := callee_ok this.1 (all_d this.2)
        simp only [den, T.toList_ok hcaps] at h1
        cases h1
        exact ⟨arr, h2, h3, h4⟩
      · simp [denR] at h
    · simp [denR] at h
  · rename_i t _ _ hfl
    -- the function value: what it is does not hang on the guard
    refine fin (fvv := .val t) (fun hgt => ?_) h
    have hb := hL fv hgt
    rw [hfl] at hb
    obtain ⟨f', caps', arr, h1, h2, h3, h4⟩ := callee_ok hb.1 (all_d hb.2)
    exact ⟨f', caps', fun v hv => ⟨arr, by rw [← hv]; exact h2, h3, h4⟩, fun rk hrk => .inr ⟨t, rfl, h1, by simp⟩⟩
  · simp [denR] at h
end
end Go.Sx
namespace Go.Sx
open Go Go.RowKit
section
variable {E : Env} {ρ : List D} {σ : Names} {a : Act} {w : World} {ts : List (SV TK)}
theorem ownVals_mem : ∀ {rs : List RV} {vs : List Value} {b : Nat}, rs.length = vs.length → (OwnBlk rs vs b ↔ ∃ v ∈ ownVals rs vs, blk v = some b)
  | [], [], b, _ => by simp [OwnBlk, ownVals]
  | [], _ :: _, _, h => by simp at h
  | _ :: _, [], _, h => by simp at h
  | r :: rs, v :: vs, b, h => by
    have ih := ownVals_mem (rs := rs) (vs := vs) (b := b) (by simpa using h)
    have e : OwnBlk (r :: rs) (v :: vs) b ↔ (r.isOwn = true ∧ blk v = some b) ∨ OwnBlk rs vs b := by
      constructor
      · rintro ⟨i, r', v', h1, h2, h3, h4⟩
        cases i with
        | zero => simp at h1 h2; subst h1 h2; exact .inl ⟨h3, h4⟩
        | succ i => exact .inr ⟨i, r', v', by simpa using h1, by simpa using h2, h3, h4⟩
      · rintro (⟨h3, h4⟩ | ⟨i, r', v', h1, h2, h3, h4⟩)
        · exact ⟨0, r, v, rfl, rfl, h3, h4⟩
        · exact ⟨i + 1, r', v', by simpa using h1, by simpa using h2, h3, h4⟩
    rw [e, ih]
    cases r with
    | d x => simp [ownVals, RV.isOwn]
    | any => simp [ownVals, RV.isOwn]
    | own e xs => simp [ownVals, RV.isOwn]
/-- what is known of arguments that are handed over -/
structure ArgX (E : Env) (ρ : List D) (σ : Names) (ts : List (SV TK)) (a : Act) (w : World) (m : Mem) (pk : List PK) (vals : List Value) (rs : List RT) (is : List Nat) (objs' : List (OV TK)) (n : Nat) (m' : Mem) : Prop where
  fr : FrOk E ρ σ ts a w m objs' n m'
  reps : RepRs m' w (fun _ => True) (rs.map (RT.den ρ)) vals
  nd : is.Nodup
  arr : ∀ o ∈ is, ∃ e x, objs'[o]? = some (.arr e x)
  names : is.map σ = (ownVals (rs.map (RT.den ρ)) vals).map some
  len : is.length = (ownKs pk).length
theorem RT.den_d_own {ρ : List D} {t : T} : (RT.den ρ (.d t)).isOwn = false := rfl
theorem RT.den_own_own {ρ : List D} {e : Nat} {t : T} : ∃ xs, RT.den ρ (.own e t) = .own e xs := by
  simp only [RT.den]
  split <;> exact ⟨_, rfl⟩
theorem ArgX.cons_d {m m1 m' : Mem} {pk : List PK} {vals : List Value} {rs : List RT} {is : List Nat} {objs1 objs' : List (OV TK)} {n : Nat} {k : PK} {t : T} {val : Value} (hf1 : FrOk E ρ σ ts a w m objs1 n m1) (hrep : RepD m1 (den ρ t) val)
    (hk : ownKs (k :: pk) = ownKs pk) (h : ArgX E ρ σ ts a w m1 pk vals rs is objs' objs1.length m') : ArgX E ρ σ ts a w m (k :: pk) (val :: vals) (.d t :: rs) is objs' n m' where
  fr := ⟨Mem.le_trans hf1.le h.fr.le, h.fr.fits, h.fr.ok, by rw [h.fr.len, hf1.len]⟩
  reps := ⟨by simp [h.reps.len], fun i r u hr hu => by
      cases i with
      | zero => simp [RT.den] at hr hu; subst hr hu; exact .d (hrep.mono h.fr.le)
      | succ i => exact h.reps.rep i r u (by simpa using hr) (by simpa using hu),
    fun i j r r' u u' b hne hr hr' hu hu' ho ho' hb => by
      cases i with
      | zero => simp [RT.den] at hr; subst hr; cases ho
      | succ i =>
        cases j with
        | zero => simp [RT.den] at hr'; subst hr'; cases ho'
        | succ j => exact h.reps.sep i j r r' u u' b (by omega) (by simpa using hr) (by simpa using hr') (by simpa using hu) (by simpa using hu') ho ho' hb⟩
  nd := h.nd
  arr := h.arr
  names := by simpa [RT.den, ownVals] using h.names
  len := by rw [hk]; exact h.len
theorem argXs_ok : ∀ {pk : List PK} {vs : List (SV TK)} {vals : List Value} {objs objs' : List (OV TK)} {rs : List RT} {is : List Nat} {m : Mem}, Fits E σ m (denSt ρ ⟨ts, objs⟩) a w → (∀ o ∈ objs, OV.Ok ρ o) → argXs objs pk vs = some (rs, is, objs') →
    (∀ (i : Nat) c v, vs[i]? = some c → vals[i]? = some v → RS σ m ρ c v) → vals.length = vs.length → (∀ c ∈ vs, SV.Ok ρ c) → ∃ m', ArgX E ρ σ ts a w m pk vals rs is objs' objs.length m'
  | [], vs, vals, objs, objs', rs, is, m, hf, hok, h, hr, hl, hk => by
    cases vs with
    | cons v vs => simp [argXs] at h
    | nil =>
      simp only [argXs, Option.some.injEq, Prod.mk.injEq] at h
      obtain ⟨rfl, rfl, rfl⟩ := h
      cases vals with
      | cons v vals => simp at hl
      | nil => exact ⟨m, ⟨Mem.le_refl m, hf, hok, rfl⟩, ⟨rfl, by simp, by simp⟩, List.nodup_nil, by simp, by simp [ownVals], rfl⟩
  | k :: pk, [], vals, objs, objs', rs, is, m, hf, hok, h, hr, hl, hk => by cases k <;> simp [argXs] at h
  | k :: pk, v :: vs, vals, objs, objs', rs, is, m, hf, hok, h, hr, hl, hk => by
    cases vals with
    | nil => simp at hl
    | cons val vals =>
    have hl' : vals.length = vs.length := by simpa using hl
    have hr0 := hr 0 _ _ rfl rfl
    have hk0 := hk v List.mem_cons_self
    have hrt : ∀ (i : Nat) c v, vs[i]? = some c → vals[i]? = some v → RS σ m ρ c v := fun i c v a b => hr (i + 1) c v (by simpa using a) (by simpa using b)
    have hkt : ∀ c ∈ vs, SV.Ok ρ c := fun c hc => hk c (List.mem_cons_of_mem _ hc)
    -- a value that is frozen
    have one : ∀ {x : TK} {objs1 : List (OV TK)} {rs' : List RT} {is' : List Nat}, ownKs (k :: pk) = ownKs pk → freeze 6 objs v = some (x, objs1) → argXs objs1 pk vs = some (rs', is', objs') → some (RT.d x.t :: rs', is', objs') = some (rs, is, objs') → ∃ m', ArgX E ρ σ ts a w m (k :: pk) (val :: vals) rs is objs' objs.length m' := by
      intro x objs1 rs' is' hko hfr hrec he
      simp only [Option.some.injEq, Prod.mk.injEq] at he
      obtain ⟨rfl, rfl, _⟩ := he
      obtain ⟨m1, f1, k1, r1⟩ := freeze_ok 6 hf hok hfr hr0 hk0
      obtain ⟨m', A⟩ := argXs_ok (m := m1) f1.fits f1.ok hrec (fun i c v a b => (hrt i c v a b).mono (Names.le_refl σ) f1.le) hl' hkt
      exact ⟨m', ArgX.cons_d f1 r1 hko A⟩
    cases k with
    | any => simp [argXs] at h
    | cell kk =>
      simp only [argXs] at h
      split at h <;> try contradiction
      rename_i x objs1 hfr
      split at h <;> try contradiction
      split at h <;> try contradiction
      rename_i rs' is' o' hrec
      have : o' = objs' := by simp only [Option.some.injEq, Prod.mk.injEq] at h; exact h.2.2
      subst this
      exact one rfl hfr hrec h
    | agg kk =>
      simp only [argXs] at h
      split at h <;> try contradiction
      rename_i x objs1 hfr
      split at h <;> try contradiction
      split at h <;> try contradiction
      rename_i rs' is' o' hrec
      have : o' = objs' := by simp only [Option.some.injEq, Prod.mk.injEq] at h; exact h.2.2
      subst this
      exact one rfl hfr hrec h
    | own kk =>
      simp only [argXs] at h
      split at h <;> try contradiction
      rename_i o
      split at h <;> try contradiction
      rename_i e x hox
      split at h <;> try contradiction
      rename_i hcond
      simp only [Bool.and_eq_true, beq_iff_eq] at hcond
      split at h <;> try contradiction
      rename_i rs' is' o' hrec
      split at h <;> try contradiction
      rename_i hnc
      split at h <;> try contradiction
      rename_i e' x' hox'
      split at h <;> try contradiction
      rename_i hsame
      simp only [Bool.and_eq_true, beq_iff_eq] at hsame
      obtain ⟨he, hx⟩ := hsame
      have hx := TK.eq_of_beq hx
      subst he hx
      simp only [Option.some.injEq, Prod.mk.injEq] at h
      obtain ⟨rfl, rfl, rfl⟩ := h
      obtain ⟨m', A⟩ := argXs_ok (m := m) hf hok hrec hrt hl' hkt
      have hF := A.fr.fits
      have hobj := hF.objs o _ (show (denSt ρ ⟨ts, o'⟩).objs[o]? = some (OV.map (denL ρ) (.arr e x)) by simp [denSt, St.map, hox'])
      have hal : (denSt ρ ⟨ts, o'⟩).objs[o]? = some (.arr e (denL ρ x)) := by simp [denSt, St.map, hox', OV.map]
      have hσ : σ o = some val := by
        simp only [RS, SV.map] at hr0
        cases hr0; assumption
      have hno : o ∉ is' := by simpa using hnc
      have hd : (RT.den ρ (.own e x.t)).isOwn = true ∧ RepR m' w (fun _ => True) (RT.den ρ (.own e x.t)) val := by
        simp only [OV.map, denL] at hobj
        simp only [RT.den]
        generalize hdd : den ρ x.t = dd at hobj
        have hal' : (denSt ρ ⟨ts, o'⟩).objs[o]? = some (.arr e dd) := by rw [hal]; simp [denL, hdd]
        cases hobj with
        | none hs => rw [hs] at hσ; cases hσ; exact ⟨rfl, .none⟩
        | arr hs hb h0 hc hcc hcap hsz hee hvv =>
          rw [hs] at hσ; cases hσ
          exact ⟨rfl, .own trivial (hF.sep o _ _ hal' rfl (by rw [hs, Option.bind_some]; exact blk_slice h0)).1 hb h0 hc hcc hcap hsz hee hvv⟩
      have hblk : ∀ (j : Nat) r u b, (rs'.map (RT.den ρ))[j]? = some r → vals[j]? = some u → r.isOwn = true → blk val = some b → blk u ≠ some b := by
        intro j r u b h1 h2 h3 h4 h5
        have : OwnBlk (rs'.map (RT.den ρ)) vals b := ⟨j, r, u, h1, h2, h3, h5⟩
        rw [ownVals_mem (by rw [A.reps.len])] at this
        obtain ⟨v', hv', hb'⟩ := this
        have hm : some v' ∈ is'.map σ := by rw [A.names]; exact List.mem_map_of_mem hv'
        obtain ⟨o2, ho2, hs2⟩ := List.mem_map.1 hm
        obtain ⟨e2, x2, hx2⟩ := A.arr o2 ho2
        have hal2 : (denSt ρ ⟨ts, o'⟩).objs[o2]? = some (.arr e2 (denL ρ x2)) := by simp [denSt, St.map, hx2, OV.map]
        have := hF.inj o o2 _ _ b hal hal2 rfl rfl (by rw [hσ]; exact h4) (by rw [hs2]; exact hb')
        exact hno (this ▸ ho2)
      refine ⟨m', A.fr, ⟨by simp [A.reps.len], ?_, ?_⟩, List.nodup_cons.2 ⟨hno, A.nd⟩, ?_, ?_, by simp [ownKs, A.len]⟩
      · intro i r u h1 h2
        cases i with
        | zero => simp at h1 h2; subst h1 h2; exact hd.2
        | succ i => exact A.reps.rep i r u (by simpa using h1) (by simpa using h2)
      · intro i j r r' u u' b hne h1 h1' h2 h2' ho ho' hb
        cases i with
        | zero =>
          cases j with
          | zero => exact absurd rfl hne
          | succ j =>
            simp at h2; subst h2
            exact hblk j r' u' b (by simpa using h1') (by simpa using h2') ho' hb
        | succ i =>
          cases j with
          | zero =>
            simp at h2'; subst h2'
            intro hb'
            exact hblk i r u b (by simpa using h1) (by simpa using h2) ho hb' hb
          | succ j => exact A.reps.sep i j r r' u u' b (by omega) (by simpa using h1) (by simpa using h1') (by simpa using h2) (by simpa using h2') ho ho' hb
      · intro q hq
        rcases List.mem_cons.1 hq with rfl | hq
        · exact ⟨e, x, hox'⟩
        · exact A.arr q hq
      · obtain ⟨xs, hxs⟩ := RT.den_own_own (ρ := ρ) (e := e) (t := x.t)
        rw [List.map_cons, List.map_cons, hxs, ownVals, List.map_cons, hσ, A.names]
theorem killAll_fits : ∀ {is : List Nat} {objs : List (OV TK)} {m : Mem}, Fits E σ m (denSt ρ ⟨ts, objs⟩) a w → (∀ o ∈ objs, OV.Ok ρ o) → Fits E σ m (denSt ρ ⟨ts, killAll objs is⟩) a w ∧ (∀ o ∈ killAll objs is, OV.Ok ρ o) ∧
    (killAll objs is).length = objs.length ∧ (∀ o, o ∉ is → (killAll objs is)[o]? = objs[o]?) ∧ ∀ o ∈ is, o < objs.length → (killAll objs is)[o]? = some .dead
  | [], objs, m, hf, hok => ⟨hf, hok, rfl, fun _ _ => rfl, by simp⟩
  | o :: is, objs, m, hf, hok => by
    have h1 : Fits E σ m (denSt ρ ⟨ts, objs.set o .dead⟩) a w := by
      rw [denSt_set (st := ⟨ts, objs⟩)]
      exact hf.kill o
    obtain ⟨k1, k2, k3, k4, k5⟩ := killAll_fits (is := is) h1 (fun q hq => by
      rcases List.mem_or_eq_of_mem_set hq with hq | rfl
      · exact hok q hq
      · exact .dead)
    simp only [killAll]
    refine ⟨k1, k2, by simpa using k3, fun q hq => ?_, fun q hq hlt => ?_⟩
    · simp only [List.mem_cons, not_or] at hq
      rw [k4 q hq.2, List.getElem?_set_ne (fun e => hq.1 e.symm)]
    · by_cases hqi : q ∈ is
      · exact k5 q hqi (by simpa using hlt)
      · have : q = o := (List.mem_cons.1 hq).resolve_right hqi
        subst this
        rw [k4 q hqi, List.getElem?_set_self hlt]
theorem backAll_ok {B : Nat → Prop} : ∀ {pk : List PK} {is : List Nat} {n : Nat} {objs : List (OV TK)} {m : Mem} {ext : List Value} {rvs : List RV} {ds : List D},
    Fits E σ m (denSt ρ ⟨ts, objs⟩) a w → (∀ o ∈ objs, OV.Ok ρ o) → is.Nodup → (∀ o ∈ is, objs[o]? = some .dead) → is.map σ = ext.map some → RV.all (ownKs pk) rvs = some ds → HasKs (RK.all (ownKs pk)) ds → Vars ρ n ds →
    (∀ (i : Nat) r u, rvs[i]? = some r → ext[i]? = some u → RepR m w B r u) → (∀ b, B b → E.w0.heap.size ≤ b ∨ E.mine b) →
    (∀ u ∈ ext, ∀ b, blk u = some b → ∀ (o : Nat) ov, objs[o]? = some ov → ov.alive = true → (σ o).bind blk ≠ some b) →
    (∀ (i j : Nat) u u' b, i ≠ j → ext[i]? = some u → ext[j]? = some u' → blk u = some b → blk u' ≠ some b) → is.length = (ownKs pk).length →
    Fits E σ m (denSt ρ ⟨ts, backAll objs is (ownKs pk) n⟩) a w ∧ ∀ o ∈ backAll objs is (ownKs pk) n, OV.Ok ρ o := by
  have key : ∀ {rk : List RK}, (∀ k ∈ rk, ∃ ks, k = .own ks) → ∀ {is : List Nat} {n : Nat} {objs : List (OV TK)} {m : Mem} {ext : List Value} {rvs : List RV} {ds : List D},
    Fits E σ m (denSt ρ ⟨ts, objs⟩) a w → (∀ o ∈ objs, OV.Ok ρ o) → is.Nodup → (∀ o ∈ is, objs[o]? = some .dead) → is.map σ = ext.map some → RV.all rk rvs = some ds → HasKs (RK.all rk) ds → Vars ρ n ds →
    (∀ (i : Nat) r u, rvs[i]? = some r → ext[i]? = some u → RepR m w B r u) → (∀ b, B b → E.w0.heap.size ≤ b ∨ E.mine b) →
    (∀ u ∈ ext, ∀ b, blk u = some b → ∀ (o : Nat) ov, objs[o]? = some ov → ov.alive = true → (σ o).bind blk ≠ some b) →
    (∀ (i j : Nat) u u' b, i ≠ j → ext[i]? = some u → ext[j]? = some u' → blk u = some b → blk u' ≠ some b) → is.length = rk.length →
    Fits E σ m (denSt ρ ⟨ts, backAll objs is rk n⟩) a w ∧ ∀ o ∈ backAll objs is rk n, OV.Ok ρ o := by
    intro rk
    induction rk with
    | nil =>
      intro _ is n objs m ext rvs ds hf hok _ _ _ _ _ _ _ _ _ _ hl
      cases is with
      | nil => exact ⟨hf, hok⟩
      | cons o is => simp at hl
    | cons k rk ih =>
      intro hown is n objs m ext rvs ds hf hok hnd hdead hnm hall hks hv hrep hB hfree hsep hl
      cases is with
      | nil => simp at hl
      | cons o is =>
      obtain ⟨ks, rfl⟩ := hown k List.mem_cons_self
      cases rvs with
      | nil => simp [RV.all] at hall
      | cons r rvs =>
      cases ext with
      | nil => simp at hnm
      | cons u ext =>
      simp only [List.map_cons, List.cons.injEq] at hnm
      obtain ⟨hσ, hnm⟩ := hnm
      simp only [RV.all] at hall
      split at hall <;> try contradiction
      rename_i d1 d2 h1 h2
      cases hall
      cases r with
      | d x => simp [RV.cells] at h1
      | any => simp [RV.cells] at h1
      | own e xs =>
      simp only [RV.cells] at h1
      split at h1 <;> try contradiction
      rename_i he
      cases h1
      have hkk : RK.all (.own ks :: rk) = .slice ks :: RK.all rk := rfl
      rw [hkk] at hks
      simp only [List.cons_append, List.nil_append, HasKs] at hks
      have hvar : ρ[n]? = some (.slice xs) := by have := hv 0 (.slice xs) rfl; simpa using this
      have hden : denL ρ ⟨.var n, .slice ks⟩ = .slice xs := denL_var hvar
      rw [List.nodup_cons] at hnd
      have ho := hdead o List.mem_cons_self
      have hr0 := hrep 0 _ _ rfl rfl
      have hfit : Fits E σ m (denSt ρ ⟨ts, objs.set o (.arr ks.length ⟨.var n, .slice ks⟩)⟩) a w := by
        rw [denSt_set (st := ⟨ts, objs⟩)]
        refine hf.revive (by simp [denSt, St.map, ho, OV.map]) ?_ (by simp [OV.map]) (by simp [OV.map]) ?_
        · simp only [OV.map, hden]
          cases hr0 with
          | none => rw [← he]; exact .none hσ
          | own hB' hm hb h0 hc hcc hcap hsz hee hvv => subst he; exact .arr hσ hb h0 hc hcc hcap hsz hee hvv
        · intro b _ hb
          rw [hσ] at hb
          simp only [Option.bind_some] at hb
          cases hr0 with
          | none => simp [blk_zero] at hb
          | own hB' hm hb' h0 hc hcc hcap hsz hee hvv =>
            rw [blk_slice h0] at hb; cases hb
            refine ⟨hm, hB _ hB', fun o' ov' ho' hal => ?_⟩
            simp only [denSt, St.map, List.getElem?_map, Option.map_eq_some_iff] at ho'
            obtain ⟨ov2, ho2, rfl⟩ := ho'
            exact hfree _ List.mem_cons_self _ (blk_slice h0) o' ov2 ho2 (by cases ov2 <;> first | rfl | (simp [OV.map, OV.alive] at hal))
      simp only [backAll]
      refine ih (fun k hk => hown k (List.mem_cons_of_mem _ hk)) hfit ?_ hnd.2 ?_ hnm h2 hks.2 (by have := hv.tail; simpa using this) (fun i r u a b => hrep (i + 1) r u (by simpa using a) (by simpa using b)) hB ?_
        (fun i j u u' b hne a a' => hsep (i + 1) (j + 1) u u' b (by omega) (by simpa using a) (by simpa using a')) (by simpa using hl)
      · intro q hq
        rcases List.mem_or_eq_of_mem_set hq with hq | rfl
        · exact hok q hq
        · exact .arr (.var hvar hks.1)
      · intro q hq
        have : q ≠ o := fun e => hnd.1 (e ▸ hq)
        rw [List.getElem?_set_ne (fun e => this e.symm)]
        exact hdead q (List.mem_cons_of_mem _ hq)
      · intro u' hu' b hb o' ov ho' hal
        rcases getElem?_set_some ho' with ⟨rfl, _, _⟩ | ⟨_, ho'⟩
        · rw [hσ]
          obtain ⟨j, hj⟩ := List.mem_iff_getElem?.1 hu'
          exact fun hb' => hsep 0 (j + 1) u u' b (by omega) rfl (by simpa using hj) (by simpa using hb') hb
        · exact hfree u' (List.mem_cons_of_mem _ hu') b hb o' ov ho' hal
  intro pk is n objs m ext rvs ds
  refine key (fun k hk => ?_)
  induction pk with
  | nil => simp [ownKs] at hk
  | cons p pk ih =>
    cases p with
    | own ks =>
      simp only [ownKs, List.mem_cons] at hk
      rcases hk with rfl | hk
      · exact ⟨ks, rfl⟩
      · exact ih hk
    | cell ks => exact ih (by simpa [ownKs] using hk)
    | agg ks => exact ih (by simpa [ownKs] using hk)
    | any => exact ih (by simpa [ownKs] using hk)
end
theorem RV.all_prefix {a a0 b : List RK} (h : ∀ rvs ds, RV.all a rvs = some ds → RV.all a0 rvs = some ds) {rvs : List RV} {ds : List D} (hd : RV.all (a ++ b) rvs = some ds) : RV.all (a0 ++ b) rvs = some ds := by
  have split : ∀ {a : List RK} {rvs : List RV} {ds : List D}, RV.all (a ++ b) rvs = some ds → ∃ r1 r2 d1 d2, rvs = r1 ++ r2 ∧ ds = d1 ++ d2 ∧ RV.all a r1 = some d1 ∧ RV.all b r2 = some d2 := by
    intro a
    induction a with
    | nil => intro rvs ds h; exact ⟨[], rvs, [], ds, rfl, rfl, rfl, h⟩
    | cons k a ih =>
      intro rvs ds h
      cases rvs with
      | nil => simp [RV.all] at h
      | cons v rvs =>
        simp only [List.cons_append, RV.all] at h
        split at h <;> try contradiction
        rename_i x y h1 h2
        cases h
        obtain ⟨r1, r2, d1, d2, rfl, rfl, q1, q2⟩ := ih h2
        exact ⟨v :: r1, r2, x ++ d1, d2, rfl, by simp, by simp [RV.all, h1, q1], q2⟩
  have join : ∀ {a : List RK} {r1 r2 : List RV} {d1 d2 : List D}, RV.all a r1 = some d1 → RV.all b r2 = some d2 → RV.all (a ++ b) (r1 ++ r2) = some (d1 ++ d2) := by
    intro a
    induction a with
    | nil => intro r1 r2 d1 d2 h1 h2; cases r1 with | nil => simp [RV.all] at h1; subst h1; simpa using h2 | cons _ _ => simp [RV.all] at h1
    | cons k a ih =>
      intro r1 r2 d1 d2 h1 h2
      cases r1 with
      | nil => simp [RV.all] at h1
      | cons v r1 =>
        simp only [RV.all] at h1
        split at h1 <;> try contradiction
        rename_i x y q1 q2
        cases h1
        simp [RV.all, q1, ih q2 h2]
  obtain ⟨r1, r2, d1, d2, rfl, rfl, q1, q2⟩ := split hd
  exact join (h _ _ q1) q2
section
variable {E : Env} {ρ : List D} {σ : Names} {m : Mem} {a : Act} {w : World}
theorem callX_ok {F : Option Nat → List RV → Prop} {Kd : Ags → List D → XExit → XS → Prop} {ags : Ags} {xs : XS} {o : Oper} {c : Call} {fv : Operand} {g : Option T} {ops : Array Oper} {own upd : Bool} {f : FuncId} {pk : List PK} {vs : List (SV TK)}
    (ho : o.op = .call c) (hc : c.callee = .value fv) (hf : Fits E σ m (denSt ρ xs.st) a w) (hx : XOk ρ xs) (hw : Region.wanted o (yielded ops a.tmps) = true) (hg : ∀ c, g = some c → den ρ c = .bool true)
    (hvs : vs = c.args.toList.map (fun x => thaw xs.st.objs (unguard g (look xs.st x)))) (hfv : thaw xs.st.objs (unguard g (look xs.st fv)) = .d ⟨.fn f, .fn⟩)
    (h : denR E.P F Kd (callX E.P xs o vs own f pk upd) ags ρ) : StepOk E ops o a w (Res E Kd ags a o.dst) := by
  unfold callX at h
  split at h
  · simp [denR] at h
  rename_i hcond
  simp only [Bool.or_eq_true, Bool.not_eq_true', not_or, Bool.not_eq_false] at hcond
  obtain ⟨hcl, hsame⟩ := hcond
  have hty := sameTypes_eq hsame
  split at h
  rotate_left
  · simp [denR] at h
  rename_i rs is objs rk hargs hrk
  -- the callee
  obtain ⟨fr1, fo1⟩ := opnd_ok hf hx.all hg fv
  rw [hfv] at fr1 fo1
  obtain ⟨f', caps, arr, hden, hval, hasz, _⟩ := callee_ok fr1 (by cases fo1; assumption)
  have hff : f' = f ∧ caps = [] := by simp [den] at hden; exact ⟨hden.1.symm, hden.2⟩
  obtain ⟨rfl, rfl⟩ := hff
  have harr : arr = #[] := Array.eq_empty_of_size_eq_zero (by simpa using hasz)
  subst harr
  -- the arguments
  obtain ⟨m1, A⟩ := argXs_ok (E := E) (ρ := ρ) (σ := σ) (ts := xs.st.tmps) (a := a) (w := w) (vals := c.args.toList.map a.eval) (by exact hf) hx.all.objs hargs
    (fun i c' v hc' hv => by
      rw [hvs] at hc'
      simp only [List.getElem?_map, Option.map_eq_some_iff] at hc' hv
      obtain ⟨x, hx', rfl⟩ := hc'
      obtain ⟨y, hy, rfl⟩ := hv
      rw [hx'] at hy; cases hy
      exact (opnd_ok hf hx.all hg x).1) (by rw [hvs]; simp) (by
      intro c' hc'
      rw [hvs] at hc'
      obtain ⟨x, _, rfl⟩ := List.mem_map.1 hc'
      exact (opnd_ok hf hx.all hg x).2)
  generalize hvals : c.args.toList.map a.eval = vals at A
  have hF := A.fr.fits
  obtain ⟨k1, k2, k3, k4, k5⟩ := killAll_fits (is := is) hF A.fr.ok
  have hdead : ∀ o ∈ is, (killAll objs is)[o]? = some .dead := fun q hq => by
    obtain ⟨e, x, hx'⟩ := A.arr q hq
    exact k5 q hq (List.getElem?_eq_some_iff.1 hx').1
  -- the blocks that are handed over
  have hOB : ∀ b, OwnBlk (rs.map (RT.den ρ)) vals b → ∃ q ∈ is, (σ q).bind blk = some b ∧ ∃ e x, (denSt ρ ⟨xs.st.tmps, objs⟩).objs[q]? = some (.arr e x) := by
    intro b hb
    rw [ownVals_mem (by rw [A.reps.len])] at hb
    obtain ⟨v, hv, hbv⟩ := hb
    have : some v ∈ is.map σ := by rw [A.names]; exact List.mem_map_of_mem hv
    obtain ⟨q, hq, hs⟩ := List.mem_map.1 this
    obtain ⟨e, x, hx'⟩ := A.arr q hq
    exact ⟨q, hq, by rw [hs]; exact hbv, e, denL ρ x, by simp [denSt, St.map, hx', OV.map]⟩
  have hO : ∀ b, OwnBlk (rs.map (RT.den ρ)) vals b → b < w.heap.size ∧ (E.w0.heap.size ≤ b ∨ E.mine b) := by
    intro b hb
    obtain ⟨q, _, hb', e, x, hq⟩ := hOB b hb
    exact ⟨(hF.objs q _ hq).lt rfl hb', (hF.sep q _ b hq rfl hb').2⟩
  have hal : ∀ b, aliveB σ (denSt ρ ⟨xs.st.tmps, killAll objs is⟩) b → ¬ OwnBlk (rs.map (RT.den ρ)) vals b := by
    rintro b ⟨q, ov, h1, h2, h3⟩ hb
    obtain ⟨q', hq', hb', e, x, hq2⟩ := hOB b hb
    simp only [denSt, St.map, List.getElem?_map, Option.map_eq_some_iff] at h1
    obtain ⟨ov', h1, rfl⟩ := h1
    have hni : q ∉ is := fun hi => by rw [hdead q hi] at h1; cases h1; simp [OV.map, OV.alive] at h2
    rw [k4 q hni] at h1
    have := hF.inj q q' _ _ b (show (denSt ρ ⟨xs.st.tmps, objs⟩).objs[q]? = some (ov'.map (denL ρ)) by simp [denSt, St.map, h1]) hq2 h2 rfl h3 hb'
    exact hni (this ▸ hq')
  have hmk : ∀ D, mark D ∈ a.defers → ¬ OwnBlk (rs.map (RT.den ρ)) vals D := by
    intro D hD hb
    obtain ⟨q, _, hb', e, x, hq⟩ := hOB D hb
    obtain ⟨arr, t, hcells⟩ := (hF.objs q _ hq).cells rfl hb'
    obtain ⟨Ds, d1, _, d3⟩ := hF.dfr
    rw [d1] at hD
    obtain ⟨D', hD', he⟩ := List.mem_map.1 hD
    have : D' = D := by simpa [mark] using he
    subst this
    have := (d3 D' hD').1
    rw [hcells] at this; cases this
  -- the call
  have main : ∀ {res : List RK} {K : List D → Prop} {r : R}, denR E.P F Kd (.callX upd f' rs res r) ags ρ → res = rk ++ (if upd then ownKs pk else []) → (upd = true → rk = []) →
      (∀ w' m2 rvs us ds, RV.all res rvs = some ds → HasKs (RK.all res) ds → denR E.P F Kd r ags (ρ ++ ds) → RepRs m2 w' (fun b => w.heap.size ≤ b ∨ OwnBlk (rs.map (RT.den ρ)) vals b) rvs (us ++ if upd then ownVals (rs.map (RT.den ρ)) vals else []) →
        Fits E σ m2 (denSt ρ ⟨xs.st.tmps, killAll objs is⟩) a w' → w.heap.size ≤ w'.heap.size → Res E Kd ags a o.dst (packV us) w') → StepOk E ops o a w (Res E Kd ags a o.dst) := by
    intro res K r hR hres hupd hK a' K' Q hwant heq hK'
    simp only [denR] at hR
    obtain ⟨pk', s, hcon, htyp, hback, hs⟩ := hR
    have hrun := run_call (P := E.P) (w := w) ho hc hval hcl
    rw [← heq] at hrun
    rw [hwant, if_pos hw]
    refine wpIn_upon hrun (by simp) ?_
    rw [Oper.uponIn_enter]
    refine ⟨by simp [fen, Fence.wide], calls_in ?_⟩
    have hcall := hcon.2 _ _ hs htyp w m1 vals hF.mem A.reps
    have he : vals.toArray = c.args.map a.eval ++ #[] := by rw [← hvals, Array.append_empty]; apply Array.ext'; simp
    rw [he] at hcall
    refine hcall.mono ?_
    rintro e w' ⟨rvs, us, v, m2, ⟨ds, hds, hden'⟩, hrt, rfl, rfl, hreps, hle, hmem, hold, hap⟩
    simp only
    -- the types
    have hbk : (if upd then ownKs pk' else []) = if upd then ownKs pk else [] := by
      cases upd with
      | false => rfl
      | true =>
        simp only [if_true]
        have h1 := hback rfl
        have h2 := hupd rfl
        rw [hres, h2] at h1
        simp only [if_true, List.nil_append] at h1
        have h3 : (fnTypes E.P f').length = 0 := by
          rw [← hty]
          rw [h2] at hrk
          cases hrt' : resTypes E.P o.type with
          | nil => rfl
          | cons t tys =>
            rw [hrt'] at hrk
            simp only [resKinds] at hrk
            split at hrk <;> try contradiction
            split at hrk
            · split at hrk <;> cases hrk
            · cases hrk
        rw [h3] at h1
        exact h1.symm
    obtain ⟨rk0, q1, q2, q3⟩ := resKinds_own hrk
    rw [hty] at q1
    obtain ⟨ds', e1, e2⟩ := hrt rk0 q1
    rw [hbk] at e1 e2
    have hds0 : RV.all (rk0 ++ if upd then ownKs pk else []) rvs = some ds := by
      rw [hres] at hds
      exact RV.all_prefix q3 hds
    rw [hds0] at e1
    cases e1
    have hks : HasKs (RK.all res) ds := by
      rw [hres]
      simp only [RK.all, List.map_append, List.flatten_append] at e2 q2 ⊢
      rw [← q2]; exact e2
    refine hK' _ _ (hK w' m2 rvs us ds hds hks hden' hreps ?_ hap.size)
    exact k1.other (O := OwnBlk (rs.map (RT.den ρ)) vals) hap.block hap.size hap.os hap.tape hap.output hap.drawn hle hold hmem hal (fun b hb => (hO b hb).2) hmk
  have okk : ∀ ds, St.Ok (ρ ++ ds) ⟨xs.st.tmps, killAll objs is⟩ := fun ds => ⟨fun v hv => (hx.all.tmps v hv).ext ds, fun o ho => (k2 o ho).ext ds⟩
  have okk0 : St.Ok ρ ⟨xs.st.tmps, killAll objs is⟩ := ⟨hx.all.tmps, k2⟩
  have hnv : xs.nv = ρ.length := hx.nv.symm
  -- blocks of live objects are no new ones, nor handed over
  have hfree : ∀ b, (w.heap.size ≤ b ∨ OwnBlk (rs.map (RT.den ρ)) vals b) → ∀ (q : Nat) ov, (killAll objs is)[q]? = some ov → ov.alive = true → (σ q).bind blk ≠ some b := by
    intro b hb q ov hov hal' hbb
    have hl : aliveB σ (denSt ρ ⟨xs.st.tmps, killAll objs is⟩) b := ⟨q, ov.map (denL ρ), by simp [denSt, St.map, hov], by cases ov <;> first | rfl | (simp [OV.alive] at hal'), hbb⟩
    rcases hb with hb | hb
    · have := (k1.objs q (ov.map (denL ρ)) (by simp [denSt, St.map, hov])).lt (by cases ov <;> first | rfl | (simp [OV.alive] at hal')) hbb
      omega
    · exact hal b hl hb
  split at h
  · -- the arrays come back
    rename_i hup
    split at h
    rotate_left
    · simp [denR] at h
    rename_i hrke
    have hrke : rk = [] := by simpa using hrke
    subst hrke
    refine main (res := ownKs pk) (K := fun _ => True) (by rw [hup]; exact h) (by simp [hup]) (fun _ => rfl) ?_
    intro w' m2 rvs us ds hds hks hkd hreps hfit hgrow
    simp only [hup, if_true] at hreps
    simp only [denR] at hkd
    have hlr : rvs.length = (ownKs pk).length := by
      have : ∀ {rk : List RK} {rvs : List RV} {ds : List D}, RV.all rk rvs = some ds → rvs.length = rk.length := by
        intro rk
        induction rk with
        | nil => intro rvs ds h; cases rvs with | nil => rfl | cons _ _ => simp [RV.all] at h
        | cons k rk ih =>
          intro rvs ds h
          cases rvs with
          | nil => simp [RV.all] at h
          | cons v rvs =>
            simp only [RV.all] at h
            split at h <;> try contradiction
            rename_i h2
            simp [ih h2]
      exact this hds
    have hle : (ownVals (rs.map (RT.den ρ)) vals).length = is.length := by
      have := congrArg List.length A.names
      simpa using this.symm
    have hus : us = [] := by
      have := hreps.len
      simp only [List.length_append] at this
      rw [hle, A.len, ← hlr] at this
      exact List.eq_nil_of_length_eq_zero (by omega)
    subst hus
    rw [List.nil_append] at hreps
    have hfit' : Fits E σ m2 (denSt (ρ ++ ds) ⟨xs.st.tmps, killAll objs is⟩) a w' := by rw [denSt_ext okk0]; exact hfit
    have hown : ∀ (i : Nat) r, rvs[i]? = some r → r.isOwn = true := by
      intro i r hr
      have : ∀ {pk : List PK} {rvs : List RV} {ds : List D}, RV.all (ownKs pk) rvs = some ds → ∀ r ∈ rvs, r.isOwn = true := by
        intro pk
        induction pk with
        | nil => intro rvs ds h r hr; cases rvs with | nil => cases hr | cons _ _ => simp [RV.all, ownKs] at h
        | cons p pk ih =>
          intro rvs ds h r hr
          cases p with
          | cell k => exact ih (by simpa [ownKs] using h) r hr
          | agg k => exact ih (by simpa [ownKs] using h) r hr
          | any => exact ih (by simpa [ownKs] using h) r hr
          | own ks =>
            cases rvs with
            | nil => cases hr
            | cons v rvs =>
            simp only [ownKs, RV.all] at h
            split at h <;> try contradiction
            rename_i h1 h2
            rcases List.mem_cons.1 hr with rfl | hr
            · cases r with
              | d x => simp [RV.cells] at h1
              | any => simp [RV.cells] at h1
              | own e xs => rfl
            · exact ih h2 r hr
      exact this hds r (List.mem_of_getElem? hr)
    have hlv : ∀ {i : Nat} {u : Value}, (ownVals (rs.map (RT.den ρ)) vals)[i]? = some u → ∃ r, rvs[i]? = some r := by
      intro i u hi
      have hlt := (List.getElem?_eq_some_iff.1 hi).1
      exact ⟨_, List.getElem?_eq_getElem (by rw [← hreps.len]; exact hlt)⟩
    obtain ⟨b1, b2⟩ := backAll_ok (B := fun b => w.heap.size ≤ b ∨ OwnBlk (rs.map (RT.den ρ)) vals b) (n := xs.nv) hfit' (okk ds).objs A.nd hdead A.names hds hks (by rw [hnv]; exact Vars.self ρ ds) hreps.rep
      (fun b hb => hb.elim (fun hb => .inl (Nat.le_trans hf.grow hb)) fun hb => (hO b hb).2)
      (fun u hu b hb => hfree b (.inr ((ownVals_mem (by rw [A.reps.len])).2 ⟨u, hu, hb⟩)))
      (fun i j u u' b hne hi hj hb => by
        obtain ⟨r, hr⟩ := hlv hi
        obtain ⟨r', hr'⟩ := hlv hj
        exact hreps.sep i j r r' u u' b hne hr hr' hi hj (hown i r hr) (hown j r' hr') hb) A.len
    have hrs : RS σ m2 (ρ ++ ds) (.tup []) (packV []) := by
      simp only [RS, SV.map, SV.mapL_eq, packV]
      exact .tup rfl (by simp)
    refine ⟨ρ ++ ds, _, σ, m2, hkd, ?_, ?_, ?_⟩
    · simp only
      rw [denSt_putT]
      exact b1.put o.dst hrs
    · exact St.Ok.putT (st := ⟨xs.st.tmps, backAll (killAll objs is) is (ownKs pk) xs.nv⟩) ⟨fun v hv => (hx.all.tmps v hv).ext ds, b2⟩ o.dst (.tup (by simp)) b2
    · simp only [List.length_append]
      have : ds.length = (ownKs pk).length := by
        rw [hks.length]
        have : ∀ pk : List PK, (RK.all (ownKs pk)).length = (ownKs pk).length := by
          intro pk
          induction pk with
          | nil => rfl
          | cons p pk ih =>
            cases p with
            | own ks => simp [ownKs, RK.all, RK.kinds] at ih ⊢; omega
            | cell k => simpa [ownKs] using ih
            | agg k => simpa [ownKs] using ih
            | any => simpa [ownKs] using ih
        exact this pk
      rw [this, hnv]
  · -- results alone
    rename_i hup
    have hup : upd = false := by simpa using hup
    generalize hrs : resSVs rk xs.nv (killAll objs is) = rec at h
    obtain ⟨svs, n', objs2⟩ := rec
    refine main (res := rk) (K := fun _ => True) (by rw [hup]; exact h) (by simp [hup]) (fun h => by rw [hup] at h; cases h) ?_
    intro w' m2 rvs us ds hds hks hkd hreps hfit hgrow
    simp only [hup, Bool.false_eq_true, if_false, List.append_nil] at hreps
    simp only [denR] at hkd
    have hfit' : Fits E σ m2 (denSt (ρ ++ ds) ⟨xs.st.tmps, killAll objs is⟩) a w' := by rw [denSt_ext okk0]; exact hfit
    obtain ⟨hn', σ', m', R⟩ := resSVs_ok (us := us) hrs hds hks (by rw [hnv]; exact Vars.self ρ ds) hfit' (okk ds).objs hreps.len hreps.rep
      (fun b hb => hb.elim (fun hb => .inl (Nat.le_trans hf.grow hb)) fun hb => (hO b hb).2)
      (by
        intro i r u b hi hu how hb q ov hov hal' hbb
        have hrr := hreps.rep i r u hi hu
        cases hrr with
        | d => cases how
        | any => cases how
        | none => simp [blk_zero] at hb
        | own hB _ _ h0c => rw [blk_slice h0c] at hb; cases hb; exact hfree _ hB q ov hov hal' hbb)
      hreps.sep
    have hrs' : RS σ' m' (ρ ++ ds) (packRes svs) (packV us) := by
      have hvl : svs.length = us.length := R.len
      unfold packRes packV
      split
      · rename_i v1
        have h1 : us.toArray.size = 1 := by simpa using hvl.symm
        rw [dif_pos h1]
        exact R.rs 0 _ _ rfl (by simp [h1])
      · rename_i hne
        have h1 : us.toArray.size ≠ 1 := by
          intro h1
          have h1' : us.length = 1 := by simpa using h1
          rw [h1'] at hvl
          match svs, hvl with
          | [x], _ => exact hne x rfl
        rw [dif_neg h1]
        simp only [RS, SV.map, SV.mapL_eq]
        refine .tup (by simp [hvl]) fun i c u hc' hu => ?_
        simp only [List.getElem?_map, Option.map_eq_some_iff] at hc'
        obtain ⟨c', hc'', rfl⟩ := hc'
        exact R.rs i c' u hc'' (by simpa using hu)
    refine ⟨ρ ++ ds, _, σ', m', hkd, ?_, ?_, ?_⟩
    · simp only
      rw [denSt_putT]
      exact R.fits.put o.dst hrs'
    · exact St.Ok.putT (st := ⟨xs.st.tmps, objs2⟩) ⟨fun v hv => (hx.all.tmps v hv).ext ds, R.objs⟩ o.dst (packRes_ok R.all) R.objs
    · simp only [List.length_append]
      rw [hn', hks.length, hnv]
end
end Go.Sx
namespace Go.Sx
open Go Go.RowKit
section
variable {E : Env} {ρ : List D} {σ : Names} {m : Mem} {a : Act} {w : World}
theorem PureOk.step {st : St TK} {ops : Array Oper} {o : Oper} {sv : SV TK} {objs : List (OV TK)} {fs : List T} {v : Value} {w' : World} {σ' : Names} {m' : Mem}
    (h : PureOk E ρ σ m st ops a w o sv objs fs v w' σ' m') {R : Value → World → Prop} (hR : R v w') : StepOk E ops o a w R := by
  intro a' K Q hw heq hK
  rw [hw]
  have hk := hK v w' hR
  cases hb : Region.wanted o (yielded ops a.tmps) with
  | true =>
    simp only [if_true]
    rcases h.run hb with hr | ⟨hr, rfl⟩
    · rw [← heq] at hr; exact wpIn_upon hr (by simp) hk
    · rw [← heq] at hr; exact wpIn_upon hr (by simp) hk
  | false =>
    simp only [Bool.false_eq_true, if_false]
    obtain ⟨rfl, rfl⟩ := h.skip hb
    exact hk
theorem plain_step_ok {F : Option Nat → List RV → Prop} {Kd : Ags → List D → XExit → XS → Prop} {ags : Ags} {xs : XS} {o : Oper} {g gr : Option T} {ops : Array Oper}
    (hf : Fits E σ m (denSt ρ xs.st) a w) (hx : XOk ρ xs) (hG : GOk ρ ops o a g gr) (h : denR E.P F Kd (sxPlain E.P xs g gr o) ags ρ) : StepOk E ops o a w (Res E Kd ags a o.dst) := by
  simp only [sxPlain] at h
  split at h
  · simp [denR] at h
  rename_i s hs
  split at h
  · rw [denR_needs, denR_facts] at h
    obtain ⟨hn, hc⟩ := h
    obtain ⟨v, w', σ', m', hp, _⟩ := (pure_ok (ops := ops) hf hx.all hG hs (by simp)).1 rfl hn
    exact hp.step ⟨ρ, _, σ', m', hc hp.facts, hp.fits, hp.all, hx.nv⟩
  · rename_i c
    split at h
    · simp [denR] at h
    rename_i hcond
    simp only [Bool.or_eq_true, Bool.not_eq_true', not_or, Bool.not_eq_true, Bool.not_eq_false] at hcond
    obtain ⟨h1, h2⟩ := hcond
    have h1 : s.objs = none := by cases hso : s.objs with | none => rfl | some _ => simp [hso] at h1
    rw [denR_needs, denR_facts] at h
    obtain ⟨hn, hc⟩ := h
    obtain ⟨v, hp⟩ := (pure_ok (ops := ops) hf hx.all hG hs (fun _ => by rw [hx.nv]; exact h2)).2 c rfl h1 hn
    exact hp.step ⟨ρ, _, σ, m, hc hp.facts, hp.fits, hp.all, hx.nv⟩
theorem makeFunc_step_ok {F : Option Nat → List RV → Prop} {Kd : Ags → List D → XExit → XS → Prop} {ags : Ags} {xs : XS} {o : Oper} {g gr : Option T} {ops : Array Oper} {f : FuncId} {first captured : Array Operand}
    (ho : o.op = .makeFunc (.func f) first captured) (hf : Fits E σ m (denSt ρ xs.st) a w) (hx : XOk ρ xs) (hG : GOk ρ ops o a g gr)
    (h : denR E.P F Kd (sxMakeFunc xs g gr o f first.toList captured.toList) ags ρ) : StepOk E ops o a w (Res E Kd ags a o.dst) := by
  simp only [sxMakeFunc] at h
  split at h
  · simp [denR] at h
  rename_i hc
  simp only [Bool.or_eq_true, Bool.not_eq_true', not_or, Bool.not_eq_true, Bool.not_eq_false, List.isEmpty_iff] at hc
  obtain ⟨hfi, hgn⟩ := hc
  have hgn : gr = none := by cases gr with | none => rfl | some _ => simp at hgn
  have hwt := hG.nn hgn
  have hfi : first = #[] := by apply Array.ext'; simpa using hfi
  split at h
  · rename_i ts objs hfr
    obtain ⟨m1, f1, l1, k1, r1⟩ := args_ok (args := captured.toList) (gr := none) (sc := true) hf hx.all (g := g) (hG.known hwt) hfr
    simp only [denR] at h
    have hl := LOks.of_tks k1
    have hk : LOk ρ ⟨.clo f (T.list (ts.map (·.t))), .fn⟩ := LOk.clo hl.2
    have hd : denL ρ ⟨.clo f (T.list (ts.map (·.t))), .fn⟩ = .clo f (ts.map (denL ρ)) := by simp only [denL, den, den_list, D.list, List.map_map]; rfl
    have hrs : RS σ m1 ρ (.d ⟨.clo f (T.list (ts.map (·.t))), .fn⟩) (.func (.func f) #[] (captured.map a.eval)) := by
      refine .d ?_
      rw [hd]
      refine .clo f _ _ (by simp at l1; simp [l1]) fun i d v hd hv => ?_
      simp only [List.getElem?_map, Option.map_eq_some_iff] at hd
      obtain ⟨y, hy, rfl⟩ := hd
      exact r1 i y v hy (by simpa using hv)
    intro a' K Q hw heq hK
    rw [hw, hwt]
    simp only [if_true]
    have hrun : (execOp a.eval o).run E.P w = .ok (.value (.func (.func f) #[] (captured.map a.eval))) w := by
      simp [execOp, ho, Instr.makeFunc, hfi]
    rw [← heq] at hrun
    refine wpIn_upon hrun (by simp) ?_
    rw [Oper.uponIn_value]
    refine hK _ _ ⟨ρ, _, σ, m1, h, ?_, ?_, hx.nv⟩
    · simp only
      rw [denSt_putT]
      exact f1.fits.put o.dst hrs
    · exact St.Ok.putT (st := ⟨xs.st.tmps, objs⟩) ⟨hx.all.tmps, f1.ok⟩ o.dst (.d hk) f1.ok
  · simp [denR] at h
theorem equalIn_nil {P : Program} (w : World) (d : Nat) (t e : TypeId) (a : Option Addr) (l c n' c' : Nat) (h : P.underlying t = some (.slice e)) : (Op.equalIn (d + 1) t (.slice a l c) (.slice none n' c')).run P w = .ok a.isNone w := by
  cases a <;> simp [Op.equalIn, run_underlying h]
theorem equal_nil {P : Program} (w : World) (t e : TypeId) (a : Option Addr) (l c n' c' : Nat) (h : P.underlying t = some (.slice e)) : (Op.equal t (.slice a l c) (.slice none n' c')).run P w = .ok a.isNone w := equalIn_nil w 9999 t e a l c n' c' h
/-- a comparison with nil -/
theorem guess_step_ok {F : Option Nat → List RV → Prop} {Kd : Ags → List D → XExit → XS → Prop} {ags : Ags} {xs : XS} {o : Oper} {g gr : Option T} {ops : Array Oper} {t yt : TypeId} {x y : Operand} {neg : Bool}
    (ho : o.op = .binOp (if neg then .neq else .eql) t x y yt) (hf : Fits E σ m (denSt ρ xs.st) a w) (hx : XOk ρ xs) (hG : GOk ρ ops o a g gr) (h : denR E.P F Kd (sxGuess E.P xs g gr o t x y neg) ags ρ)
    (hp : denR E.P F Kd (sxPlain E.P xs g gr o) ags ρ → StepOk E ops o a w (Res E Kd ags a o.dst)) : StepOk E ops o a w (Res E Kd ags a o.dst) := by
  unfold sxGuess at h
  split at h
  rotate_left
  · exact hp h
  rename_i s hs
  split at h
  · simp [denR] at h
  rename_i hgr
  have hgn : gr = none := by cases gr with | none => rfl | some _ => simp at hgr
  have hwt := hG.nn hgn
  unfold nilCmp at hs
  split at hs <;> try contradiction
  rename_i hy
  split at hs <;> try contradiction
  rename_i e s0 ks hu hxs
  cases hs
  obtain ⟨r1, k1⟩ := opnd_ok hf hx.all (hG.known hwt) x
  rw [hxs] at r1 k1
  have hk := all_d k1
  obtain ⟨yn, yc, hye⟩ : ∃ n c, a.eval y = .slice none n c := by
    unfold isNilC at hy
    split at hy <;> try contradiction
    exact ⟨_, _, rfl⟩
  have hrep := r1.d_inv
  simp only [denL] at hrep
  have hsl : ∃ zs, den ρ s = .slice zs := by
    have := hk.1
    simp only at this
    generalize den ρ s = d at this
    cases d with
    | slice zs => exact ⟨zs, rfl⟩
    | _ => simp [HasK] at this
  obtain ⟨zs, hzs⟩ := hsl
  rw [hzs] at hrep
  -- what the comparison gives
  obtain ⟨b, hb, heq⟩ : ∃ b : Bool, (b = true → zs = []) ∧ (Op.equal t (a.eval x) (a.eval y)).run E.P w = .ok b w := by
    rw [hye]
    generalize a.eval x = v at hrep
    cases hrep with
    | empty ad c =>
      exact ⟨ad.isNone, fun _ => rfl, equal_nil w t _ ad 0 c _ _ hu⟩
    | slice xs b off arr t' fz e' c => exact ⟨false, by simp, equal_nil w t _ _ _ _ _ _ hu⟩
  simp only [denR] at h
  have hlen : b = true → den ρ (.o2 .eq (.o1 .len s) (.int .i64 0)) = .bool true := fun hbt => by
    rw [hb hbt] at hzs
    simp [den, hzs, O1.eval, O2.eval, D.eqb]
  have hh := h b hlen
  have hvar : (ρ ++ [D.bool b])[xs.nv]? = some (.bool b) := by rw [← hx.nv]; simp
  have kv : LOk (ρ ++ [D.bool b]) ⟨.var xs.nv, .bool⟩ := .var hvar (by simp [HasK])
  have hvd : den (ρ ++ [D.bool b]) (.var xs.nv) = .bool b := by simpa [denL] using denL_var (k := .bool) hvar
  intro a' K Q hw heq' hK
  rw [hw, hwt]
  simp only [if_true]
  have hnc : ∃ n c, (a.eval x = .slice none n c ∨ ∃ ad, a.eval x = .slice (some ad) n c) := by
    generalize a.eval x = v at hrep
    cases hrep with
    | empty ad c => cases ad with
      | none => exact ⟨_, _, .inl rfl⟩
      | some ad => exact ⟨_, _, .inr ⟨ad, rfl⟩⟩
    | slice xs b off arr t' fz e' c => exact ⟨_, _, .inr ⟨_, rfl⟩⟩
  have hrun : (execOp a.eval o).run E.P w = .ok (.value (.bool (if neg then !b else b))) w := by
    obtain ⟨n, c, hv | ⟨ad, hv⟩⟩ := hnc
    · rw [hv, hye] at heq
      cases neg <;> simp [execOp, ho, hv, hye, eqGuard, binOp, heq]
    · rw [hv, hye] at heq
      cases neg <;> simp [execOp, ho, hv, hye, eqGuard, binOp, heq]
  rw [← heq'] at hrun
  refine wpIn_upon hrun (by simp) ?_
  rw [Oper.uponIn_value]
  have hrs : RS σ m (ρ ++ [D.bool b]) (.d ⟨if neg then T.notB (.var xs.nv) else .var xs.nv, .bool⟩) (.bool (if neg then !b else b)) ∧ LOk (ρ ++ [D.bool b]) ⟨if neg then T.notB (.var xs.nv) else .var xs.nv, .bool⟩ := by
    cases neg with
    | false =>
      refine ⟨.d ?_, kv⟩
      simp only [Bool.false_eq_true, if_false, denL, hvd]
      exact .bool b
    | true =>
      refine ⟨.d ?_, kv.notB⟩
      have : den (ρ ++ [D.bool b]) (T.notB (.var xs.nv)) = .bool (!b) := by
        show O1.eval .not (den (ρ ++ [D.bool b]) (.var xs.nv)) = _
        rw [hvd]; rfl
      simp only [if_true, denL, this]
      exact .bool _
  refine hK _ _ ⟨ρ ++ [D.bool b], _, σ, m, hh, ?_, ?_, ?_⟩
  · simp only
    rw [denSt_putT]
    have : denSt (ρ ++ [D.bool b]) ⟨xs.st.tmps, xs.st.objs⟩ = denSt ρ xs.st := denSt_ext hx.all _
    rw [this]
    exact hf.put o.dst hrs.1
  · exact (hx.all.ext _).putT o.dst (.d hrs.2) (fun o ho => (hx.all.objs o ho).ext _)
  · simp [hx.nv]
theorem stepG_ok {F : Option Nat → List RV → Prop} {Kd : Ags → List D → XExit → XS → Prop} {ags : Ags} {md : Mode} {xs : XS} {o : Oper} {g gr : Option T} {ops : Array Oper}
    (hf : Fits E σ m (denSt ρ xs.st) a w) (hx : XOk ρ xs) (hG : GOk ρ ops o a g gr) (h : denR E.P F Kd (sxStepG E.P md g gr xs o) ags ρ) : StepOk E ops o a w (Res E Kd ags a o.dst) := by
  simp only [sxStepG] at h
  split at h
  · rename_i c ho
    split at h
    · rename_i fv hc
      refine call_ok ho hc hf hx hG ?_ h
      intro f pk upd vs hgr hvs hfv hR
      exact callX_ok ho hc hf hx (hG.nn hgr) (hG.known (hG.nn hgr)) hvs hfv hR
    · exact plain_step_ok hf hx hG h
  · rename_i f first captured ho
    exact makeFunc_step_ok ho hf hx hG h
  · rename_i ho
    exact guess_step_ok (neg := false) ho hf hx hG h fun h => plain_step_ok hf hx hG h
  · rename_i ho
    exact guess_step_ok (neg := true) ho hf hx hG h fun h => plain_step_ok hf hx hG h
  · exact plain_step_ok hf hx hG h
theorem dummy_ok {P : Program} {o : Oper} {c : T} (hc : LOk ρ ⟨c, .bool⟩) (hf : den ρ c = .bool false) : RS σ m ρ (dummyOf P o c) undef ∧ SV.Ok ρ (dummyOf P o c) := by
  have key : ∀ v : SV TK, SV.All (Stb ρ) v → RS σ m ρ (.grd ⟨c, .bool⟩ v) undef ∧ SV.Ok ρ (.grd ⟨c, .bool⟩ v) := fun v hv =>
    ⟨.grd (fun h => by simp [denL, hf] at h) (fun _ => rfl), .grd hc hv (fun h => by simp [hf] at h)⟩
  unfold dummyOf
  split <;> exact key _ (by first | exact .nil | exact .d (fun _ => rfl))
/-- one operation -/
theorem step_ok {F : Option Nat → List RV → Prop} {Kd : Ags → List D → XExit → XS → Prop} {ags : Ags} {md : Mode} {xs : XS} {o : Oper} {ops : Array Oper}
    (hf : Fits E σ m (denSt ρ xs.st) a w) (hx : XOk ρ xs) (h : denR E.P F Kd (sxStep E.P md ops.toList xs o) ags ρ) : StepOk E ops o a w (Res E Kd ags a o.dst) := by
  simp only [sxStep] at h
  split at h
  · simp [denR] at h
  rename_i g hg
  have hG := GOk.of hf hx.all hg
  split at h
  · exact stepG_ok hf hx hG h
  · rename_i c
    split at h
    · simp only [denR] at h
      obtain ⟨hL, hw⟩ := hG.ss c rfl
      cases hb : Region.wanted o (yielded ops a.tmps) with
      | true =>
        rw [hb] at hw
        exact stepG_ok (g := some c) (gr := none) hf hx ⟨fun _ => hb, by simp, fun _ c' hc' => by cases hc'; exact hw, by simp⟩ (h.1 hw)
      | false =>
        rw [hb] at hw
        intro a' K Q hw' heq hK
        rw [hw', hb]
        simp only [Bool.false_eq_true, if_false]
        obtain ⟨d1, d2⟩ := dummy_ok (σ := σ) (m := m) (P := E.P) (o := o) hL hw
        refine hK undef w ⟨ρ, _, σ, m, h.2 hw, ?_, ?_, hx.nv⟩
        · simp only [skipXS]
          rw [denSt_putT]
          exact hf.put o.dst d1
        · exact hx.all.putT o.dst d2 hx.all.objs
    · exact stepG_ok hf hx hG h
/-! ### what is handed on to a round of somebody else's -/
structure Good (E : Env) (ags : Ags) : Prop where
  yok : YOk E.P E.Y
  j : E.Y.on = true → E.Y.J ags.cnt E.own E.m0 E.w0
  exp : ags.exp = E.Y.exp
  sub : ∀ b, E.mine b → E.own b ∧ b < E.w0.heap.size
/-- what is said at an end -/
def Ends (E : Env) (Kd : Ags → List D → XExit → XS → Prop) (e : XExit) (a : Act) (w : World) : Prop :=
  ∃ B ags ρ xs σ m, E.To B ∧ Good (E.re B) ags ∧ Kd ags ρ e xs ∧ Fits (E.re B) σ m (denSt ρ xs.st) a w ∧ XOk ρ xs
theorem Env.re_self (E : Env) : E.re E.toBase = E := rfl
theorem Env.to_self (E : Env) : E.To E.toBase := ⟨fun _ => rfl, Nat.le_refl _, rfl, rfl, rfl, Nat.le_refl _, Mem.le_refl _, fun _ _ h => h, fun _ h => h, fun _ _ _ _ => ⟨rfl, rfl⟩⟩
theorem Ends.here {Kd : Ags → List D → XExit → XS → Prop} {e : XExit} {ags : Ags} {xs : XS} (hY : Good E ags) (hf : Fits E σ m (denSt ρ xs.st) a w) (hx : XOk ρ xs) (h : Kd ags ρ e xs) : Ends E Kd e a w :=
  ⟨E.toBase, ags, ρ, xs, σ, m, E.to_self, hY, h, hf, hx⟩
theorem Env.To.trans {B B' : Base} (h : E.To B) (h' : (E.re B).To B') : E.To B' where
  off := fun hy => by
    have h1 := h.off hy
    have h2 := h'.off hy
    rw [h2]; exact h1
  size := Nat.le_trans h.size h'.size
  os := h'.os.trans h.os
  tape := h'.tape.trans h.tape
  output := h'.output.trans h.output
  drawn := Nat.le_trans h.drawn h'.drawn
  le := Mem.le_trans h.le h'.le
  mine := fun b hb hm => h.mine b hb (h'.mine b (Nat.lt_of_lt_of_le hb h.size) hm)
  own := fun b ho => h'.own b (h.own b ho)
  keep := fun b hb ho hm => by
    obtain ⟨k1, k2⟩ := h.keep b hb ho hm
    obtain ⟨k3, k4⟩ := h'.keep b (Nat.lt_of_lt_of_le hb h.size) (h.own b ho) (fun hm' => hm (h.mine b hb hm'))
    exact ⟨k3.trans k1, k4.trans k2⟩
theorem Ends.re {Kd : Ags → List D → XExit → XS → Prop} {e : XExit} {B : Base} (hB : E.To B) (h : Ends (E.re B) Kd e a w) : Ends E Kd e a w := by
  obtain ⟨B', ags, ρ, xs, σ, m, h1, h2, h3⟩ := h
  exact ⟨B', ags, ρ, xs, σ, m, hB.trans h1, h2, h3⟩
/-- the iterator's blocks, by now -/
def ownBy (E : Env) (w : World) (b : Nat) : Prop := E.own b ∨ (E.w0.heap.size ≤ b ∧ b < w.heap.size)
def mineBy (E : Env) (w : World) (b : Nat) : Prop := E.mine b ∨ (E.w0.heap.size ≤ b ∧ b < w.heap.size)
theorem Good.J {ags : Ags} {st : St D} (h : Good E ags) (hon : E.Y.on = true) (hf : Fits E σ m st a w) : E.Y.J ags.cnt (ownBy E w) m w :=
  h.yok.step _ _ _ _ _ _ _ (h.j hon) (fun b hb hn => hf.keep b hb (fun hm => hn (h.sub b hm).1)) hf.grow hf.os hf.tape hf.output hf.drawn hf.le (fun b hb hn => hf.old b hb (fun hm => hn (h.sub b hm).1)) hf.mem (fun b => Iff.rfl)
theorem Fits.rebase {st : St D} (hf : Fits E σ m st a w) (hsub : ∀ b, E.mine b → E.own b ∧ b < E.w0.heap.size) {m' : Mem} {w' : World} (hmem : MemOk m' w') (hle : m.le m') (hk : ∀ k, ownBy E w k → k < w.heap.size → w'.heap[k]? = w.heap[k]? ∧ m' k = m k) :
    Fits (E.re ⟨w', m', mineBy E w, ownBy E w⟩) σ m' st a w' := by
  have own : ∀ b, b < w.heap.size → (E.w0.heap.size ≤ b ∨ E.mine b) → mineBy E w b := fun b hb h => h.elim (fun h => .inr ⟨h, hb⟩) .inl
  have own2 : ∀ b, mineBy E w b → ownBy E w b := fun b h => h.elim (fun h => .inl (hsub b h).1) .inr
  exact { sz := hf.sz
          tm := fun i s v a b => (hf.tm i s v a b).mono (Names.le_refl σ) hle
          dfr := by
            obtain ⟨Ds, h1, h2, h3⟩ := hf.dfr
            refine ⟨Ds, h1, h2, fun D hD => ?_⟩
            obtain ⟨g1, g2, g3⟩ := h3 D hD
            have hlt := (Array.getElem?_eq_some_iff.1 g1).1
            have ho := own D hlt g3
            obtain ⟨k1, k2⟩ := hk D (own2 D ho) hlt
            exact ⟨by rw [k1]; exact g1, by rw [k2]; exact g2, .inr ho⟩
          yld := hf.yld, sav := hf.sav, mem := hmem, le := Mem.le_refl _
          objs := fun o ov ho => ((hf.objs o ov ho).mono (Names.le_refl σ) hle).keep fun b ha hb => by
            have hlt := (hf.objs o ov ho).lt ha hb
            exact (hk b (own2 b (own b hlt (hf.sep o ov b ho ha hb).2)) hlt).1
          sep := fun o ov b ho ha hb => by
            have hlt := (hf.objs o ov ho).lt ha hb
            have hs := hf.sep o ov b ho ha hb
            have ho' := own b hlt hs.2
            exact ⟨by rw [(hk b (own2 b ho') hlt).2]; exact hs.1, .inr ho'⟩
          inj := hf.inj, dom := hf.dom, grow := Nat.le_refl _, keep := fun _ _ _ => rfl, old := fun _ _ _ => rfl, os := rfl, tape := rfl, output := rfl, drawn := Nat.le_refl _ }
/-- behind a round of the caller's -/
theorem Good.behind {ags : Ags} {st : St D} (h : Good E ags) (hf : Fits E σ m st a w) (hon : E.Y.on = true) {m' : Mem} {w' : World} {c : Option Nat} (hJ : E.Y.J c (ownBy E w) m' w') (hle : m.le m') (hs : w.heap.size ≤ w'.heap.size) (hos : w'.os = w.os) (htape : w'.tape = w.tape) (hout : w'.output = w.output) (hdr : w.drawn ≤ w'.drawn)
    (hk : ∀ k, ownBy E w k → k < w.heap.size → w'.heap[k]? = w.heap[k]? ∧ m' k = m k) : E.To ⟨w', m', mineBy E w, ownBy E w⟩ ∧ Good (E.re ⟨w', m', mineBy E w, ownBy E w⟩) (ags.wc c) := by
  refine ⟨⟨fun hoff => (by rw [hon] at hoff; cases hoff), Nat.le_trans hf.grow hs, hos.trans hf.os, htape.trans hf.tape, hout.trans hf.output, Nat.le_trans hf.drawn hdr, Mem.le_trans hf.le hle, fun b hb hm => ?_, fun b ho => .inl ho, fun b hb ho hm => ?_⟩, h.yok, fun _ => hJ, h.exp, fun b hm => ?_⟩
  · exact hm.resolve_right (fun h => by omega)
  · have hlt := Nat.lt_of_lt_of_le hb hf.grow
    obtain ⟨k1, k2⟩ := hk b (.inl ho) hlt
    exact ⟨k1.trans (hf.keep b hb hm), k2.trans (hf.old b hb hm)⟩
  · rcases hm with hm | hm
    · obtain ⟨g1, g2⟩ := h.sub b hm
      exact ⟨.inl g1, Nat.lt_of_lt_of_le g2 (Nat.le_trans hf.grow hs)⟩
    · exact ⟨.inr hm, Nat.lt_of_lt_of_le hm.2 hs⟩
theorem yieldAt_in {P : Program} {r : Option Nat} {l : Nat} {vs : Array Value} {W : World} {R : Ending → World → Prop} (h : YieldAt Fence.wide 0 P l vs W R) : YieldAt (fen r) 0 P l vs W R := by
  cases r with
  | none => exact h
  | some l => exact h
theorem yield_ok {F : Option Nat → List RV → Prop} {Kd : Ags → List D → XExit → XS → Prop} {ags : Ags} {xs : XS} {o : Oper} {r : R} {ops : Array Oper} (hon : E.Y.on = false → E.Y.exp = []) (hY : Good E ags)
    (hf : Fits E σ m (denSt ρ xs.st) a w) (hx : XOk ρ xs) (hr : yieldR xs o = some r) (h : denR E.P F Kd r ags ρ) {K : Act → World → Prop} {Q : Exit → Act → World → Prop}
    (hK : ∀ B ags' ρ' xs' σ' m' a' w', E.To B → Good (E.re B) ags' → Kd ags' ρ' .norm xs' → Fits (E.re B) σ' m' (denSt ρ' xs'.st) a' w' → XOk ρ' xs' → K a' w') :
    Region.wanted o (yielded ops a.tmps) = true ∧ o.wpIn (fen E.r) 0 E.P a w K Q := by
  simp only [yieldR] at hr
  split at hr <;> try contradiction
  rename_i c ho
  split at hr <;> try contradiction
  rename_i fv hc
  simp only [sxYield] at hr
  split at hr <;> try contradiction
  rename_i q hgd hq
  split at hr <;> try contradiction
  rename_i hob
  split at hr <;> try contradiction
  rename_i ts objs hfr
  cases hr
  refine ⟨by simp [Region.wanted, hgd], ?_⟩
  simp only [denR] at h
  obtain ⟨n, hcnt, hexp, hb⟩ := h
  have lk0 : ∀ x, thaw xs.st.objs (look xs.st x) = thaw xs.st.objs (unguard none (look xs.st x)) := fun x => rfl
  have hfvv := opnd_ok hf hx.all (g := none) (by simp) fv
  rw [← lk0, hq] at hfvv
  have hval : a.eval fv = .func (.yield E.Y.l) #[] #[] := by
    have h1 := hfvv.1
    simp only [RS, SV.map] at h1
    generalize hev : a.eval fv = ev at h1
    cases h1 with
    | own hσ =>
    have := hf.yld q (by simp [denSt, St.map, hob, OV.map])
    rw [hσ] at this
    cases this; rfl
  obtain ⟨m1, f1, l1, k1, r1⟩ := args_ok (args := c.args.toList) (gr := none) (sc := true) hf hx.all (g := none) (by simp) hfr
  have hon' : E.Y.on = true := by
    cases hoff : E.Y.on with
    | true => rfl
    | false =>
      have := hon hoff
      rw [hY.exp, this] at hexp
      simp at hexp
  have hJ := hY.J hon' f1.fits
  rw [hcnt] at hJ
  have hyat := hY.yok.yield n (ts.map (denL ρ)) _ _ _ (c.args.map a.eval) hJ f1.fits.mem (by rw [← hY.exp, hexp, List.map_map]; rfl) (by simp at l1; simp [l1]) (by
    intro i d v hd hv
    simp only [List.getElem?_map, Option.map_eq_some_iff] at hd
    obtain ⟨x, hx', rfl⟩ := hd
    exact r1 i x v hx' (by simpa using hv))
  obtain ⟨fn, tmps, assign, body, hrun, hround⟩ := yieldAt_in (r := E.r) hyat
  have hexec : (execOp a.eval o).run E.P w = .ok (.round E.Y.l fn tmps assign body) w := by
    simp [execOp, ho, resolve, hc, hval, Deferred.ofValue, invoke, hrun]
  refine wpIn_upon hexec (by simp) ?_
  rw [Oper.uponIn_round]
  refine ⟨by simp [fen, Fence.wide], RoundIn.mono hround ?_⟩
  rintro e W' ⟨b, m', rfl, hJ', hmem', hle', hkeep', hgrow', hos', htape', hout', hdr'⟩
  simp only
  have hf2 := f1.fits.rebase hY.sub hmem' hle' hkeep'
  obtain ⟨hTo, hGood⟩ := hY.behind f1.fits hon' hJ' hle' hgrow' hos' htape' hout' hdr' hkeep'
  have hok2 : St.Ok ρ ⟨xs.st.tmps, objs⟩ := ⟨hx.all.tmps, f1.ok⟩
  have hf3 : Fits (E.re ⟨W', m', mineBy E w, ownBy E w⟩) σ m' (denSt (ρ ++ [.bool b]) ⟨xs.st.tmps, objs⟩) a W' := by rw [denSt_ext hok2]; exact hf2
  have hvar : (ρ ++ [D.bool b])[xs.nv]? = some (.bool b) := by rw [← hx.nv]; simp
  have hrs : RS σ m' (ρ ++ [.bool b]) (.d ⟨.var xs.nv, .bool⟩) (.bool b) := .d (by rw [denL_var hvar]; exact .bool b)
  refine hK ⟨W', m', mineBy E w, ownBy E w⟩ (ags.wc (if b = true then some (n + 1) else none)) _ _ σ m' _ _ hTo hGood (hb b) ?_ ⟨?_, ?_⟩
  · simp only
    rw [denSt_putT]
    exact hf3.put o.dst hrs
  · exact St.Ok.putT (st := ⟨xs.st.tmps, objs⟩) ⟨fun v hv => (hx.all.tmps v hv).ext _, fun ob ho => (f1.ok ob ho).ext _⟩ o.dst (.d (.var hvar (.mk_bool b))) (fun ob ho => (f1.ok ob ho).ext _)
  · simp [hx.nv]
/-- operations one behind the other -/
theorem ops_ok {F : Option Nat → List RV → Prop} {Kd : Ags → List D → XExit → XS → Prop} {md : Mode} {ops : Array Oper} {Q : Exit → Act → World → Prop} :
    ∀ (l : List Nat) {E : Env} {ags : Ags} {xs : XS} {ρ : List D} {σ : Names} {m : Mem} {a : Act} {w : World}, (E.Y.on = false → E.Y.exp = []) → (∀ a w, Ends E Kd .norm a w → Q .normal a w) → Good E ags → Fits E σ m (denSt ρ xs.st) a w → XOk ρ xs →
      denR E.P F Kd (sxOps E.P md ops.toList l xs) ags ρ → wpOpsIn (fen E.r) 0 E.P ops Q l a w
  | [], E, ags, xs, ρ, σ, m, a, w, hon, hQ, hY, hf, hx, h => hQ a w (.here hY hf hx h)
  | i :: l, E, ags, xs, ρ, σ, m, a, w, hon, hQ, hY, hf, hx, h => by
    simp only [sxOps] at h
    rw [wpOpsIn_cons]
    unfold wpOpIn
    have hop : ops.toList[i]? = ops[i]? := by simp
    rw [hop] at h
    cases ho : ops[i]? with
    | none =>
      simp only [ho] at h
      exact ops_ok l hon hQ hY hf hx h
    | some o =>
      simp only [ho] at h
      rw [denR_bind] at h
      simp only
      cases hy : yieldR xs o with
      | some r =>
        rw [hy, Option.getD_some] at h
        have := yield_ok (ops := ops) hon hY hf hx hy h (K := wpOpsIn (fen E.r) 0 E.P ops Q l) (Q := Q) (fun B ags' ρ' xs' σ' m' a' w' hB h1 h2 h3 h4 => by
          exact ops_ok l (E := E.re B) hon (fun a w he => hQ a w (he.re hB)) h1 h3 h4 h2)
        rw [if_pos this.1]
        exact this.2
      | none =>
        rw [hy, Option.getD_none] at h
        have hs := step_ok hf hx h a (wpOpsIn (fen E.r) 0 E.P ops Q l) Q rfl rfl (fun v w' ⟨ρ', xs', σ', m', h1, h2, h3⟩ => ops_ok l hon hQ hY h2 h3 h1)
        split
        · rename_i hw; rw [if_pos hw] at hs; exact hs
        · rename_i hw; rw [if_neg hw] at hs; exact ⟨fun _ _ => trivial, hs⟩
end
end Go.Sx
namespace Go.Sx
open Go Go.RowKit
theorem mem_nub : ∀ {l : List Nat} {x : Nat}, x ∈ nub l ↔ x ∈ l
  | [], _ => by simp [nub]
  | y :: l, x => by
    simp only [nub]
    split
    · rename_i h
      have h' : y ∈ nub l := by simpa using h
      rw [mem_nub]
      rw [mem_nub] at h'
      constructor
      · intro hx; exact List.mem_cons_of_mem _ hx
      · intro hx
        rcases List.mem_cons.1 hx with rfl | hx
        · exact h'
        · exact hx
    · simp only [List.mem_cons, mem_nub]
theorem mem_deps {ops : Array Oper} {i k : Nat} : k ∈ deps ops.toList i ↔ ∃ o, ops[i]? = some o ∧ ∃ e ∈ o.after, Region.binds .any e = true ∧ e.on = k := by
  unfold deps
  cases h : ops[i]? with
  | none => simp [h]
  | some o => simp [h, List.mem_filter, and_assoc]
/-- what must have come before is listed, where what is listed is closed -/
theorem ancs_listed {ops : Array Oper} {p : Nat → Prop} (hcl : ∀ j, p j → ∀ k ∈ deps ops.toList j, p k) : ∀ (n : Nat) {l : List Nat}, (∀ j ∈ l, p j) → ∀ j ∈ ancs ops.toList n l, p j
  | 0, l, h => h
  | n + 1, [], h => by simp [ancs]
  | n + 1, x :: l, h => by
    intro j hj
    simp only [ancs] at hj
    rcases List.mem_append.1 hj with hj | hj
    · exact h j hj
    · refine ancs_listed hcl n (fun k hk => ?_) j hj
      rw [mem_nub, List.mem_flatMap] at hk
      obtain ⟨y, hy, hk⟩ := hk
      exact hcl y (h y hy) k hk
section
variable {E : Env}
/-- how a region that draws stands in the midst of its operations -/
structure DInv (E : Env) (F : Option Nat → List RV → Prop) (Kd : Ags → List D → XExit → XS → Prop) (ags : Ags) (md : Mode) (ops : Array Oper) (rest pre forced : List Nat) (xs : XS) (ρ : List D) (σ : Names) (m : Mem)
    (listed : Array Bool) (a b : Act) (w : World) : Prop where
  fits : Fits E σ m (denSt ρ xs.st) b w
  xok : XOk ρ xs
  says : denR E.P F Kd (sxDraw E.P md ops.toList rest pre forced xs) ags ρ
  size : listed.size = ops.size
  sub : ∀ j, listed.getD j false = true → j ∈ pre
  fin : ∀ j ∈ pre, j < ops.size
  forced : ∀ j ∈ forced, listed.getD j false = true
  closed : ∀ j, listed.getD j false = true → ∀ k ∈ deps ops.toList j, listed.getD k false = true
  topo : ∀ p1 j p2, pre = p1 ++ j :: p2 → ∀ k ∈ deps ops.toList j, k ∈ p2
  tsize : a.tmps.size = b.tmps.size
  agree : ∀ t, (∀ j ∈ pre, listed.getD j false = false → (ops[j]?).bind (·.dst) ≠ some t) → a.tmps[t]? = b.tmps[t]?
  adfr : a.defers = b.defers
theorem Act.put_tmps (a : Act) (dst : Option Tmp) (v : Value) : (a.put dst v).tmps = match dst with | some d => a.tmps.setIfInBounds d v | none => a.tmps := by
  cases dst <;> rfl
theorem Act.put_dfr (a : Act) (dst : Option Tmp) (v : Value) : (a.put dst v).defers = a.defers := by
  cases dst <;> rfl
theorem put_agree {a b : Act} {dst : Option Tmp} {v : Value} {t : Nat} (hs : a.tmps.size = b.tmps.size) (h : dst ≠ some t → a.tmps[t]? = b.tmps[t]?) : (a.put dst v).tmps[t]? = (b.put dst v).tmps[t]? := by
  cases dst with
  | none => exact h (by simp)
  | some d =>
    simp only [Act.put, Array.getElem?_setIfInBounds, hs]
    by_cases hd : d = t
    · simp [hd]
    · simp only [if_neg hd]; exact h (by simp [hd])
/-- what an operation looks at is the same in both frames -/
theorem same_eval {ops : Array Oper} {o : Oper} {a b : Act} (hsel : ∀ cs bl, o.op ≠ .select cs bl) (h : ∀ t ∈ Oper.looksAt ops o, a.tmps[t]? = b.tmps[t]?) :
    execOp a.eval o = execOp b.eval o ∧ Region.wanted o (yielded ops a.tmps) = Region.wanted o (yielded ops b.tmps) := by
  constructor
  · refine execOp_congr o hsel fun x hx => ?_
    cases x with
    | tmp t =>
      have := h t (by
        unfold Oper.looksAt
        refine List.mem_append_left _ (List.mem_filterMap.2 ⟨.tmp t, by simpa using hx, rfl⟩))
      simp only [Act.eval, Array.getD_eq_getD_getElem?, this]
    | _ => rfl
  · unfold Region.wanted
    cases hg : o.guard with
    | none => rfl
    | some p =>
      obtain ⟨j, want⟩ := p
      simp only
      have : yielded ops a.tmps j = yielded ops b.tmps j := by
        unfold yielded
        cases hd : (ops[j]?).bind (·.dst) with
        | none => rfl
        | some d =>
          have := h d (by
            unfold Oper.looksAt
            refine List.mem_append_right _ ?_
            simp [hg, hd])
          simp only [Option.bind_some, this]
      rw [this]
theorem not_select_of_acting {o : Oper} (h : isActing o = true) : ∀ cs b, o.op ≠ .select cs b := by
  intro cs b ho
  simp [isActing, ho] at h
/-- the frame of the eager order goes on over plain operations -/
theorem DInv.advance {F : Option Nat → List RV → Prop} {Kd : Ags → List D → XExit → XS → Prop} {ags : Ags} {md : Mode} {ops : Array Oper} {forced : List Nat} {ρ : List D} {σ : Names} {m : Mem} {listed : Array Bool} {a : Act} {w : World} :
    ∀ {rest pre : List Nat} {xs : XS} {b : Act}, DInv E F Kd ags md ops rest pre forced xs ρ σ m listed a b w →
      ∃ rest' pre' xs' b', DInv E F Kd ags md ops rest' pre' forced xs' ρ σ m listed a b' w ∧ (rest' = [] ∨ ∃ k l o, rest' = k :: l ∧ ops[k]? = some o ∧ isActing o = true)
  | [], pre, xs, b, h => ⟨[], pre, xs, b, h, .inl rfl⟩
  | i :: is, pre, xs, b, h => by
    have hs := h.says
    simp only [sxDraw] at hs
    split at hs
    · simp [denR] at hs
    rename_i o ho
    have ho : ops[i]? = some o := by simpa using ho
    split at hs
    · simp [denR] at hs
    rename_i hc
    simp only [Bool.or_eq_true, not_or, Bool.not_eq_true', Bool.not_eq_false, Bool.not_eq_true] at hc
    obtain ⟨hnot, hrd⟩ := hc
    have hnot : i ∉ pre := by simpa using hnot
    by_cases hact : isActing o = true
    · exact ⟨i :: is, pre, xs, b, h, .inr ⟨i, is, o, rfl, ho, hact⟩⟩
    · rw [if_neg hact] at hs
      split at hs
      · rename_i hp
        rw [denR_bind] at hs
        -- the step itself
        simp only [isPure, Bool.and_eq_true] at hp
        obtain ⟨_, hp⟩ := hp
        split at hp <;> try contradiction
        rename_i g hg
        split at hp <;> try contradiction
        rename_i s hsx
        have hno : s.objs = none := by simpa using hp
        rw [hg] at hs
        simp only at hs
        have hG := GOk.of h.fits h.xok.all hg
        have key : ∃ v b' xs', b' = b.put o.dst v ∧ Fits E σ m (denSt ρ xs'.st) b' w ∧ XOk ρ xs' ∧ denR E.P F Kd (sxDraw E.P md ops.toList is (i :: pre) forced xs') ags ρ := by
          simp only [sxPlain, hsx] at hs
          cases g with
          | none =>
            simp only [hno, Option.getD_none] at hs
            rw [denR_needs, denR_facts] at hs
            obtain ⟨hn, hc⟩ := hs
            obtain ⟨v, w', σ', m', hpo, hsame⟩ := (pure_ok (ops := ops) h.fits h.xok.all hG hsx (by simp)).1 rfl hn
            obtain ⟨rfl, rfl, rfl⟩ := hsame hno
            have hf := hpo.fits
            have ha := hpo.all
            simp only [hno, Option.getD_none] at hf ha
            exact ⟨v, _, { xs with st := { tmps := putT xs.st.tmps o.dst s.v, objs := xs.st.objs } }, rfl, hf, ⟨ha, h.xok.nv⟩, hc hpo.facts⟩
          | some c =>
            simp only at hs
            split at hs
            · simp [denR] at hs
            rename_i hcond
            simp only [Bool.or_eq_true, Bool.not_eq_true', not_or, Bool.not_eq_true, Bool.not_eq_false] at hcond
            rw [denR_needs, denR_facts] at hs
            obtain ⟨hn, hc⟩ := hs
            obtain ⟨v, hpo⟩ := (pure_ok (ops := ops) h.fits h.xok.all hG hsx (fun _ => by rw [h.xok.nv]; exact hcond.2)).2 c rfl hno hn
            exact ⟨v, _, { xs with st := { tmps := putT xs.st.tmps o.dst (.grd ⟨c, .bool⟩ s.v), objs := xs.st.objs } }, rfl, hpo.fits, ⟨hpo.all, h.xok.nv⟩, hc hpo.facts⟩
        obtain ⟨v, b', xs', rfl, k1, k2, k3⟩ := key
        have hnl : listed.getD i false = false := by
          cases hl : listed.getD i false with
          | false => rfl
          | true => exact absurd (h.sub i hl) hnot
        refine DInv.advance (rest := is) (pre := i :: pre) (xs := xs') (b := b.put o.dst v) ⟨k1, k2, k3, h.size, fun j hj => List.mem_cons_of_mem _ (h.sub j hj), ?_, h.forced, h.closed, ?_, ?_, ?_, by rw [Act.put_dfr]; exact h.adfr⟩
        · intro j hj
          rcases List.mem_cons.1 hj with rfl | hj
          · exact (Array.getElem?_eq_some_iff.1 ho).1
          · exact h.fin j hj
        · intro p1 j p2 he k hk
          cases p1 with
          | nil =>
            simp only [List.nil_append, List.cons.injEq] at he
            obtain ⟨rfl, rfl⟩ := he
            have := List.all_eq_true.1 hrd k hk
            simpa using this
          | cons x p1 =>
            simp only [List.cons_append, List.cons.injEq] at he
            exact h.topo p1 j p2 he.2 k hk
        · rw [Act.put_tmps]; split <;> simp [h.tsize]
        · intro t ht
          rw [h.agree t fun j hj hl => ht j (List.mem_cons_of_mem _ hj) hl]
          have hne : o.dst ≠ some t := by
            have := ht i List.mem_cons_self hnl
            rw [ho] at this
            exact this
          rw [Act.put_tmps]
          split
          · rename_i d hd
            rw [hd] at hne
            rw [Array.getElem?_setIfInBounds_ne (by intro e; exact hne (by rw [e]))]
          · rfl
      · simp [denR] at hs
end
end Go.Sx
namespace Go.Sx
open Go Go.RowKit
theorem ready_iff {ops : Array Oper} {listed : Array Bool} {j : Nat} : j ∈ Region.ready .any ops listed ↔ listed.getD j true = false ∧ j < ops.size ∧ ∀ k ∈ deps ops.toList j, listed.getD k false = true := by
  rw [mem_ready]
  constructor
  · rintro ⟨h1, o, ho, h2⟩
    refine ⟨h1, (Array.getElem?_eq_some_iff.1 ho).1, fun k hk => ?_⟩
    obtain ⟨o', ho', e, he, hb, rfl⟩ := mem_deps.1 hk
    rw [ho] at ho'; cases ho'
    exact h2 e he hb
  · rintro ⟨h1, hlt, h2⟩
    exact ⟨h1, ops[j], by simp [hlt], fun e he hb => h2 _ (mem_deps.2 ⟨ops[j], by simp [hlt], e, he, hb, rfl⟩)⟩
/-- the first of these that is not listed could come now -/
theorem first_free {ops : List Oper} {p : Nat → Prop} [DecidablePred p] : ∀ {pre : List Nat}, (∀ p1 j p2, pre = p1 ++ j :: p2 → ∀ k ∈ deps ops j, k ∈ p2) → (∃ j ∈ pre, ¬ p j) → ∃ j ∈ pre, ¬ p j ∧ ∀ k ∈ deps ops j, p k
  | [], _, h => by simp at h
  | x :: pre, ht, h => by
    by_cases hr : ∃ j ∈ pre, ¬ p j
    · obtain ⟨j, hj, h1, h2⟩ := first_free (p := p) (pre := pre) (fun p1 j p2 he => ht (x :: p1) j p2 (by rw [he]; rfl)) hr
      exact ⟨j, List.mem_cons_of_mem _ hj, h1, h2⟩
    · obtain ⟨j, hj, hnp⟩ := h
      have hall : ∀ j ∈ pre, p j := fun j hj => Decidable.byContradiction fun hn => hr ⟨j, hj, hn⟩
      rcases List.mem_cons.1 hj with rfl | hj
      · exact ⟨j, List.mem_cons_self, hnp, fun k hk => hall k (ht [] j pre rfl k hk)⟩
      · exact absurd (hall j hj) hnp
section
variable {E : Env} {F : Option Nat → List RV → Prop} {Kd : Ags → List D → XExit → XS → Prop} {ags : Ags} {md : Mode} {ops : Array Oper}
def Normal (ops : Array Oper) (rest : List Nat) : Prop := rest = [] ∨ ∃ k l o, rest = k :: l ∧ ops[k]? = some o ∧ isActing o = true
/-- everything is listed: the region has come to its end -/
theorem DInv.done {rest pre forced : List Nat} {xs : XS} {ρ : List D} {σ : Names} {m : Mem} {listed : Array Bool} {a b : Act} {w : World}
    (h : DInv E F Kd ags md ops rest pre forced xs ρ σ m listed a b w) (hn : Normal ops rest) (hall : ∀ j, j < ops.size → listed.getD j false = true) (hY : Good E ags) : Ends E Kd .norm a w := by
  have hs := h.says
  have hab : a = b := by
    have ht : a.tmps = b.tmps := by
      apply Array.ext_getElem?
      intro t
      exact h.agree t fun j hj hl => by rw [hall j (h.fin j hj)] at hl; cases hl
    cases a; cases b
    have h1 := h.adfr
    simp only at ht h1
    rw [ht, h1]
  rcases hn with rfl | ⟨k, l, o, rfl, ho, _⟩
  · simp only [sxDraw] at hs
    split at hs
    · split at hs
      · rw [denR_needs] at hs
        subst hab
        exact .here hY h.fits h.xok hs.2
      · simp [denR] at hs
    · simp [denR] at hs
  · exfalso
    have hk : k ∈ pre := h.sub k (hall k (Array.getElem?_eq_some_iff.1 ho).1)
    simp only [sxDraw] at hs
    have ho' : ops.toList[k]? = some o := by simpa using ho
    rw [ho'] at hs
    simp only at hs
    rw [if_pos (by simp [hk])] at hs
    simp [denR] at hs
theorem DInv.none_ready {rest pre forced : List Nat} {xs : XS} {ρ : List D} {σ : Names} {m : Mem} {listed : Array Bool} {a b : Act} {w : World}
    (h : DInv E F Kd ags md ops rest pre forced xs ρ σ m listed a b w) (hn : Normal ops rest) (hr : Region.ready .any ops listed = []) : ∀ j, j < ops.size → listed.getD j false = true := by
  have hs := h.says
  have hpre : ∀ j ∈ pre, listed.getD j false = true := by
    intro j hj
    refine Decidable.byContradiction fun hnp => ?_
    obtain ⟨i, hi, h1, h2⟩ := first_free (p := fun j => listed.getD j false = true) h.topo ⟨j, hj, hnp⟩
    have : i ∈ Region.ready .any ops listed := ready_iff.2 ⟨getD_in (by rw [h.size]; exact h.fin i hi) (by simpa using h1), h.fin i hi, h2⟩
    rw [hr] at this; cases this
  rcases hn with rfl | ⟨k, l, o, rfl, ho, _⟩
  · simp only [sxDraw] at hs
    split at hs
    · rename_i hc
      intro j hj
      have := List.all_eq_true.1 hc j (List.mem_range.2 (by simpa using hj))
      exact hpre j (by simpa using this)
    · simp [denR] at hs
  · exfalso
    simp only [sxDraw] at hs
    have ho' : ops.toList[k]? = some o := by simpa using ho
    rw [ho'] at hs
    simp only at hs
    split at hs
    · simp [denR] at hs
    rename_i hc
    simp only [Bool.or_eq_true, not_or, Bool.not_eq_true', Bool.not_eq_false, Bool.not_eq_true] at hc
    have hnot : k ∉ pre := by simpa using hc.1
    have hlt := (Array.getElem?_eq_some_iff.1 ho).1
    have : k ∈ Region.ready .any ops listed := ready_iff.2 ⟨getD_in (by rw [h.size]; exact hlt) (by
      cases hl : listed.getD k false with
      | false => rfl
      | true => exact absurd (h.sub k hl) hnot), hlt, fun q hq => hpre q (by
        have := List.all_eq_true.1 hc.2 q hq
        simpa using this)⟩
    rw [hr] at this; cases this
theorem rechecks_mem {P : Program} {ops : List Oper} {pre : List Nat} {xs : XS} {forced : List Nat} : ∀ {l : List Nat} {ns : List T}, rechecks P ops pre xs forced l = some ns → ∀ j ∈ l, j ∉ forced →
    ∃ ms, recheck P ops pre xs j = some ms ∧ ∀ t ∈ ms, t ∈ ns
  | [], _, _, j, hj, _ => by cases hj
  | x :: l, ns, h, j, hj, hnf => by
    simp only [rechecks] at h
    split at h
    · rename_i hx
      rcases List.mem_cons.1 hj with rfl | hj
      · exact absurd (by simpa using hx) hnf
      · exact rechecks_mem h j hj hnf
    · split at h <;> try contradiction
      rename_i p q hp hq
      cases h
      rcases List.mem_cons.1 hj with rfl | hj
      · exact ⟨p, hp, fun t ht => List.mem_append_left _ ht⟩
      · obtain ⟨ms, h1, h2⟩ := rechecks_mem hq j hj hnf
        exact ⟨ms, h1, fun t ht => List.mem_append_right _ (h2 t ht)⟩
/-- what it reads is the same in both frames -/
theorem DInv.reads {rest pre forced : List Nat} {xs : XS} {ρ : List D} {σ : Names} {m : Mem} {listed : Array Bool} {a b : Act} {w : World}
    (h : DInv E F Kd ags md ops rest pre forced xs ρ σ m listed a b w) {i : Nat} {o : Oper} (hr : ∀ k ∈ deps ops.toList i, listed.getD k false = true) (hok : readsOk ops.toList pre i o = true) :
    ∀ t ∈ Oper.looksAt ops o, a.tmps[t]? = b.tmps[t]? := by
  intro t ht
  refine h.agree t fun j hj hl hd => ?_
  have := List.all_eq_true.1 hok j hj
  simp only [Bool.or_eq_true] at this
  rcases this with hin | hin
  · have hanc := ancs_listed (ops := ops) (p := fun j => listed.getD j false = true) h.closed ops.toList.length hr j (by simpa using hin)
    rw [hl] at hanc; cases hanc
  · have hd' : (ops.toList[j]?).bind (·.dst) = some t := by simpa using hd
    rw [hd'] at hin
    simp only [Array.toArray_toList] at hin
    simp [ht] at hin
theorem count_set {listed : Array Bool} {i : Nat} (hi : i < listed.size) (hl : listed.getD i false = false) : (listed.setIfInBounds i true).toList.count true = listed.toList.count true + 1 := by
  rw [Array.toList_setIfInBounds, List.count_set (by simpa using hi)]
  have : listed.toList[i]'(by simpa using hi) = false := by simpa [hi] using hl
  rw [this]; simp
theorem draw_ok {Q : Exit → Act → World → Prop} (hY : Good E ags) (hQ : ∀ a w, Ends E Kd .norm a w → Q .normal a w) : ∀ (fuel : Nat) {rest pre forced : List Nat} {xs : XS} {ρ : List D} {σ : Names} {m : Mem} {listed : Array Bool} {a b : Act} {w : World},
    DInv E F Kd ags md ops rest pre forced xs ρ σ m listed a b w → Normal ops rest → fuel + listed.toList.count true = ops.size → wpAnyIn (fen E.r) 0 E.P .any ops Q fuel listed a w
  | 0, rest, pre, forced, xs, ρ, σ, m, listed, a, b, w, h, hn, hc => by
    have hall : ∀ j, j < ops.size → listed.getD j false = true := by
      intro j hj
      have h1 : listed.toList.count true = listed.toList.length := by simp at hc ⊢; rw [h.size]; omega
      have h2 := List.count_eq_length.1 h1
      have hjs : j < listed.size := by rw [h.size]; exact hj
      have h3 := h2 listed[j] (by simp)
      simp [hjs, ← h3]
    refine ⟨?_, hQ a w (h.done hn hall hY)⟩
    cases hr : Region.ready .any ops listed with
    | nil => rfl
    | cons x l =>
      have hx : x ∈ Region.ready .any ops listed := by rw [hr]; exact List.mem_cons_self
      obtain ⟨h1, h2, _⟩ := ready_iff.1 hx
      have := hall x h2
      rw [getD_both h1] at this; cases this
  | fuel + 1, rest, pre, forced, xs, ρ, σ, m, listed, a, b, w, h, hn, hc => by
    refine ⟨fun hr => hQ a w (h.done hn (h.none_ready hn hr) hY), fun i hi => ?_⟩
    obtain ⟨h1, hlt, hdep⟩ := ready_iff.1 hi
    have hl : listed.getD i false = false := getD_both h1
    have his : i < listed.size := by rw [h.size]; exact hlt
    have ho : ops[i]? = some ops[i] := by simp [hlt]
    have ho' : ops.toList[i]? = some ops[i] := by simp [hlt]
    have hcount : fuel + (listed.setIfInBounds i true).toList.count true = ops.size := by rw [count_set his hl]; omega
    have hset : ∀ j, (listed.setIfInBounds i true).getD j false = true ↔ j = i ∨ listed.getD j false = true := by
      intro j
      by_cases hj : i = j
      · subst hj; simp [Array.getElem?_setIfInBounds, his]
      · rw [getD_set_ne false hj]; constructor
        · exact .inr
        · rintro (rfl | h) <;> first | exact absurd rfl hj | exact h
    have hclosed : ∀ j, (listed.setIfInBounds i true).getD j false = true → ∀ k ∈ deps ops.toList j, (listed.setIfInBounds i true).getD k false = true := by
      intro j hj k hk
      rw [hset] at hj ⊢
      rcases hj with rfl | hj
      · exact .inr (hdep k hk)
      · exact .inr (h.closed j hj k hk)
    have hsz : (listed.setIfInBounds i true).size = ops.size := by simp [h.size]
    have hdsub : ∀ k ∈ deps ops.toList i, k ∈ pre := fun k hk => h.sub k (hdep k hk)
    -- a plain operation of those that the eager order has done
    have plain : i ∈ pre → (∃ ns, rechecks E.P ops.toList pre xs forced pre = some ns ∧ ∀ t ∈ ns, den ρ t = .bool true) → wpOpIn (fen E.r) 0 E.P ops Q i (wpAnyIn (fen E.r) 0 E.P .any ops Q fuel (listed.setIfInBounds i true)) a w := by
      rintro hip ⟨ns, hns, hnt⟩
      have hnf : i ∉ forced := fun hf => by rw [h.forced i hf] at hl; cases hl
      obtain ⟨ms, hm, hms⟩ := rechecks_mem hns i hip hnf
      simp only [recheck, ho'] at hm
      split at hm
      · cases hm
      rename_i hc1
      simp only [Bool.or_eq_true, Bool.not_eq_true', not_or, Bool.not_eq_true, Bool.not_eq_false] at hc1
      obtain ⟨hreads, hact⟩ := hc1
      split at hm <;> try contradiction
      rename_i g hg
      split at hm <;> try contradiction
      rename_i s hsx
      split at hm <;> try contradiction
      rename_i hobj
      have hno : s.objs = none := by cases hso : s.objs with | none => rfl | some _ => simp [hso] at hobj
      have hsel : ∀ cs bl, ops[i].op ≠ .select cs bl := by
        intro cs bl he
        simp [sxOp, he] at hsx
      obtain ⟨heq, hwq⟩ := same_eval hsel (h.reads hdep hreads)
      have samev : ∀ {sv : SV TK}, sameDst xs ops[i] sv = true → putT xs.st.tmps ops[i].dst sv = xs.st.tmps := by
        intro sv hsv
        unfold sameDst at hsv
        cases hd : ops[i].dst with
        | none => rfl
        | some d =>
          rw [hd] at hsv
          have := SV.eq_of_beq hsv
          simp only [putT]
          rcases Nat.lt_or_ge d xs.st.tmps.length with hlt' | hge
          · have : sv = xs.st.tmps[d] := by rw [this]; simp [List.getD, hlt']
            rw [this]
            exact List.set_getElem_self hlt'
          · exact List.set_eq_of_length_le hge
      have fin : ∀ {sv : SV TK} {fs : List T} {v : Value}, PureOk E ρ σ m xs.st ops b w ops[i] sv xs.st.objs fs v w σ m → putT xs.st.tmps ops[i].dst sv = xs.st.tmps → wpOpIn (fen E.r) 0 E.P ops Q i (wpAnyIn (fen E.r) 0 E.P .any ops Q fuel (listed.setIfInBounds i true)) a w := by
        intro sv fs v hp hput
        have hf := hp.fits
        rw [hput] at hf
        have hD : DInv E F Kd ags md ops rest pre forced xs ρ σ m (listed.setIfInBounds i true) (a.put ops[i].dst v) (b.put ops[i].dst v) w :=
          ⟨hf, h.xok, h.says, hsz, fun j hj => by rcases (hset j).1 hj with rfl | hj; exact hip; exact h.sub j hj, h.fin, fun j hj => (hset j).2 (.inr (h.forced j hj)), hclosed, h.topo,
            by rw [Act.put_tmps, Act.put_tmps]; split <;> simp [h.tsize],
            fun t ht => put_agree h.tsize fun hd => h.agree t fun j hj hlj hdj => by
              by_cases hji : j = i
              · subst hji; rw [ho] at hdj; exact hd hdj
              · exact ht j hj (by
                  cases hx : (listed.setIfInBounds i true).getD j false with
                  | false => rfl
                  | true => rcases (hset j).1 hx with rfl | hx'
                            · exact absurd rfl hji
                            · rw [hlj] at hx'; cases hx') hdj,
            by rw [Act.put_dfr, Act.put_dfr]; exact h.adfr⟩
        have hrec := draw_ok hY hQ fuel hD hn hcount
        have hst := hp.step (R := fun v' w' => v' = v ∧ w' = w) ⟨rfl, rfl⟩ a (wpAnyIn (fen E.r) 0 E.P .any ops Q fuel (listed.setIfInBounds i true)) Q hwq heq (by rintro v' w' ⟨rfl, rfl⟩; exact hrec)
        unfold wpOpIn
        rw [ho]
        simp only
        split
        · rename_i hw; rw [if_pos hw] at hst; exact hst
        · rename_i hw; rw [if_neg hw] at hst; exact ⟨fun _ _ => trivial, hst⟩
      split at hm
      · split at hm <;> try contradiction
        rename_i hsame
        cases hm
        obtain ⟨v, w', σ', m', hpo, hsm⟩ := (pure_ok (ops := ops) h.fits h.xok.all (GOk.of h.fits h.xok.all hg) hsx (by simp)).1 rfl (fun t ht => hnt t (hms t ht))
        obtain ⟨rfl, rfl, rfl⟩ := hsm hno
        rw [hno, Option.getD_none] at hpo
        exact fin hpo (samev hsame)
      · rename_i c
        split at hm <;> try contradiction
        rename_i hsame
        cases hm
        simp only [Bool.and_eq_true] at hsame
        obtain ⟨v, hpo⟩ := (pure_ok (ops := ops) h.fits h.xok.all (GOk.of h.fits h.xok.all hg) hsx (fun _ => by rw [h.xok.nv]; exact hsame.2)).2 c rfl hno (fun t ht => hnt t (hms t ht))
        exact fin hpo (samev hsame.1)
    have hs := h.says
    rcases hn with rfl | ⟨k, l, o, rfl, hok, hact⟩
    · simp only [sxDraw] at hs
      split at hs
      · rename_i hall
        have hip : i ∈ pre := by
          have := List.all_eq_true.1 hall i (List.mem_range.2 (by simpa using hlt))
          simpa using this
        split at hs
        · rename_i ns hns
          rw [denR_needs] at hs
          exact plain hip ⟨ns, hns, hs.1⟩
        · simp [denR] at hs
      · simp [denR] at hs
    · have hok' : ops.toList[k]? = some o := by simpa using hok
      simp only [sxDraw, hok'] at hs
      split at hs
      · simp [denR] at hs
      rename_i hcc
      simp only [Bool.or_eq_true, not_or, Bool.not_eq_true', Bool.not_eq_false, Bool.not_eq_true] at hcc
      split at hs
      · rename_i hb
        simp only [Bool.and_eq_true] at hb
        obtain ⟨hb1, hb2⟩ := hb
        split at hs
        · rename_i ns hns
          rw [denR_needs] at hs
          obtain ⟨hnt, hs⟩ := hs
          have hik : i ∈ pre ∨ i = k := by
            have := List.all_eq_true.1 hb1 i (List.mem_range.2 (by simpa using hlt))
            simp only [Bool.or_eq_true, beq_iff_eq, Bool.not_eq_true'] at this
            rcases this with (h1 | h1) | h1
            · exact .inl (by simpa using h1)
            · exact .inr h1
            · exfalso
              have : readyIn ops.toList pre i = true := List.all_eq_true.2 fun k hk => by simpa using hdsub k hk
              rw [this] at h1; cases h1
          rcases hik with hip | rfl
          · exact plain hip ⟨ns, hns, hnt⟩
          · -- the operation that acts
            have hoo : ops[i] = o := by rw [ho] at hok; cases hok; rfl
            have hnot : i ∉ pre := by simpa using hcc.1
            rw [denR_bind] at hs
            have hsel := not_select_of_acting hact
            obtain ⟨heq, hwq⟩ := same_eval (ops := ops) hsel (h.reads hdep hb2)
            have hst := step_ok h.fits h.xok hs a (wpAnyIn (fen E.r) 0 E.P .any ops Q fuel (listed.setIfInBounds i true)) Q hwq heq (by
              rintro v w' ⟨ρ', xs', σ', m', k1, k2, k3⟩
              have hD : DInv E F Kd ags md ops l (i :: pre) (i :: (ancs ops.toList ops.toList.length (deps ops.toList i) ++ forced)) xs' ρ' σ' m' (listed.setIfInBounds i true) (a.put o.dst v) (b.put o.dst v) w' :=
                ⟨k2, k3, k1, hsz, fun j hj => by rcases (hset j).1 hj with rfl | hj; exact List.mem_cons_self; exact List.mem_cons_of_mem _ (h.sub j hj),
                  fun j hj => by rcases List.mem_cons.1 hj with rfl | hj; exact hlt; exact h.fin j hj,
                  fun j hj => by
                    rcases List.mem_cons.1 hj with rfl | hj
                    · exact (hset _).2 (.inl rfl)
                    · rcases List.mem_append.1 hj with hj | hj
                      · exact (hset j).2 (.inr (ancs_listed (ops := ops) (p := fun j => listed.getD j false = true) h.closed ops.toList.length hdep j hj))
                      · exact (hset j).2 (.inr (h.forced j hj)),
                  hclosed,
                  fun p1 j p2 he q hq => by
                    cases p1 with
                    | nil =>
                      simp only [List.nil_append, List.cons.injEq] at he
                      obtain ⟨rfl, rfl⟩ := he
                      exact hdsub q hq
                    | cons x p1 =>
                      simp only [List.cons_append, List.cons.injEq] at he
                      exact h.topo p1 j p2 he.2 q hq,
                  by rw [Act.put_tmps, Act.put_tmps]; split <;> simp [h.tsize],
                  fun t ht => put_agree h.tsize fun hd => h.agree t fun j hj hlj hdj => ht j (List.mem_cons_of_mem _ hj) (by
                      cases hx : (listed.setIfInBounds i true).getD j false with
                      | false => rfl
                      | true => rcases (hset j).1 hx with rfl | hx'
                                · exact absurd hj hnot
                                · rw [hlj] at hx'; cases hx') hdj,
                  by rw [Act.put_dfr, Act.put_dfr]; exact h.adfr⟩
              obtain ⟨rest', pre', xs2, b', hD', hN⟩ := hD.advance
              exact draw_ok hY hQ fuel hD' hN hcount)
            unfold wpOpIn
            rw [ho, hoo]
            simp only
            split
            · rename_i hw; rw [if_pos hw] at hst; exact hst
            · rename_i hw; rw [if_neg hw] at hst; exact ⟨fun _ _ => trivial, hst⟩
        · simp [denR] at hs
      · simp [denR] at hs
end
end Go.Sx
