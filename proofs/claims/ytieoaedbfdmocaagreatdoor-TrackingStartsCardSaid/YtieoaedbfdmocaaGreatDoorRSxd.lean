/-
  A symbolic executor over the kit's code, and its soundness, part 4.
-/
import Derived.Test.YtieoaedbfdmocaaGreatDoorRSxc
set_option linter.unusedSimpArgs false
set_option linter.unusedVariables false
set_option linter.unusedSectionVars false
set_option linter.defProp false
set_option maxRecDepth 100000
namespace Go.Sx
open Go Go.RowKit
theorem paramsX_ok {σ : Names} {m : Mem} {w : World} : ∀ {pk : List PK} {args : List RV} {ρ0 ρ more : List D} {vs : List Value} {n o : Nat}, pkRhoX pk args = some ρ → HasKs (pkKinds pk) ρ → ρ0.length = n → vs.length = args.length →
    (∀ (i : Nat) r v, args[i]? = some r → vs[i]? = some v → RepR m w (fun _ => True) r v) → (∀ (i : Nat) v, (ownVals args vs)[i]? = some v → σ (o + i) = some v) →
    (paramSVs n o pk).length = vs.length ∧ (∀ (i : Nat) s v, (paramSVs n o pk)[i]? = some s → vs[i]? = some v → RS σ m (ρ0 ++ ρ ++ more) s v) ∧ (∀ s ∈ paramSVs n o pk, SV.Ok (ρ0 ++ ρ ++ more) s) ∧
    (paramObjs n pk).length = (ownVals args vs).length ∧ (ownKs pk).length = (ownVals args vs).length ∧ ∀ (i : Nat) ov, (paramObjs n pk)[i]? = some ov → OV.Ok (ρ0 ++ ρ ++ more) ov ∧ (∃ e x, ov = .arr e x) ∧
      (∀ b, (σ (o + i)).bind blk = some b → m b = none) ∧ RepO σ m w (o + i) (ov.map (denL (ρ0 ++ ρ ++ more)))
  | [], [], ρ0, ρ, more, vs, n, o, h, hk, hn, hl, hr, hs => by
    cases vs with
    | nil => exact ⟨rfl, by simp [paramSVs], by simp [paramSVs], rfl, rfl, by simp [paramObjs]⟩
    | cons v vs => simp at hl
  | [], _ :: _, _, _, _, _, _, _, h, _, _, _, _, _ => by simp [pkRhoX] at h
  | .cell k :: pk, [], _, _, _, _, _, _, h, _, _, _, _, _ => by simp [pkRhoX] at h
  | .agg k :: pk, [], _, _, _, _, _, _, h, _, _, _, _, _ => by simp [pkRhoX] at h
  | .own k :: pk, [], _, _, _, _, _, _, h, _, _, _, _, _ => by simp [pkRhoX] at h
  | .any :: pk, [], _, _, _, _, _, _, h, _, _, _, _, _ => by simp [pkRhoX] at h
  | .any :: pk, r :: args, ρ0, ρ, more, vs, n, o, h, hk, hn, hl, hr, hs => by
    cases vs with
    | nil => simp at hl
    | cons v vs =>
    cases r with
    | own e xs => simp [pkRhoX] at h
    | any => simp [pkRhoX] at h
    | d  d =>
    simp only [pkRhoX] at h
    have hkk : pkKinds (.any :: pk) = pkKinds pk := rfl
    rw [hkk] at hk
    obtain ⟨l, r, oo, l2, l3, ro⟩ := paramsX_ok (σ := σ) (w := w) (ρ0 := ρ0) (more := more) (vs := vs) (n := n) (o := o) h hk hn (by simpa using hl) (fun i d v h1 h2 => hr (i + 1) d v (by simpa using h1) (by simpa using h2)) (by simpa [ownVals] using hs)
    refine ⟨by simp [paramSVs, PK.kinds, l], ?_, ?_, by simpa [paramObjs, ownVals, PK.kinds] using l2, by simpa [ownKs, ownVals] using l3, by simpa [paramObjs, PK.kinds] using ro⟩
    · intro i s u hs' hu
      cases i with
      | zero => simp [paramSVs, paramSV] at hs' hu; subst hs' hu; exact .any
      | succ i => exact r i s u (by simpa [paramSVs, PK.kinds] using hs') (by simpa using hu)
    · intro s hs'
      simp only [paramSVs, paramSV, List.mem_cons] at hs'
      rcases hs' with rfl | hs'
      · exact .any
      · exact oo s (by simpa [PK.kinds] using hs')
  | .cell k :: pk, r :: args, ρ0, ρ, more, vs, n, o, h, hk, hn, hl, hr, hs => by
    cases vs with
    | nil => simp at hl
    | cons v vs =>
    cases r with
    | own e xs => simp [pkRhoX] at h
    | any => simp [pkRhoX] at h
    | d d =>
    simp only [pkRhoX, Option.map_eq_some_iff] at h
    obtain ⟨ρ', h', rfl⟩ := h
    have hkk : pkKinds (.cell k :: pk) = k :: pkKinds pk := rfl
    rw [hkk] at hk
    simp only [HasKs] at hk
    obtain ⟨l, r, oo, l2, l3, ro⟩ := paramsX_ok (σ := σ) (w := w) (ρ0 := ρ0 ++ [d]) (more := more) (vs := vs) (n := n + 1) (o := o) h' hk.2 (by simp [hn]) (by simpa using hl) (fun i d v h1 h2 => hr (i + 1) d v (by simpa using h1) (by simpa using h2)) (by simpa [ownVals] using hs)
    have hvar : (ρ0 ++ d :: ρ' ++ more)[n]? = some d := by rw [← hn]; simp
    have e : ρ0 ++ [d] ++ ρ' ++ more = ρ0 ++ d :: ρ' ++ more := by simp
    rw [e] at r oo ro
    refine ⟨by simp [paramSVs, PK.kinds, l], ?_, ?_, by simpa [paramObjs, ownVals, PK.kinds] using l2, by simpa [ownKs, ownVals] using l3, by simpa [paramObjs, PK.kinds] using ro⟩
    · intro i s u hs' hu
      cases i with
      | zero =>
        simp [paramSVs, paramSV] at hs' hu; subst hs' hu
        refine .d ?_
        rw [denL_var hvar]
        have := hr 0 _ _ rfl rfl
        cases this; assumption
      | succ i => exact r i s u (by simpa [paramSVs, PK.kinds] using hs') (by simpa using hu)
    · intro s hs'
      simp only [paramSVs, paramSV, List.mem_cons] at hs'
      rcases hs' with rfl | hs'
      · exact .d (.var hvar hk.1)
      · exact oo s (by simpa [PK.kinds] using hs')
  | .agg ks :: pk, r :: args, ρ0, ρ, more, vs, n, o, h, hk, hn, hl, hr, hs => by
    cases vs with
    | nil => simp at hl
    | cons v vs =>
    cases r with
    | own e xs => simp [pkRhoX] at h
    | any => simp [pkRhoX] at h
    | d d =>
    cases d <;> simp only [pkRhoX] at h <;> try (cases h; done)
    rename_i cs
    split at h <;> try contradiction
    rename_i hlen
    simp only [Option.map_eq_some_iff] at h
    obtain ⟨ρ', h', rfl⟩ := h
    have hkk : pkKinds (.agg ks :: pk) = ks ++ pkKinds pk := rfl
    rw [hkk] at hk
    obtain ⟨k1, k2⟩ := HasKs.unappend hlen hk
    obtain ⟨l, r, oo, l2, l3, ro⟩ := paramsX_ok (σ := σ) (w := w) (ρ0 := ρ0 ++ cs) (more := more) (vs := vs) (n := n + ks.length) (o := o) h' k2 (by simp [hn, hlen]) (by simpa using hl) (fun i d v h1 h2 => hr (i + 1) d v (by simpa using h1) (by simpa using h2)) (by simpa [ownVals] using hs)
    have e : ρ0 ++ cs ++ ρ' ++ more = ρ0 ++ (cs ++ ρ') ++ more := by simp
    rw [e] at r oo ro
    have hV : Vars (ρ0 ++ (cs ++ ρ') ++ more) n cs := by
      intro i d hd
      have hlt := (List.getElem?_eq_some_iff.1 hd).1
      rw [List.append_assoc, List.getElem?_append_right (by omega), ← hn, Nat.add_sub_cancel_left, List.append_assoc, List.getElem?_append_left hlt]
      exact hd
    obtain ⟨c1, c2, c3⟩ := freshCells_ok hV k1
    refine ⟨by simp [paramSVs, PK.kinds, l], ?_, ?_, by simpa [paramObjs, ownVals, PK.kinds] using l2, by simpa [ownKs, ownVals] using l3, by simpa [paramObjs, PK.kinds] using ro⟩
    · intro i s u hs' hu
      cases i with
      | zero =>
        simp [paramSVs, paramSV] at hs' hu; subst hs' hu
        have hd := hr 0 _ _ rfl rfl
        cases hd with
        | d hd =>
        cases hd with
        | agg _ arr hsz hvv =>
        simp only [RS, SV.map, SV.mapL_eq, List.map_map]
        refine .agg (by simp [hsz, c1]) fun i c v hc hu => ?_
        simp only [List.getElem?_map, Option.map_eq_some_iff] at hc
        obtain ⟨y, hy, rfl⟩ := hc
        have hlt : i < cs.length := by rw [← c1]; exact (List.getElem?_eq_some_iff.1 hy).1
        refine .d ?_
        rw [c3 i y _ hy (List.getElem?_eq_getElem hlt)]
        exact hvv i _ v (List.getElem?_eq_getElem hlt) hu
      | succ i => exact r i s u (by simpa [paramSVs, PK.kinds] using hs') (by simpa using hu)
    · intro s hs'
      simp only [paramSVs, paramSV, List.mem_cons] at hs'
      rcases hs' with rfl | hs'
      · exact .agg fun c hc => by obtain ⟨y, hy, rfl⟩ := List.mem_map.1 hc; exact .d (c2 y hy)
      · exact oo s (by simpa [PK.kinds] using hs')
  | .own ks :: pk, r :: args, ρ0, ρ, more, vs, n, o, h, hk, hn, hl, hr, hs => by
    cases vs with
    | nil => simp at hl
    | cons v vs =>
    cases r with
    | d d => simp [pkRhoX] at h
    | any => simp [pkRhoX] at h
    | own e xs =>
    simp only [pkRhoX] at h
    split at h <;> try contradiction
    rename_i he
    simp only [Option.map_eq_some_iff] at h
    obtain ⟨ρ', h', rfl⟩ := h
    have hkk : pkKinds (.own ks :: pk) = .slice ks :: pkKinds pk := rfl
    rw [hkk] at hk
    simp only [HasKs] at hk
    have hσ : σ o = some v := by have := hs 0 v (by simp [ownVals]); simpa using this
    obtain ⟨l, r, oo, l2, l3, ro⟩ := paramsX_ok (σ := σ) (w := w) (ρ0 := ρ0 ++ [.slice xs]) (more := more) (vs := vs) (n := n + 1) (o := o + 1) h' hk.2 (by simp [hn]) (by simpa using hl) (fun i d v h1 h2 => hr (i + 1) d v (by simpa using h1) (by simpa using h2))
      (fun i v hv => by have := hs (i + 1) v (by simpa [ownVals] using hv); rw [← this]; congr 1; omega)
    have hvar : (ρ0 ++ .slice xs :: ρ' ++ more)[n]? = some (.slice xs) := by rw [← hn]; simp
    have e1 : ρ0 ++ [.slice xs] ++ ρ' ++ more = ρ0 ++ .slice xs :: ρ' ++ more := by simp
    rw [e1] at r oo ro
    have hr0 := hr 0 _ _ rfl rfl
    refine ⟨by simp [paramSVs, l], ?_, ?_, by simp [paramObjs, ownVals, l2], by simp [ownKs, ownVals, l3], ?_⟩
    · intro i s u hs' hu
      cases i with
      | zero => simp [paramSVs, paramSV] at hs' hu; subst hs' hu; exact .own hσ
      | succ i => exact r i s u (by simpa [paramSVs] using hs') (by simpa using hu)
    · intro s hs'
      simp only [paramSVs, paramSV, List.mem_cons] at hs'
      rcases hs' with rfl | hs'
      · exact .own
      · exact oo s hs'
    · intro i ov hov
      cases i with
      | zero =>
        simp [paramObjs] at hov; subst hov
        have hden : denL (ρ0 ++ .slice xs :: ρ' ++ more) ⟨.var n, .slice ks⟩ = .slice xs := denL_var hvar
        refine ⟨.arr (.var hvar hk.1), ⟨_, _, rfl⟩, ?_, ?_⟩
        · intro b hb
          rw [Nat.add_zero, hσ, Option.bind_some] at hb
          cases hr0 with
          | none => simp [blk_zero] at hb
          | own hB hm hb' h0 => rw [blk_slice h0] at hb; cases hb; exact hm
        · simp only [OV.map, hden, Nat.add_zero]
          cases hr0 with
          | none => rw [← he]; exact .none hσ
          | own hB hm hb' h0 hc hcc hcap hsz hee hvv => subst he; exact .arr hσ hb' h0 hc hcc hcap hsz hee hvv
      | succ i =>
        have := ro i ov (by simpa [paramObjs] using hov)
        rw [show o + (i + 1) = o + 1 + i by omega]
        exact this
def sxSpecX (P : Program) (md : Mode) (f : FuncId) (pk : List PK) (upd : Bool) : SpecX := fun args K =>
  ∃ ρ, pkRhoX pk args = some ρ ∧ HasKs (pkKinds pk) ρ ∧ denR P (fun _ rs => K rs) (fun _ _ _ _ => False) (sxFnX P md f pk upd) .none ρ
theorem fnX_ok (P : Program) (md : Mode) (f : FuncId) (pk : List PK) (hcl : callable P f = true) : ContractX P f pk false (sxSpecX P md f pk false) := by
  refine ⟨hcl, ?_⟩
  rintro args K ⟨ρ, hρ, hks, hR⟩ _ w m vs hmem hreps
  unfold sxFnX at hR
  split at hR
  · simp [denR] at hR
  rename_i fn hfn
  split at hR
  · simp [denR] at hR
  rename_i c hbody
  simp only at hR
  rw [denR_bind] at hR
  let σ0 : Names := fun o => (ownVals args vs)[o]?
  obtain ⟨l, r, o, l2, l3, ro⟩ := paramsX_ok (σ := σ0) (m := m) (w := w) (ρ0 := []) (more := []) (vs := vs) (n := 0) (o := 0) hρ hks rfl hreps.len hreps.rep (fun i v hv => by simpa [σ0] using hv)
  simp only [List.nil_append, List.append_nil, Nat.zero_add] at r o ro
  let E : Env := { w0 := w, m0 := m, mine := OwnBlk args vs, own := OwnBlk args vs, P := P, r := none, sav := #[], Y := .off }
  have hlt : ∀ b, OwnBlk args vs b → b < w.heap.size := by
    rintro b ⟨i, r, v, h1, h2, h3, h4⟩
    have := hreps.rep i r v h1 h2
    cases this with
    | d => cases h3
    | any => cases h3
    | none => simp [blk_zero] at h4
    | own hB hm hb h0 => rw [blk_slice h0] at h4; cases h4; exact (Array.getElem?_eq_some_iff.1 hb).1
  have hob : ∀ (i : Nat) ov, (denSt ρ ⟨paramSVs 0 0 pk ++ List.replicate (fn.ntmps - (paramSVs 0 0 pk).length) .any, paramObjs 0 pk⟩).objs[i]? = some ov → ∃ e x, ov = .arr e x ∧ RepO σ0 m w i ov ∧ (∀ b, (σ0 i).bind blk = some b → m b = none) := by
    intro i ov h
    simp only [denSt, St.map, List.getElem?_map, Option.map_eq_some_iff] at h
    obtain ⟨ov', h, rfl⟩ := h
    obtain ⟨_, ⟨e, x, rfl⟩, h2, h3⟩ := ro i ov' h
    exact ⟨e, _, rfl, h3, h2⟩
  have hOB : ∀ (i b : Nat), (σ0 i).bind blk = some b → OwnBlk args vs b := by
    intro i b hb
    obtain ⟨v, hv, hb⟩ := Option.bind_eq_some_iff.1 hb
    exact (ownVals_mem hreps.len.symm).2 ⟨v, List.mem_of_getElem? hv, hb⟩
  have hinj : ∀ (i j b : Nat), (σ0 i).bind blk = some b → (σ0 j).bind blk = some b → i = j := by
    intro i j b h1 h2
    obtain ⟨v, hv, hb⟩ := Option.bind_eq_some_iff.1 h1
    obtain ⟨v', hv', hb'⟩ := Option.bind_eq_some_iff.1 h2
    have key : ∀ {args : List RV} {vs : List Value}, (∀ (i j : Nat) r r' u u' b, i ≠ j → args[i]? = some r → args[j]? = some r' → vs[i]? = some u → vs[j]? = some u' → r.isOwn = true → r'.isOwn = true → blk u = some b → blk u' ≠ some b) →
        vs.length = args.length → ∀ {i j : Nat} {v v' : Value} {b : Nat}, (ownVals args vs)[i]? = some v → (ownVals args vs)[j]? = some v' → blk v = some b → blk v' = some b → i = j := by
      intro args
      induction args with
      | nil => intro vs _ _ i j v v' b h; cases vs <;> simp [ownVals] at h
      | cons r args ih =>
        intro vs hs hl i j v v' b h1 h2 h3 h4
        cases vs with
        | nil => simp at hl
        | cons u vs =>
        have hs' : ∀ (i j : Nat) r r' u u' b, i ≠ j → args[i]? = some r → args[j]? = some r' → vs[i]? = some u → vs[j]? = some u' → r.isOwn = true → r'.isOwn = true → blk u = some b → blk u' ≠ some b :=
          fun i j r r' u u' b hne a1 a2 a3 a4 => hs (i + 1) (j + 1) r r' u u' b (by omega) (by simpa using a1) (by simpa using a2) (by simpa using a3) (by simpa using a4)
        have hl' : vs.length = args.length := by simpa using hl
        cases r with
        | d x => exact ih hs' hl' (by simpa [ownVals] using h1) (by simpa [ownVals] using h2) h3 h4
        | any => exact ih hs' hl' (by simpa [ownVals] using h1) (by simpa [ownVals] using h2) h3 h4
        | own e xs =>
          simp only [ownVals] at h1 h2
          have far : ∀ {k : Nat} {y : Value}, (ownVals args vs)[k]? = some y → blk y = some b → blk u = some b → False := by
            intro k y hk hy hu
            have : OwnBlk args vs b := (ownVals_mem hl'.symm).2 ⟨y, List.mem_of_getElem? hk, hy⟩
            obtain ⟨q, r', v', a1, a2, a3, a4⟩ := this
            exact hs 0 (q + 1) _ r' u v' b (by omega) rfl (by simpa using a1) rfl (by simpa using a2) rfl a3 hu a4
          cases i with
          | zero =>
            cases j with
            | zero => rfl
            | succ j => simp at h1; subst h1; exact (far (by simpa using h2) h4 h3).elim
          | succ i =>
            cases j with
            | zero => simp at h2; subst h2; exact (far (by simpa using h1) h3 h4).elim
            | succ j => exact congrArg (· + 1) (ih (i := i) (j := j) hs' hl' (by simpa using h1) (by simpa using h2) h3 h4)
    exact key hreps.sep hreps.len hv hv' hb hb'
  have hl : (paramSVs 0 0 pk).length = vs.toArray.size := by simpa using l
  have hf : Fits E σ0 m (denSt ρ ⟨paramSVs 0 0 pk ++ List.replicate (fn.ntmps - (paramSVs 0 0 pk).length) .any, paramObjs 0 pk⟩) { tmps := vs.toArray ++ Array.replicate (fn.ntmps - vs.toArray.size) undef, defers := [] } w :=
    { sz := by simp [denSt, St.map, l]
      tm := fun i s v hs hv => by
        simp only [denSt, St.map, List.getElem?_map, Option.map_eq_some_iff] at hs
        obtain ⟨s', hs', rfl⟩ := hs
        rw [List.getElem?_append] at hs'
        split at hs'
        · rename_i hlt
          refine r i s' v hs' ?_
          rw [Array.getElem?_append, if_pos (by rw [← hl]; exact hlt)] at hv
          simpa using hv
        · have := List.mem_of_getElem? hs'
          rw [List.eq_of_mem_replicate this]
          exact .any
      dfr := Marks.nil _ _ _
      yld := fun i h => by obtain ⟨e, x, he, _⟩ := hob i _ h; cases he
      sav := fun i cs h => by obtain ⟨e, x, he, _⟩ := hob i _ h; cases he
      mem := hmem, le := Mem.le_refl m
      objs := fun i ov h => by obtain ⟨e, x, _, h2, _⟩ := hob i _ h; exact h2
      sep := fun i ov b h _ hb => by obtain ⟨e, x, _, _, h3⟩ := hob i _ h; exact ⟨h3 b hb, .inr (hOB i b hb)⟩
      inj := fun i j ov ov' b _ _ _ _ h1 h2 => hinj i j b h1 h2
      dom := fun i v h => by
        have := (List.getElem?_eq_some_iff.1 h).1
        simpa [denSt, St.map, l2] using this
      grow := Nat.le_refl _, keep := fun _ _ _ => rfl, old := fun _ _ _ => rfl, os := rfl, tape := rfl, output := rfl, drawn := Nat.le_refl _ }
  have hx : XOk ρ { st := { tmps := paramSVs 0 0 pk ++ List.replicate (fn.ntmps - (paramSVs 0 0 pk).length) .any, objs := paramObjs 0 pk }, nv := (pkKinds pk).length, nl := 0 } := by
    refine ⟨⟨fun s hs => ?_, fun ov h => ?_⟩, hks.length⟩
    · rcases List.mem_append.1 hs with hs | hs
      · exact o s hs
      · rw [List.eq_of_mem_replicate hs]; exact .any
    · obtain ⟨i, hi⟩ := List.mem_iff_getElem?.1 h
      exact (ro i ov hi).1
  refine body_ok (E := E) rfl rfl hfn hbody (fun _ => rfl) ⟨YOk.off P, fun _ => trivial, rfl, fun b h => ⟨h, hlt b h⟩⟩ hf hx hR ?_ (fun i ags ρ xs hk => by simp [denR] at hk)
  intro e he B ags ρ' xs' σ' m' a' w' hB hY' hK hf' hx'
  have hB' : B = E.toBase := hB.off rfl
  subst hB'
  have hK' : denR P (fun _ rs => K rs) (fun _ _ _ _ => False) (match resultsRT P (claims P (md.own.contains f) xs'.st fn.results.toList fn.resultTypes.toList) fn.results.toList fn.resultTypes.toList [] with | some rs => .ret rs | none => .fail "the results") ags ρ' := by
    rcases he with rfl | rfl <;> exact hK
  split at hK'
  · rename_i rs hrs
    obtain ⟨σ2, hf2, hx2⟩ := claims_ok (E := E) (own := md.own.contains f) fn.results.toList fn.resultTypes.toList hf' hx'.all
    obtain ⟨us, ext, m2, h1, h2⟩ := resultsRT_ok (E := E) hf2 hx2 hrs
    have hext : ext = [] := List.eq_nil_of_length_eq_zero (by simpa using h2.len)
    subst hext
    refine ⟨_, h1, _, us, _, m2, hK', ?_, rfl, rfl, by simpa using h2.rep, h2.le, h2.mem, fun b hb => h2.old b hb, ⟨hf'.os, hf'.tape, hf'.output, hf'.drawn, hf'.grow, fun b hb => hf'.keep b hb⟩⟩
    intro rk hrk
    refine h2.typed rk ?_
    simpa [fnTypes, hfn] using hrk
  · simp [denR] at hK'
end Go.Sx
namespace Go.Sx
open Go Go.RowKit
def T.isB : T → Bool
  | .bool _ => true
  | .o1 .not _ => true
  | .o2 .lt _ _ | .o2 .le _ _ | .o2 .gt _ _ | .o2 .ge _ _ | .o2 .eq _ _ | .o2 .ne _ _ | .o2 .band _ _ | .o2 .bor _ _ => true
  | .ite _ a b => a.isB && b.isB
  | _ => false
theorem T.isB_ok {ρ : List D} : ∀ {t : T}, t.isB = true → ∃ b, den ρ t = .bool b := by
  intro t
  induction t with
  | bool b => intro _; exact ⟨b, rfl⟩
  | o1 o a _ =>
    intro h
    cases o <;> simp [T.isB] at h
    simp only [den]
    cases den ρ a <;> exact ⟨_, rfl⟩
  | o2 o a b _ _ =>
    intro h
    simp only [den]
    cases o <;> simp [T.isB] at h <;> cases den ρ a <;> cases den ρ b <;> exact ⟨_, rfl⟩
  | ite c a b _ iha ihb =>
    intro h
    simp only [T.isB, Bool.and_eq_true] at h
    obtain ⟨x, hx⟩ := iha h.1
    obtain ⟨y, hy⟩ := ihb h.2
    simp only [den, hx, hy]
    cases den ρ c <;> try exact ⟨_, rfl⟩
    rename_i b; cases b <;> exact ⟨_, rfl⟩
  | _ => intro h; simp [T.isB] at h
def T.pcs : Bool → T → List T
  | true, .ite c x (.bool false) => .ite c x (.bool false) :: (c.pcs true ++ x.pcs true)
  | true, .o2 .band a b => .o2 .band a b :: (a.pcs true ++ b.pcs true)
  | true, .o1 .not a => .o1 .not a :: a.pcs false
  | false, .ite c (.bool true) y => .o1 .not (.ite c (.bool true) y) :: ((if c.isB then c.pcs false else []) ++ y.pcs false)
  | false, .o2 .bor a b => .o1 .not (.o2 .bor a b) :: (if a.isB && b.isB then a.pcs false ++ b.pcs false else [])
  | false, .o1 .not a => .o1 .not (.o1 .not a) :: (if a.isB then a.pcs true else [])
  | true, t => [t]
  | false, t => [.o1 .not t]
theorem T.pcs_ok {ρ : List D} : ∀ {t : T} {b : Bool}, den ρ t = .bool b → ∀ s ∈ t.pcs b, den ρ s = .bool true := by
  intro t
  have base : ∀ {t : T} {b : Bool}, den ρ t = .bool b → (∀ s ∈ (if b then [t] else [.o1 .not t]), den ρ s = .bool true) := by
    intro t b h s hs
    cases b with
    | true => simp at hs; subst hs; exact h
    | false => simp at hs; subst hs; simp [den, h, O1.eval]
  induction t with
  | ite c x y ihc ihx ihy =>
    intro b h
    cases b with
    | true =>
      by_cases hy : y = .bool false
      · subst hy
        simp only [T.pcs, List.mem_cons, List.mem_append]
        have h0 := h
        simp only [den] at h
        have hc : den ρ c = .bool true := by
          cases hc : den ρ c with
          | bool b => cases b with
            | true => rfl
            | false => rw [hc] at h; cases h
          | _ => rw [hc] at h; cases h
        rw [hc] at h
        rintro s (rfl | hs | hs)
        · exact h0
        · exact ihc hc s hs
        · exact ihx h s hs
      · have : (T.ite c x y).pcs true = [.ite c x y] := by
          unfold T.pcs
          split <;> simp_all
        rw [this]; simpa using h
    | false =>
      by_cases hx : x = .bool true
      · subst hx
        simp only [T.pcs, List.mem_cons, List.mem_append]
        have h0 := h
        simp only [den] at h
        rintro s (rfl | hs | hs)
        · show O1.eval .not (den ρ (.ite c (.bool true) y)) = _
          rw [show den ρ (.ite c (.bool true) y) = _ from h0]; rfl
        · split at hs
          · rename_i hB
            obtain ⟨v, hv⟩ := T.isB_ok (ρ := ρ) hB
            have : v = false := by
              cases v with
              | false => rfl
              | true => rw [hv] at h; cases h
            subst this
            exact ihc hv s hs
          · cases hs
        · refine ihy ?_ s hs
          cases hc : den ρ c with
          | bool b => cases b with
            | true => rw [hc] at h; cases h
            | false => rw [hc] at h; exact h
          | _ => rw [hc] at h; exact h
      · have : (T.ite c x y).pcs false = [.o1 .not (.ite c x y)] := by
          unfold T.pcs
          split <;> simp_all
        rw [this]; exact base h
  | o1 o a ih =>
    intro b h
    by_cases ho : o = .not
    · subst ho
      cases b with
      | true =>
        simp only [T.pcs, List.mem_cons]
        rintro s (rfl | hs)
        · exact h
        · refine ih ?_ s hs
          simp only [den] at h
          cases ha : den ρ a with
          | bool v => rw [ha] at h; cases v with
            | true => cases h
            | false => rfl
          | _ => rw [ha] at h; cases h
      | false =>
        simp only [T.pcs, List.mem_cons]
        rintro s (rfl | hs)
        · show O1.eval .not (den ρ (.o1 .not a)) = _; rw [h]; rfl
        · split at hs
          · rename_i hB
            obtain ⟨v, hv⟩ := T.isB_ok (ρ := ρ) hB
            refine ih ?_ s hs
            simp only [den, hv, O1.eval] at h
            cases v with
            | true => exact hv
            | false => cases h
          · cases hs
    · have : ∀ b, (T.o1 o a).pcs b = if b then [.o1 o a] else [.o1 .not (.o1 o a)] := by
        intro b
        cases b <;> cases o <;> first | (exact absurd rfl ho) | rfl
      rw [this]; exact base h
  | o2 o x y ihx ihy =>
    intro b h
    by_cases hs : (o = .band ∧ b = true) ∨ (o = .bor ∧ b = false)
    · rcases hs with ⟨rfl, rfl⟩ | ⟨rfl, rfl⟩
      · simp only [T.pcs, List.mem_cons, List.mem_append]
        have h0 := h
        simp only [den] at h
        have : den ρ x = .bool true ∧ den ρ y = .bool true := by
          cases hx : den ρ x <;> cases hy : den ρ y <;> rw [hx, hy] at h <;> simp [O2.eval] at h ⊢
          exact h
        rintro s (rfl | hs | hs)
        · exact h0
        · exact ihx this.1 s hs
        · exact ihy this.2 s hs
      · simp only [T.pcs, List.mem_cons]
        have h0 := h
        simp only [den] at h
        rintro s (rfl | hs)
        · show O1.eval .not (den ρ (.o2 .bor x y)) = _; rw [h0]; rfl
        · split at hs
          · rename_i hB
            simp only [Bool.and_eq_true] at hB
            obtain ⟨v, hv⟩ := T.isB_ok (ρ := ρ) hB.1
            obtain ⟨u, hu⟩ := T.isB_ok (ρ := ρ) hB.2
            rw [hv, hu] at h
            simp [O2.eval] at h
            obtain ⟨rfl, rfl⟩ := h
            rcases List.mem_append.1 hs with hs | hs
            · exact ihx hv s hs
            · exact ihy hu s hs
          · cases hs
    · have : (T.o2 o x y).pcs b = if b then [.o2 o x y] else [.o1 .not (.o2 o x y)] := by
        cases b <;> cases o <;> first | rfl | (exact absurd (by simp) hs)
      rw [this]; exact base h
  | _ =>
    intro b h
    cases b
    · exact base h
    · exact base h
structure Kn where
  n : Nat
  ts : List T
def Kn.Ok (k : Kn) (ρ : List D) : Prop := ρ.length = k.n ∧ ∀ t ∈ k.ts, den ρ t = .bool true ∧ t.under k.n = true
def Kn.has (k : Kn) (t : T) : Bool := k.ts.any (T.beq t)
def Kn.add (k : Kn) (b : Bool) (t : T) : Kn := { k with ts := (t.pcs b).filter (T.under k.n) ++ k.ts }
theorem Kn.has_ok {k : Kn} {ρ : List D} (h : k.Ok ρ) {t : T} (ht : k.has t = true) : den ρ t = .bool true := by
  obtain ⟨s, hs, he⟩ := List.any_eq_true.1 ht
  rw [T.eq_of_beq he]; exact (h.2 s hs).1
theorem Kn.Ok.add_ok {k : Kn} {ρ : List D} (h : k.Ok ρ) {b : Bool} {t : T} (ht : den ρ t = .bool b) : (k.add b t).Ok ρ := by
  refine ⟨h.1, fun s hs => ?_⟩
  rcases List.mem_append.1 hs with hs | hs
  · exact ⟨T.pcs_ok ht s (List.mem_filter.1 hs).1, (List.mem_filter.1 hs).2⟩
  · exact h.2 s hs
def Kn.more (k : Kn) (m : Nat) : Kn := { k with n := k.n + m }
theorem T.under_mono {n m : Nat} (h : n ≤ m) : ∀ {t : T}, t.under n = true → t.under m = true := by
  intro t
  induction t <;> simp_all [T.under] <;> omega
theorem Kn.Ok.more_ok {k : Kn} {ρ : List D} (h : k.Ok ρ) {m : Nat} {ds : List D} (hd : ds.length = m) : (k.more m).Ok (ρ ++ ds) := by
  refine ⟨by simp [h.1, hd, Kn.more], fun t ht => ?_⟩
  obtain ⟨h1, h2⟩ := h.2 t ht
  exact ⟨by rw [T.under_ok (by rw [h.1]; exact h2)]; exact h1, T.under_mono (by simp [Kn.more]) h2⟩
def T.triv : T → Bool
  | .o2 .le (.int _ a) (.int _ b) => decide (a ≤ b)
  | .o2 .lt (.int _ a) (.int _ b) => decide (a < b)
  | .o2 .le (.int _ 0) (.o1 .len _) => true
  | .o2 .le (.o1 .len a) (.o1 .len b) => T.beq a b
  | .o2 .eq (.int _ a) (.int _ b) => decide (a = b)
  | .bool true => true
  | _ => false
theorem T.triv_ok {ρ : List D} {t : T} (h : t.triv = true) : den ρ t = .bool true := by
  unfold T.triv at h
  split at h
  · simp only [den, O2.eval]; simpa using h
  · simp only [den, O2.eval]; simpa using h
  · rename_i a
    simp only [den]
    cases den ρ a <;> simp [O1.eval, O2.eval]
  · rename_i a b
    rw [T.eq_of_beq h]
    simp only [den]
    cases den ρ b <;> simp [O1.eval, O2.eval]
  · simp only [den, O2.eval, D.eqb]; simpa using h
  · rfl
  · cases h
def Kn.fin (k : Kn) (t : T) : T := if t.triv || k.has t then .bool true else if k.has (.o1 .not t) && t.isB then .bool false else t
theorem Kn.fin_ok {k : Kn} {ρ : List D} (h : k.Ok ρ) {t : T} : den ρ (k.fin t) = den ρ t := by
  unfold Kn.fin
  split
  · rename_i ht
    simp only [Bool.or_eq_true] at ht
    rcases ht with ht | ht
    · rw [T.triv_ok ht]; rfl
    · rw [Kn.has_ok h ht]; rfl
  · split
    · rename_i ht
      simp only [Bool.and_eq_true] at ht
      have h1 := Kn.has_ok h ht.1
      obtain ⟨v, hv⟩ := T.isB_ok (ρ := ρ) ht.2
      simp only [den, hv, O1.eval] at h1
      cases v with
      | true => cases h1
      | false => rw [hv]; rfl
    · rfl
def Kn.red (k : Kn) : T → T
  | .ite c a b => match k.red c with
    | .bool true => k.red a
    | .bool false => k.red b
    | c' =>
      let a' := (k.add true c').red a
      let b' := (if c'.isB then k.add false c' else k).red b
      if T.beq a' b' then a' else k.fin (.ite c' a' b')
  | .o1 o a => k.fin (.o1 o (k.red a))
  | .o2 o a b => k.fin (.o2 o (k.red a) (k.red b))
  | .idx s i j kk => .idx (k.red s) (k.red i) j kk
  | .lcons a b => .lcons (k.red a) (k.red b)
  | .push a b => .push (k.red a) (k.red b)
  | .upd s i j e => .upd (k.red s) (k.red i) j (k.red e)
  | .sub s a b => .sub (k.red s) (k.red a) (k.red b)
  | .rep a b => .rep (k.red a) (k.red b)
  | .sel a b kk => .sel (k.red a) (k.red b) kk
  | .clo f e => .clo f (k.red e)
  | .ptr e => .ptr (k.red e)
  | .fld p j kk => .fld (k.red p) j kk
  | .padd p j => .padd (k.red p) j
  | .var i => k.fin (.var i)
  | t => t
open Classical in
theorem Kn.red_ok {ρ : List D} : ∀ {t : T} {k : Kn}, k.Ok ρ → den ρ (k.red t) = den ρ t := by
  intro t
  induction t with
  | ite c a b ihc iha ihb =>
    intro k h
    have hc := ihc h
    simp only [Kn.red]
    split
    · rename_i e; rw [e] at hc; simp only [den] at hc ⊢; rw [← hc, iha h]; rfl
    · rename_i e; rw [e] at hc; simp only [den] at hc ⊢; rw [← hc, ihb h]; rfl
    · have ha : den ρ c = .bool true → den ρ ((k.add true (k.red c)).red a) = den ρ a := fun e => iha (h.add_ok (by rw [hc]; exact e))
      have hb : den ρ c ≠ .bool true → den ρ ((if (k.red c).isB then k.add false (k.red c) else k).red b) = den ρ b := fun e => by
        refine ihb ?_
        split
        · rename_i hB
          obtain ⟨v, hv⟩ := T.isB_ok (ρ := ρ) hB
          refine h.add_ok ?_
          cases v with
          | true => rw [hc] at hv; exact absurd hv e
          | false => exact hv
        · exact h
      have hcond : ∀ x y : D, D.cond (den ρ c) x y = if den ρ c = .bool true then x else y := by
        intro x y
        cases den ρ c with
        | bool v => cases v <;> simp [D.cond]
        | _ => simp [D.cond]
      generalize (if (k.red c).isB then k.add false (k.red c) else k).red b = b' at hb
      generalize (k.add true (k.red c)).red a = a' at ha
      by_cases hq : T.beq a' b' = true
      · rw [if_pos hq]
        have hq := T.eq_of_beq hq
        simp only [den, hcond]
        split
        · rename_i e; exact ha e
        · rename_i e; rw [hq]; exact hb e
      · rw [if_neg hq, Kn.fin_ok h]
        simp only [den, hc, hcond]
        split
        · rename_i e; exact ha e
        · rename_i e; exact hb e
  | o1 o a ih => intro k h; simp only [Kn.red]; rw [Kn.fin_ok h]; simp only [den, ih h]
  | o2 o a b iha ihb => intro k h; simp only [Kn.red]; rw [Kn.fin_ok h]; simp only [den, iha h, ihb h]
  | var i => intro k h; simp only [Kn.red]; rw [Kn.fin_ok h]
  | _ => intro k h; simp_all [Kn.red, den]
def RT.red (k : Kn) : RT → RT
  | .d t => .d (k.red t)
  | .own e t => .own e (k.red t)
theorem RT.red_ok {k : Kn} {ρ : List D} (h : k.Ok ρ) (r : RT) : RT.den ρ (r.red k) = RT.den ρ r := by
  cases r <;> simp only [RT.red, RT.den, Kn.red_ok h]
def Fv.red (k : Kn) : Fv → Fv
  | .fn f => .fn f
  | .val t => .val (k.red t)
def R.opt (k : Kn) : R → R
  | .fail s => .fail s
  | .need t r => match k.red t with
    | .bool true => r.opt k
    | t' => .need t' (r.opt (k.add true t'))
  | .fact t r => match k.red t with
    | .bool true => r.opt k
    | t' => .fact t' (r.opt (k.add true t'))
  | .ite t a b => match k.red t with
    | .bool true => a.opt k
    | .bool false => b.opt k
    | t' => .ite t' (a.opt (k.add true t')) (b.opt (k.add false t'))
  | .lets ts r => .lets (ts.map k.red) (r.opt (k.more ts.length))
  | .call none f args res r => .call none (f.red k) (args.map k.red) res (r.opt (k.more (RK.all res).length))
  | .call (some c) f args res r => match k.red c with
    | .bool true => .call none (f.red k) (args.map k.red) res (r.opt (k.more (RK.all res).length))
    | c' => .call (some c') (f.red (k.add true c')) (args.map (k.add true c').red) res (r.opt (k.more (RK.all res).length))
  | .loop l i ks b => .loop l (i.map k.red) ks (b.opt (k.more ks.length))
  | .again l ts => .again l (ts.map k.red)
  | .leaf e xs => .leaf e xs
  | .ret rs => .ret (rs.map (RT.red k))
  | .callX u f args res r => .callX u f (args.map (RT.red k)) res (r.opt (k.more (RK.all res).length))
  | .yield args r => .yield (args.map k.red) (r.opt (k.more 1))
  | .guess t r => .guess (k.red t) (r.opt (k.more 1))
  | .iter l t i ks pk b d => .iter l (k.red t) (i.map k.red) ks pk (b.opt (k.more (ks.length + (pkKinds pk).length))) (d.opt (k.more ks.length))
theorem map_red {k : Kn} {ρ : List D} (h : k.Ok ρ) (ts : List T) : (ts.map k.red).map (den ρ) = ts.map (den ρ) := by
  rw [List.map_map]; exact List.map_congr_left fun t _ => Kn.red_ok h
theorem map_redRT {k : Kn} {ρ : List D} (h : k.Ok ρ) (rs : List RT) : (rs.map (RT.red k)).map (RT.den ρ) = rs.map (RT.den ρ) := by
  rw [List.map_map]; exact List.map_congr_left fun t _ => RT.red_ok h t
theorem RV.all_len : ∀ {res : List RK} {rvs : List RV} {rs : List D}, RV.all res rvs = some rs → rs.length = (RK.all res).length
  | [], [], _, h => by simp [RV.all] at h; subst h; rfl
  | [], _ :: _, _, h => by simp [RV.all] at h
  | _ :: _, [], _, h => by simp [RV.all] at h
  | k :: ks, v :: vs, rs, h => by
    simp only [RV.all] at h
    split at h <;> try contradiction
    rename_i a b ha hb
    cases h
    have h1 : a.length = k.kinds.length := by
      cases k with
      | cell k => cases v <;> simp [RV.cells] at ha <;> subst ha <;> rfl
      | any => cases v <;> simp [RV.cells] at ha <;> subst ha <;> rfl
      | own k => cases v <;> simp [RV.cells] at ha; obtain ⟨_, rfl⟩ := ha; rfl
      | agg k =>
        cases v with
        | d x => cases x <;> simp [RV.cells] at ha; obtain ⟨h, rfl⟩ := ha; exact h
        | _ => simp [RV.cells] at ha
    have h2 := RV.all_len hb
    simp only [RK.all, List.map_cons, List.flatten_cons, List.length_append] at h2 ⊢
    rw [h1, h2]
theorem callSays_red {P : Program} {k : Kn} {ρ : List D} (h : k.Ok ρ) {f : Fv} {args : List T} {res : List RK} {J J' : List D → Prop} (hJ : ∀ rs, rs.length = (RK.all res).length → J rs → J' rs) (hc : callSays P ρ (f.red k) (args.map k.red) res J) : callSays P ρ f args res J' := by
  cases f with
  | fn f =>
    obtain ⟨s, h1, h2⟩ := hc
    rw [map_red h] at h2
    exact ⟨s.up, h1.up, _, h2, fun rvs ⟨rs, g1, g2⟩ => ⟨rs, g1, hJ rs (RV.all_len g1) g2⟩⟩
  | val t =>
    obtain ⟨s, h1, h2⟩ := hc
    rw [map_red h] at h2
    rw [Kn.red_ok h] at h1
    refine ⟨s.up, ?_, _, h2, fun rvs ⟨rs, g1, g2, g3⟩ => ⟨rs, g1, g2, hJ rs (RV.all_len g1) g3⟩⟩
    simp only [FvC] at h1 ⊢
    split at h1
    · obtain ⟨h0, s', hs', hc⟩ := h1
      refine ⟨h0, s'.up, hs'.up, ?_⟩
      rintro as_ K ⟨K0, h3, h4⟩
      obtain ⟨g1, g2⟩ := hc _ _ h3
      exact ⟨⟨K0, g1, h4⟩, g2⟩
    · exact h1
theorem opt_ok {P : Program} {F : Option Nat → List RV → Prop} {K : Ags → List D → XExit → XS → Prop} : ∀ (r : R) {k : Kn} {ags : Ags} {ρ : List D}, k.Ok ρ → denR P F K (r.opt k) ags ρ → denR P F K r ags ρ := by
  intro r
  induction r with
  | fail => intro k ags ρ hk h; exact h
  | need t r ih =>
    intro k ags ρ hk h
    simp only [R.opt] at h
    have hr := Kn.red_ok (t := t) hk
    split at h
    · rename_i hc; rw [hc] at hr; exact ⟨hr.symm, ih hk h⟩
    · exact And.intro (by rw [← hr]; exact h.1) (ih (hk.add_ok h.1) h.2)
  | fact t r ih =>
    intro k ags ρ hk h
    simp only [R.opt] at h
    have hr := Kn.red_ok (t := t) hk
    split at h
    · intro _; exact ih hk h
    · intro ht
      rw [← hr] at ht
      exact ih (hk.add_ok ht) (h ht)
  | ite t a b iha ihb =>
    intro k ags ρ hk h
    simp only [R.opt] at h
    have hr := Kn.red_ok (t := t) hk
    split at h
    · rename_i hc; rw [hc] at hr; exact And.intro (fun _ => iha hk h) (fun (hf : den ρ t = .bool false) => by rw [← hr] at hf; cases hf)
    · rename_i hc; rw [hc] at hr; exact ⟨fun (hf : den ρ t = .bool true) => (by rw [← hr] at hf; cases hf), fun _ => ihb hk h⟩
    · refine ⟨fun ht => ?_, fun ht => ?_⟩
      · rw [← hr] at ht; exact iha (hk.add_ok ht) (h.1 ht)
      · rw [← hr] at ht; exact ihb (hk.add_ok ht) (h.2 ht)
  | lets ts r ih =>
    intro k ags ρ hk h
    simp only [R.opt, denR] at h
    rw [map_red hk] at h
    exact ih (hk.more_ok (by simp)) h
  | call g f args res r ih =>
    intro k ags ρ hk h
    cases g with
    | none =>
      simp only [R.opt, denR] at h
      exact callSays_red hk (fun rs hl h => ih (hk.more_ok hl) h) h
    | some c =>
      simp only [R.opt] at h
      have hr := Kn.red_ok (t := c) hk
      split at h
      · rename_i hc
        rw [hc] at hr
        simp only [denR] at h ⊢
        refine ⟨fun rs => denR P F K r ags (ρ ++ rs), fun _ => callSays_red hk (fun rs hl h => ih (hk.more_ok hl) h) h, fun (hf : den ρ c = .bool false) => (by rw [← hr] at hf; cases hf), fun rs _ h => h⟩
      · simp only [denR] at h ⊢
        obtain ⟨J, h1, h2, h3⟩ := h
        refine ⟨J, fun ht => ?_, fun hf => ?_, fun rs hks hj => ih (hk.more_ok hks.length) (h3 rs hks hj)⟩
        · rw [← hr] at ht
          exact callSays_red (hk.add_ok ht) (fun _ _ h => h) (h1 ht)
        · rw [← hr] at hf; exact h2 hf
  | loop l inits ks b ih =>
    intro k ags ρ hk h
    simp only [R.opt, denR] at h ⊢
    rw [map_red hk] at h
    obtain ⟨Inv, μ, h1, h2⟩ := h
    exact ⟨Inv, μ, h1, fun c xs a a' => ih (hk.more_ok a.length) (h2 c xs a a')⟩
  | again l ts =>
    intro k ags ρ hk h
    simp only [R.opt, denR] at h ⊢
    rw [map_red hk] at h; exact h
  | leaf e xs => intro k ags ρ hk h; exact h
  | ret rs =>
    intro k ags ρ hk h
    simp only [R.opt, denR] at h ⊢
    rw [map_redRT hk] at h; exact h
  | callX u f args res r ih =>
    intro k ags ρ hk h
    simp only [R.opt, denR] at h ⊢
    rw [map_redRT hk] at h
    obtain ⟨pk, s, h1, ht, hu, h2⟩ := h
    exact ⟨pk, s.up, h1.up, ht, hu, _, h2, fun rvs ⟨rs, g1, g2⟩ => ⟨rs, g1, ih (hk.more_ok (RV.all_len g1)) g2⟩⟩
  | yield args r ih =>
    intro k ags ρ hk h
    simp only [R.opt, denR] at h ⊢
    rw [map_red hk] at h
    obtain ⟨c, h1, h2, h3⟩ := h
    exact ⟨c, h1, h2, fun b => ih (hk.more_ok rfl) (h3 b)⟩
  | guess t r ih =>
    intro k ags ρ hk h b hb
    simp only [R.opt, denR] at h
    rw [Kn.red_ok hk] at h
    exact ih (hk.more_ok rfl) (h b hb)
  | iter l t i ks pk b d ihb ihd =>
    intro k ags ρ hk h
    simp only [R.opt, denR] at h ⊢
    rw [map_red hk, Kn.red_ok hk] at h
    obtain ⟨xs, h1, h2, Inv, h3, h4, h5⟩ := h
    refine ⟨xs, h1, h2, Inv, h3, fun i x fx c ys a1 a2 a3 a4 a5 => ?_, fun c ys a1 a2 => ihd (hk.more_ok a1.length) (h5 c ys a1 a2)⟩
    have := h4 i x fx c ys a1 a2 a3 a4 a5
    rw [List.append_assoc] at this ⊢
    exact ihb (hk.more_ok (by simp [a3.length, a4.length])) this
end Go.Sx
namespace Go.Sx
open Go Go.RowKit
def fnO (P : Program) (md : Mode) (f : FuncId) (pk : List PK) : R := (sxFn P md f pk).opt ⟨(pkKinds pk).length, []⟩
def fnXO (P : Program) (md : Mode) (f : FuncId) (pk : List PK) : R := (sxFnX P md f pk false).opt ⟨(pkKinds pk).length, []⟩
def fnItO (P : Program) (md : Mode) (f : FuncId) (pk : List PK) : R := (sxFnIt P md f pk).opt ⟨(pkKinds pk).length, []⟩
def noK : Ags → List D → XExit → XS → Prop := fun _ _ _ _ => False
inductive Small : D → Prop
  | int {k : IntKind} {n : Int} : Small (.int k n)
  | bool {b : Bool} : Small (.bool b)
  | str {s : List UInt8} (h : s.length ≤ cap) : Small (.str s)
  | slice {xs : List (List D)} (h : xs.length ≤ cap) (he : ∀ x ∈ xs, ∀ d ∈ x, Small d) : Small (.slice xs)
  | clo {f : FuncId} {cs : List D} (h : ∀ d ∈ cs, Small d) : Small (.clo f cs)
  | agg {cs : List D} (h : ∀ d ∈ cs, Small d) : Small (.agg cs)
  | ptr {cs : List D} (h : ∀ d ∈ cs, Small d) : Small (.ptr cs)
theorem Small.str_iff {s : List UInt8} : Small (.str s) ↔ s.length ≤ 140737488355328 := ⟨fun h => by cases h; assumption, fun h => .str h⟩
theorem RepD.small {m : Mem} {d : D} {v : Value} (h : RepD m d v) : Small d := by
  have at_ : ∀ {l : List D} {n : Nat} {arr : Array Value}, n + l.length ≤ arr.size → (∀ (j : Nat) d v, l[j]? = some d → arr[n + j]? = some v → Small d) → ∀ d ∈ l, Small d := by
    intro l n arr hn hv d hd
    obtain ⟨j, hj⟩ := List.mem_iff_getElem?.1 hd
    have hlt := (List.getElem?_eq_some_iff.1 hj).1
    exact hv j d _ hj (Array.getElem?_eq_getElem (by omega))
  induction h with
  | int => exact .int
  | bool => exact .bool
  | str s h => exact .str h
  | empty => exact .slice (by simp) (by simp)
  | slice xs b off arr t fz e c hc hcap hm he hsz _ ih =>
    refine .slice hcap fun x hx => ?_
    obtain ⟨i, hi⟩ := List.mem_iff_getElem?.1 hx
    have hlt := (List.getElem?_eq_some_iff.1 hi).1
    have hxl := he x hx
    refine at_ (n := off + i * e) (arr := arr) ?_ (fun j d v h1 h2 => ih i j x d v hi h1 (by rw [← h2]))
    have : (i + 1) * e ≤ xs.length * e := Nat.mul_le_mul_right _ hlt
    rw [Nat.add_mul, Nat.one_mul] at this
    omega
  | clo f caps arr hsz _ ih => exact .clo (at_ (n := 0) (arr := arr) (by omega) fun j d v h1 h2 => ih j d v h1 (by simpa using h2))
  | agg cs arr hsz _ ih => exact .agg (at_ (n := 0) (arr := arr) (by omega) fun j d v h1 h2 => ih j d v h1 (by simpa using h2))
  | ptr cs b off arr t fz hm hsz _ ih => exact .ptr (at_ (n := off) (arr := arr) hsz ih)
theorem Contract.weaken_small {P : Program} {f : FuncId} {s s' : Spec} (h : Contract P f s) (hs : ∀ args K, ArgsTyped P f args → (∀ d ∈ args, Small d) → s' args K → s args K) : Contract P f s' :=
  ⟨h.1, fun args K h' ht w m vs hm hsz hv => h.2 args K (hs args K ht (fun d hd => by
    obtain ⟨i, hi⟩ := List.mem_iff_getElem?.1 hd
    have hlt := (List.getElem?_eq_some_iff.1 hi).1
    exact (hv i d _ hi (Array.getElem?_eq_getElem (by omega))).small) h') ht w m vs hm hsz hv⟩
theorem Contract.of {P : Program} {md : Mode} {f : FuncId} {pk : List PK} {s : Spec} {t : R} (hcl : callable P f = true) (ht : fnO P md f pk = t)
    (h : ∀ args K, s args K → (∀ d ∈ args, Small d) → ∃ ρ, pkRho pk args = some ρ ∧ HasKs (pkKinds pk) ρ ∧ denR P (fun _ rs => K rs) noK t .none ρ) : Contract P f s := by
  refine (fn_ok P md f pk hcl).weaken_small fun args K _ hsm hs => ?_
  obtain ⟨ρ, h1, h2, h3⟩ := h args K hs hsm
  rw [← ht] at h3
  exact ⟨ρ, h1, h2, opt_ok _ ⟨h2.length, by simp⟩ h3⟩
theorem ContractX.of {P : Program} {md : Mode} {f : FuncId} {pk : List PK} {s : SpecX} {t : R} (hcl : callable P f = true) (ht : fnXO P md f pk = t)
    (h : ∀ args K, s args K → ∃ ρ, pkRhoX pk args = some ρ ∧ HasKs (pkKinds pk) ρ ∧ denR P (fun _ rs => K rs) noK t .none ρ) : ContractX P f pk false s := by
  refine ⟨hcl, fun args K hs => (fnX_ok P md f pk hcl).2 args K ?_⟩
  obtain ⟨ρ, h1, h2, h3⟩ := h args K hs
  rw [← ht] at h3
  exact ⟨ρ, h1, h2, opt_ok _ ⟨h2.length, by simp⟩ h3⟩
theorem IterC.of {P : Program} {md : Mode} {f : FuncId} {pk : List PK} {caps ρ : List D} {zs : List (List D)} {t : R} (hcl : callable P f = true) (ht : fnItO P md f pk = t) (hρ : pkRho pk caps = some ρ) (hks : HasKs (pkKinds pk) ρ)
    (h : denR P (fun c _ => c = none ∨ c = some zs.length) noK t ⟨fun _ _ _ => False, zs, some 0⟩ ρ) : IterC P (.clo f caps) zs := by
  rw [← ht] at h
  exact fnIt_ok hcl hρ hks (opt_ok _ ⟨hks.length, by simp⟩ h)
end Go.Sx
