/-
 Part 8 of the proof: the executor over the kit's code with its soundness, or contracts of functions.
-/
import Derived.Test.YthlobibofbddeaaGreatDoorNEg
import Derived.Test.YthlobibofbddeaaGreatDoorSorti
import Derived.Test.YthlobibofbddeaaGreatDoorSortb
set_option linter.unusedSimpArgs false
set_option linter.unusedVariables false
set_option linter.unusedSectionVars false
set_option linter.defProp false
set_option maxRecDepth 100000
namespace Go.Sx.La
open Go Go.Sx Go.RowKit Go.Proofs
noncomputable def t212 : R := let x1 : List K := [.int .i64, .int .i64, .int .i64, .int .i64, .int .i64, .int .i64]; let x2 : List K := [.int .i64, .int .i64, .int .i64, .int .i64, .int .i64]; let x0 : T := .fld (.padd (.var 1) 2) 0 (.slice [.str, .str, .slice x2, .slice x1, .bool, .bool, .int .i64, .str, .int .i64]); .loop 0 [.fld (.var 0) 0 (.int .i64)] [.int .i64] (.ite (.o2 .ge (.var 2) (.int .i64 0)) (.need (.o2 .le (.int .i64 0) (.var 2)) (.need (.o2 .lt (.var 2) (.o1 .len x0)) (.yield [.lcons (.idx x0 (.var 2) 0 .str) (.lcons (.idx x0 (.var 2) 1 .str) (.lcons (.idx x0 (.var 2) 2 (.slice x2)) (.lcons (.idx x0 (.var 2) 3 (.slice x1)) (.lcons (.idx x0 (.var 2) 4 .bool) (.lcons (.idx x0 (.var 2) 5 .bool) (.lcons (.idx x0 (.var 2) 6 (.int .i64)) (.lcons (.idx x0 (.var 2) 7 .str) (.lcons (.idx x0 (.var 2) 8 (.int .i64)) .lnil))))))))] (.ite (.ite (.o1 .not (.var 3)) (.bool true) (.idx x0 (.var 2) 4 .bool)) (.ret []) (.again 0 [.o2 (.sub .i64) (.var 2) (.int .i64 1)]))))) (.ret []))
theorem i64_one {v : Int} (h : I64 v) : HasKs [.int .i64] [.int .i64 v] := ⟨i64_has h, trivial⟩
def backL (cs : List Cue) : Nat → List Cue
 | 0 => []
 | n + 1 => match cs[n]? with
   | none => []
   | some c => c :: if c.block then [] else backL cs n
structure RightT (l : Lis) : Prop where
 ok : l.Ok
 len : l.cues.length ≤ 64
 moves : ∀ c ∈ l.cues, RightM c.moves
theorem rightT_of {l : Lis} (hl : l.Ok) (h : checkL order05 l = 0) : RightT l :=
 have hR := rightL_of h
 ⟨hl, hR.len, fun c hc => rightM_of (check16_moves (hR.cues c hc))⟩
def lastM (cs : List Cue) (p : Par) (n : Nat) : Option Mov := (backL cs n).findSome? fun c => mfind c.moves p
def valued (cs : List Cue) (p : Par) (n : Nat) : Val := ((lastM cs p n).map (·.va)).getD hval
def numbered18 (l : Lis) (s : List UInt8) : Int := if check05 s ≠ 0 then check05 s else if place l.cues s < 0 then 6 else 0
def cue18 (l : Lis) (s : List UInt8) : Int := if checkL order05 l ≠ 0 then checkL order05 l else numbered18 l s
def upto (l : Lis) (s : List UInt8) : Nat := (place l.cues s + 1).toNat
theorem place_ge (cs : List Cue) (s : List UInt8) : -1 ≤ place cs s ∧ place cs s < cs.length ∨ place cs s = -1 := by
 by_cases h : place cs s < 0
 · unfold place at h ⊢
   rcases idxGo_spec (fun c : Cue => c.num == s) cs 0 with ⟨h1, h2⟩ | ⟨j, hj, h1, h2, h3⟩
   · exact .inr h1
   · rw [h1] at h; omega
 · obtain ⟨j, hj, h1, _⟩ := place_pos h
   exact .inl ⟨by omega, by omega⟩
theorem numbered18_zero {l : Lis} {s : List UInt8} (h : numbered18 l s = 0) : check05 s = 0 ∧ 0 ≤ place l.cues s := by
 unfold numbered18 at h
 split at h
 · contradiction
 split at h
 · cases h
 · exact ⟨by simp_all, by omega⟩
theorem upto_le (l : Lis) (s : List UInt8) : upto l s ≤ l.cues.length := by
 unfold upto
 rcases place_ge l.cues s with h | h
 · omega
 · rw [h]; omega
theorem upto_place {l : Lis} {s : List UInt8} (h : 0 ≤ place l.cues s) : place l.cues s = (upto l s : Int) - 1 ∧ 0 < upto l s := by
 unfold upto; omega
def moved? (p : Par) (c : Cue) : Bool := (mfind c.moves p).isSome
def origR (l : Lis) (s : List UInt8) (p : Par) : List UInt8 × Bool × Int :=
 if cue18 l s ≠ 0 then ([], false, cue18 l s) else if param15 p ≠ 0 then ([], false, param15 p) else
 match (backL l.cues (upto l s)).find? (moved? p) with
 | some c => (c.num, true, 0)
 | none => ([], false, 0)
theorem cue18_right {l : Lis} {s : List UInt8} (hl : l.Ok) (h : cue18 l s = 0) : RightT l ∧ check05 s = 0 ∧ 0 ≤ place l.cues s ∧ place l.cues s = (upto l s : Int) - 1 ∧ 0 < upto l s ∧ upto l s ≤ l.cues.length := by
 unfold cue18 at h
 split at h
 · contradiction
 rename_i h1
 obtain ⟨h2, h3⟩ := numbered18_zero h
 exact ⟨rightT_of hl (by simpa using h1), h2, h3, (upto_place h3).1, (upto_place h3).2, upto_le l s⟩
def mplace (ms : List Mov) (p : Par) : Int := idxGo (fun m => decide (m.pa = p)) 0 ms
def src (cs : List Cue) (p : Par) : Nat → Int
 | 0 => -1
 | n + 1 => match cs[n]? with
   | none => -1
   | some c => if moved? p c then n else if c.block then -1 else src cs p n
noncomputable def t204 : R := .guess (.o2 .eq (.o1 .len (.var 0)) (.int .i64 0)) (.ite (.var 1) (.ret [.own 2 .nils]) (.need (.o2 .le (.o1 .len (.o2 .app .nils (.var 0))) (.int .i64 5864062014805)) (.ret [.own 2 (.o2 .app .nils (.var 0))])))
theorem t204_ok : fnO Tryz.prog mdF 204 [.cell (.slice [.str, .int .i64])] = t204 := by kernel_rfl
theorem c204 : callable Tryz.prog 204 = true := by kernel_rfl
noncomputable def t170 : R := .call none (.fn 204) [.var 0] [.own [.str, .int .i64]] (.call none (.fn 156) [.var 2, .var 1] [.cell (.int .i64), .cell .bool] (.ite (.o1 .not (.var 4)) (.callX false 205 [.own 2 (.var 2), .d (.var 3), .own 2 (.push .nils (.lcons (.var 1) (.lcons (.int .i64 1) .lnil)))] [.own [.str, .int .i64]] (.ret [.own 2 (.var 5)])) (.need (.o2 .le (.int .i64 0) (.var 3)) (.need (.o2 .lt (.var 3) (.o1 .len (.var 2))) (.ret [.own 2 (.upd (.var 2) (.var 3) 1 (.lcons (.o2 (.add .i64) (.idx (.var 2) (.var 3) 1 (.int .i64)) (.int .i64 1)) .lnil))])))))
theorem t170_ok : fnO Tryz.prog mdF 170 [.cell (.slice [.str, .int .i64]), .cell .str] = t170 := by kernel_rfl
theorem c170 : callable Tryz.prog 170 = true := by kernel_rfl
noncomputable def t169 : R := .ret [.d (.o2 .eq (.var 0) (.fld (.padd (.var 9) 7) 0 .str))]
theorem t169_ok : fnO Tryz.prog mdA 169 ([.agg [.str, .str, .slice [.int .i64, .int .i64, .int .i64, .int .i64, .int .i64], .slice [.int .i64, .int .i64, .int .i64, .int .i64, .int .i64, .int .i64], .bool, .bool, .int .i64, .str, .int .i64]] ++ [.cell (.ptr cueKs)]) = t169 := by kernel_rfl
theorem c169 : callable Tryz.prog 169 = true := by kernel_rfl
noncomputable def t112 : R := let x0 : T := .idx (.var 0) (.var 2) 8 (.int .i64); let x1 : T := .lcons (.var 3) .lnil; let x2 : T := .o2 (.add .i64) (.var 2) (.int .i64 1); let x3 : T := .o1 .len (.var 0); let x4 : T := .o2 .ge (.var 4) (.int .i64 0); .need (.o2 .le (.int .i64 0) (.var 2)) (.need (.o2 .lt (.var 2) x3) (.call none (.fn 97) [.var 0, .clo 169 (.lcons (.ptr (.lcons (.idx (.var 0) (.var 2) 0 .str) (.lcons (.idx (.var 0) (.var 2) 1 .str) (.lcons (.idx (.var 0) (.var 2) 2 (.slice [.int .i64, .int .i64, .int .i64, .int .i64, .int .i64])) (.lcons (.idx (.var 0) (.var 2) 3 (.slice [.int .i64, .int .i64, .int .i64, .int .i64, .int .i64, .int .i64])) (.lcons (.idx (.var 0) (.var 2) 4 .bool) (.lcons (.idx (.var 0) (.var 2) 5 .bool) (.lcons (.idx (.var 0) (.var 2) 6 (.int .i64)) (.lcons (.idx (.var 0) (.var 2) 7 .str) (.lcons x0 .lnil)))))))))) .lnil)] [.cell (.int .i64)] (.call (some (.o2 .band x4 (.o1 .not (.o2 .eq x0 (.int .i64 0))))) (.fn 105) [.var 1, .idx (.var 0) (.var 2) 0 .str] [.cell (.int .i64)] (.ite (.ite x4 (.ite (.o2 .eq x0 (.int .i64 0)) (.bool true) (.o2 .lt (.var 5) x0)) (.bool false)) (.ite (.o2 .gt x0 (.int .i64 0)) (.call none (.fn 170) [.var 1, .idx (.var 0) (.var 2) 0 .str] [.cell (.slice [.str, .int .i64])] (.ret [.d (.bool true), .box (.lcons (.var 0) (.lcons (.var 6) (.lcons (.var 4) (.lcons (.o2 (.add .i64) (.var 3) (.int .i64 1)) .lnil))))])) (.ret [.d (.bool true), .box (.lcons (.var 0) (.lcons (.var 1) (.lcons (.var 4) x1)))])) (.fact (.o2 .le x3 (.int .i64 140737488355328)) (.ite (.o2 .eq x2 x3) (.ret [.d (.bool false), .box (.lcons (.var 0) (.lcons (.var 1) (.lcons (.var 2) x1)))]) (.ret [.d (.bool true), .box (.lcons (.var 0) (.lcons (.var 1) (.lcons x2 x1)))])))))))
theorem t112_ok : fnUO Tryz.prog mdF 112 [.box wkKs] = t112 := by kernel_rfl
theorem c112 : callable Tryz.prog 112 = true := by kernel_rfl
noncomputable def t92 : R := .call none (.fn 130) [.lcons (.var 0) (.lcons (.var 1) (.lcons (.var 2) .lnil)), .var 3] [.cell (.int .i64), .cell .bool, .cell (.int .i64)] (.ite (.o2 .ne (.var 6) (.int .i64 0)) (.ret [.d (.int .i64 0), .d (.var 6)]) (.ite (.o1 .not (.var 5)) (.ret [.d (.int .i64 0), .d (.int .i64 6)]) (.ret [.d (.var 4), .d (.int .i64 0)])))
theorem t92_ok : fnO Tryz.prog mdA 92 [.agg [.int .i64, .int .i64, .slice [.str, .str, .slice [.int .i64, .int .i64, .int .i64, .int .i64, .int .i64], .slice [.int .i64, .int .i64, .int .i64, .int .i64, .int .i64, .int .i64], .bool, .bool, .int .i64, .str, .int .i64]], .cell .str] = t92 := by kernel_rfl
theorem c92 : callable Tryz.prog 92 = true := by kernel_rfl
noncomputable def t93 : R := .ret [.d (.clo 134 (.lcons (.ptr (.lcons (.var 0) (.lcons (.var 1) (.lcons (.var 2) .lnil)))) (.lcons (.ptr (.lcons (.var 3) .lnil)) .lnil)))]
theorem t93_ok : fnO Tryz.prog mdA 93 [.agg [.int .i64, .int .i64, .slice [.str, .str, .slice [.int .i64, .int .i64, .int .i64, .int .i64, .int .i64], .slice [.int .i64, .int .i64, .int .i64, .int .i64, .int .i64, .int .i64], .bool, .bool, .int .i64, .str, .int .i64]], .cell (.int .i64)] = t93 := by kernel_rfl
theorem c93 : callable Tryz.prog 93 = true := by kernel_rfl
theorem loops_of {c : Cue} (h : check16 c = 0) : 0 ≤ c.loops ∧ c.loops ≤ 100 := by
 have hn : next16 c = 0 := by
   simp only [check16] at h
   split at h
   · rename_i h1; exact absurd h h1
   split at h
   · rename_i h1; exact absurd h h1
   split at h
   · rename_i h1; exact absurd h h1
   split at h
   · rename_i h1; exact absurd h h1
   split at h
   · cases h
   · exact h
 unfold next16 at hn
 split at hn
 · cases hn
 split at hn
 · rename_i h1; exact absurd hn h1.2
 split at hn
 · cases hn
 · omega
theorem rightW_of {l : Lis} (h : checkL order05 l = 0) : RightW l.cues :=
 have hR := rightL_of h
 ⟨hR.rising, hR.num, fun c hc => loops_of (hR.cues c hc), hR.len⟩
theorem cnt_i64 {k : List Cnt} (hk : ∀ c ∈ k, c.Ok) (s : List UInt8) : I64 (cnt k s) := by
 by_cases h : cnt k s = 0
 · rw [h]; exact ⟨by omega, by omega⟩
 · obtain ⟨c, hc, _, e⟩ := cnt_some h
   rw [e]; exact hk c hc
def boxW (cs : List Cue) (k : List Cnt) (a g : Int) : List D := [.slice (cs.map Cue.enc), .slice (k.map Cnt.enc), .int .i64 a, .int .i64 g]
theorem cloneN_ok : Contract Tryz.prog 204 fun args K => ∃ k : List Cnt, (∀ c ∈ k, c.Ok) ∧ k.length ≤ 1000000 ∧ args = [.slice (k.map Cnt.enc)] ∧ K [.own 2 (k.map Cnt.enc)] := by
 refine .of c204 t204_ok ?_
 rintro _ K ⟨k, hk, hlen, rfl, hK⟩ hsm
 refine ⟨[.slice (k.map Cnt.enc)], rfl, ⟨cnts_has hk, trivial⟩, ?_⟩
 unfold t204
 simp only [denR]
 intro b hb
 simp only [zz, reduceCtorEq, List.length_map]
 cases b with
 | true =>
   have := hb rfl
   simp only [zz, reduceCtorEq, List.length_map] at this
   have hk0 : k = [] := List.length_eq_zero_iff.1 (by omega)
   subst hk0
   exact ⟨fun _ => hK, fun h => by simp at h⟩
 | false => exact ⟨fun h => by simp at h, fun _ => ⟨by omega, hK⟩⟩
theorem ins_enc {k : List Cnt} {s : List UInt8} (hs : check05 s = 0) (hr : RisingC k) (hn : ∀ c ∈ k, check05 c.cue = 0) (h : (k.any fun c => c.cue == s) = false) : (insC s k).map Cnt.enc = (k.map Cnt.enc).take (lowC k s) ++ [.str s, .int .i64 1] :: (k.map Cnt.enc).drop (lowC k s) := by
 have hc := cnt_low hs hr hn
 rw [h] at hc
 have h0 : cnt k s = 0 := by simpa using hc
 unfold insC
 rw [insC_low hs _ rfl hr hn, h, h0]
 simp [Cnt.enc, List.map_take, List.map_drop]
theorem upd_enc {k : List Cnt} {s : List UInt8} (hs : check05 s = 0) (hr : RisingC k) (hn : ∀ c ∈ k, check05 c.cue = 0) (h : (k.any fun c => c.cue == s) = true) (hlt : lowC k s < k.length) :
   (k.map Cnt.enc).modify (lowC k s) (fun x => setCells x 1 [.int .i64 (k[lowC k s].n + 1)]) = (insC s k).map Cnt.enc := by
 have hc := cnt_low hs hr hn
 have hh := low_has hs hr hn
 rw [h, List.getElem?_eq_getElem hlt] at hc hh
 have h0 : cnt k s = k[lowC k s].n := by simpa using hc
 have hq : k[lowC k s].cue = s := by simpa using hh.symm
 unfold insC
 rw [insC_low hs _ rfl hr hn, h, h0, modify_at (by simpa using hlt)]
 simp [Cnt.enc, List.map_take, List.map_drop, setCells, hq]
theorem counted_ok : Contract Tryz.prog 170 fun args K => ∃ (k : List Cnt) (s : List UInt8), (∀ c ∈ k, c.Ok) ∧ (∀ c ∈ k, check05 c.cue = 0) ∧ RisingC k ∧ check05 s = 0 ∧ k.length ≤ 1000000 ∧ I64 (cnt k s + 1) ∧
   args = [.slice (k.map Cnt.enc), .str s] ∧ K [.own 2 ((insC s k).map Cnt.enc)] := by
 refine .of c170 t170_ok ?_
 rintro _ K ⟨k, s, hk, hn, hr, hs, hlen, h64, rfl, hK⟩ hsm
 refine ⟨[.slice (k.map Cnt.enc), .str s], rfl, ⟨cnts_has hk, trivial, trivial⟩, ?_⟩
 refine denR_call cloneN_ok ⟨k, hk, hlen, rfl, _, rfl, ?_⟩
 refine denR_call fsearch_ok ⟨k, s, hk, hn, hr, hs, by simp only [zz, reduceCtorEq], _, rfl, ?_⟩
 cases hb : (k.any fun c => c.cue == s) with
 | false =>
   rw [ins_enc hs hr hn hb] at hK
   have hle := lowC_le k s
   refine denR_iteT (by simp only [zz, reduceCtorEq]) ?_
   refine denR_callX insert_ok ⟨[.slice (k.map Cnt.enc), .int .i64 (lowC k s), .slice [[.str s, .int .i64 1]]], by simp only [zz, reduceCtorEq]; rfl, ?_⟩ (fun h => by cases h) ⟨k.map Cnt.enc, lowC k s, [.str s, .int .i64 1], by simpa using hle, by simpa using hlen, by simp only [zz, reduceCtorEq], _, rfl, ?_⟩
   · exact ⟨cnts_has hk, i64_has ⟨by omega, by omega⟩, by intro x hx; simp at hx; subst hx; exact ⟨trivial, i64_has ⟨by omega, by omega⟩, trivial⟩, trivial⟩
   · simp only [zz, reduceCtorEq]; exact hK
 | true =>
   have hh := low_has hs hr hn
   have hlt : lowC k s < k.length := by
     rcases Nat.lt_or_ge (lowC k s) k.length with h | h
     · exact h
     · rw [hb, List.getElem?_eq_none h] at hh; cases hh
   have hc := cnt_low hs hr hn
   rw [hb, List.getElem?_eq_getElem hlt] at hc
   have hcn : cnt k s = k[lowC k s].n := by simpa using hc
   rw [← upd_enc hs hr hn hb hlt] at hK
   refine denR_iteF (by simp only [zz, reduceCtorEq]) ?_
   simp only [zz, reduceCtorEq, List.length_map, hlt, getD_map hlt, Cnt.enc, D.upd, wr64_eq (hcn ▸ h64)]
   exact ⟨by omega, hK⟩
theorem isLink_ok : Contract Tryz.prog 169 fun args K => ∃ (x c : Cue), x.Ok ∧ c.Ok ∧ args = [.agg x.enc, .ptr c.enc] ∧ K [.d (.bool (x.num == c.link))] := by
 refine .of c169 t169_ok ?_
 rintro _ K ⟨x, c, hx, hc, rfl, hK⟩ hsm
 refine ⟨x.enc ++ [.ptr c.enc], rfl, by exact (Cue.has hx).append (show HasKs [.ptr cueKs] [.ptr c.enc] from ⟨Cue.has hc, trivial⟩), ?_⟩
 simp only [zz, reduceCtorEq, t169, Cue.enc, D.cells, D.padd, D.cell, List.drop_zero, List.drop_succ_cons]
 exact hK
theorem isLink_says (l : List Cue) (hl : ∀ c ∈ l, c.Ok) {c : Cue} (hc : c.Ok) : SaysOf Tryz.prog (.clo 169 [.ptr c.enc]) Cue.enc l (fun x => x.num == c.link) := by
 refine ⟨fun as_ K => ∃ x : Cue, x.Ok ∧ as_ = [.agg x.enc] ∧ K [.d (.bool (x.num == c.link))], FvC.of c169 isLink_ok ?_, fun x hx => ⟨x, hl x hx, rfl, rfl⟩⟩
 rintro _ K ⟨x, hx, rfl, hK⟩
 refine ⟨⟨x, c, hx, hc, rfl, hK⟩, argsTyped_of [some (.agg cueKs)] (by kernel_rfl) ?_⟩
 intro i rk d h1 h2
 cases i with
 | zero => simp at h1 h2; subst h1 h2; exact Cue.has hx
 | succ i => simp at h1
def stepRV (cs : List Cue) (w : Wk) : List RV := match stepW cs w with
 | some v => [.d (.bool true), .box (boxW cs v.k v.a v.g)]
 | none => [.d (.bool false), .box (boxW cs w.k w.a w.g)]
theorem step_ok : ContractX Tryz.prog 112 [.box wkKs] true fun args K => ∃ (cs : List Cue) (w : Wk), (∀ c ∈ cs, c.Ok) ∧ RightW cs ∧ w.a < cs.length ∧ (∀ c ∈ w.k, c.Ok) ∧ (∀ c ∈ w.k, check05 c.cue = 0) ∧ RisingC w.k ∧ w.k.length ≤ 1000000 ∧ w.g ≤ 1000000 ∧
   args = [.box (boxW cs w.k w.a w.g)] ∧ K (stepRV cs w) := by
 refine .ofU c112 t112_ok ?_
 rintro _ K ⟨cs, w, hcs, hR, ha, hk, hn, hr, hlen, hg, rfl, hK⟩
 have hcl := hR.len
 refine ⟨boxW cs w.k w.a w.g, by simp [pkRhoX, boxW, wkKs], ⟨cues_has hcs, cnts_has hk, i64_has ⟨by omega, by omega⟩, i64_has ⟨by omega, by omega⟩, trivial⟩, ?_⟩
 simp only [zz, reduceCtorEq, t112, boxW, List.length_map]
 refine ⟨by omega, ha, ?_⟩
 have hc := hcs _ (List.getElem_mem ha)
 refine denR_call indexCue_ok ⟨cs, fun x => x.num == (cs[w.a]).link, 169, [.ptr (cs[w.a]).enc], hcs, by simp only [zz, reduceCtorEq, getD_map ha, Cue.enc], isLink_says cs hcs hc, _, rfl, ?_⟩
 have hpl : idxGo (fun x : Cue => x.num == (cs[w.a]).link) 0 cs = place cs (cs[w.a]).link := rfl
 rw [hpl]
 have hnum := hR.num _ (List.getElem_mem ha)
 have hloops := hR.loops _ (List.getElem_mem ha)
 have hstep : stepRV cs w = if follows cs cs[w.a] w.k = true then [.d (.bool true), .box (boxW cs (moreC cs[w.a] w.k) (place cs (cs[w.a]).link).toNat ((if 0 < (cs[w.a]).loops then w.g + 1 else w.g : Nat) : Int))] else
     if w.a + 1 = cs.length then [.d (.bool false), .box (boxW cs w.k w.a w.g)] else [.d (.bool true), .box (boxW cs w.k ((w.a + 1 : Nat) : Int) w.g)] := by
   unfold stepRV stepW
   rw [List.getElem?_eq_getElem ha]
   simp only
   split
   · rename_i v hv
     split at hv
     · rename_i hf
       obtain rfl := Option.some.inj hv
       rw [if_pos hf]
     · rename_i hf
       rw [if_neg hf]
       split at hv
       · cases hv
       · rename_i he
         obtain rfl := Option.some.inj hv
         rw [if_neg he]
   · rename_i hv
     split at hv
     · cases hv
     · rename_i hf
       rw [if_neg hf]
       split at hv
       · rename_i he; rw [if_pos he]
       · cases hv
 rw [hstep] at hK
 clear hstep
 have hpi : 0 ≤ place cs (cs[w.a]).link → ((place cs (cs[w.a]).link).toNat : Int) = place cs (cs[w.a]).link := fun h => by omega
 have hfol : follows cs cs[w.a] w.k = (decide (0 ≤ place cs (cs[w.a]).link) && (decide ((cs[w.a]).loops = 0) || decide (cnt w.k (cs[w.a]).num < (cs[w.a]).loops))) := rfl
 have hci := cnt_i64 hk (cs[w.a]).num
 generalize hce : cs[w.a] = c at *
 have hget : (cs.map Cue.enc).getD w.a [] = c.enc := by rw [getD_map ha, hce]
 generalize hP : place cs c.link = p at *
 refine denR_gcall fcount_ok (decide (0 ≤ p) && !decide (c.loops = 0)) [.int .i64 (if (decide (0 ≤ p) && !decide (c.loops = 0)) = true then cnt w.k c.num else 0)] (by simp only [zz, reduceCtorEq, hget, Cue.enc]) (fun h => ⟨w.k, c.num, hk, hn, hr, hnum, by simp only [zz, reduceCtorEq, hget, Cue.enc], by rw [if_pos h]; rfl⟩) (fun h => by rw [h]; rfl) ?_
 simp only [zz, reduceCtorEq, hget, Cue.enc, List.length_map]
 have hf : follows cs c w.k = true ↔ (0 ≤ p ∧ (c.loops = 0 ∨ cnt w.k c.num < c.loops)) := by rw [hfol]; simp
 refine ⟨fun ⟨h1, h2⟩ => ?_, fun h hcap => ?_⟩
 · have h3 : c.loops = 0 ∨ cnt w.k c.num < c.loops := by
     rcases h2 with h2 | h2
     · exact .inl h2
     · by_cases h0 : c.loops = 0
       · exact .inl h0
       · rw [if_pos ⟨h1, h0⟩] at h2; exact .inr h2
   rw [if_pos (hf.2 ⟨h1, h3⟩), hpi h1] at hK
   refine ⟨fun hl => ?_, fun hl => ?_⟩
   · have hlt : cnt w.k c.num < c.loops := by rcases h3 with h3 | h3 <;> omega
     have hm : moreC c w.k = insC c.num w.k := by simp [moreC, hl]
     have hgw : wr64 ((w.g : Int) + 1) = ((w.g + 1 : Nat) : Int) := by rw [wr64_eq] <;> omega
     rw [if_pos hl, hm] at hK
     refine denR_call counted_ok ⟨w.k, c.num, hk, hn, hr, hnum, hlen, ⟨by have := hci.1; omega, by omega⟩, by simp only [zz, reduceCtorEq, hget, Cue.enc], _, rfl, ?_⟩
     simp only [zz, reduceCtorEq, hgw]
     exact hK
   · have hm : moreC c w.k = w.k := by simp [moreC, hl]
     rw [if_neg hl, hm] at hK; exact hK
 · have hnf : follows cs c w.k ≠ true := fun hft => by
     obtain ⟨h1, h2⟩ := hf.1 hft
     rcases h with h | ⟨h3, h4⟩
     · exact h h1
     · rw [if_pos ⟨h1, h3⟩] at h4
       rcases h2 with h2 | h2
       · exact h3 h2
       · exact h4 h2
   rw [if_neg hnf] at hK
   have hw : wr64 ((w.a : Int) + 1) = ((w.a + 1 : Nat) : Int) := by rw [wr64_eq] <;> omega
   rw [hw]
   refine ⟨fun h => ?_, fun h => ?_⟩
   · rw [if_pos (by omega)] at hK; exact hK
   · rw [if_neg (by omega)] at hK; exact hK
def placeF (l : Lis) (s : List UInt8) : Int := if cue18 l s = 0 then place l.cues s else 0
theorem fplace_ok : Contract Tryz.prog 92 fun args K => ∃ (l : Lis) (s : List UInt8), l.Ok ∧ args = [.agg l.enc, .str s] ∧ K [.d (.int .i64 (placeF l s)), .d (.int .i64 (cue18 l s))] := by
 refine .of c92 t92_ok ?_
 rintro _ K ⟨l, s, hl, rfl, hK⟩ hsm
 refine ⟨l.enc ++ [.str s], rfl, by exact has_s hl, ?_⟩
 refine denR_call findR_ok ⟨l, s, hl, rfl, _, rfl, ?_⟩
 have hK' : ∀ a e, placeF l s = a → cue18 l s = e → K [.d (.int .i64 a), .d (.int .i64 e)] := by rintro _ _ rfl rfl; exact hK
 clear hK
 unfold findR
 by_cases h : given17 l s = 0
 · rw [if_neg (by simp [h])]
   have hc : checkL order05 l = 0 ∧ check05 s = 0 := by
     unfold given17 at h
     split at h
     · rename_i h1; exact absurd h h1
     · rename_i h1; exact ⟨by simpa using h1, h⟩
   have hcue : cue18 l s = if place l.cues s < 0 then 6 else 0 := by simp [cue18, numbered18, hc.1, hc.2]
   simp only [zz, reduceCtorEq, Lis.enc]
   by_cases hp : place l.cues s < 0
   · rw [if_pos hp] at hcue
     refine ⟨fun h => hK' 0 6 (by unfold placeF; rw [hcue]; rfl) hcue, fun h => by omega⟩
   · rw [if_neg hp] at hcue
     rw [if_neg hp]
     refine ⟨fun h => by omega, fun h => hK' _ 0 (by unfold placeF; rw [hcue]; rfl) hcue⟩
 · rw [if_pos h]
   have hcue : cue18 l s = given17 l s := by
     unfold given17 at h ⊢
     unfold cue18
     split
     · rfl
     · rename_i h1
       rw [if_neg h1] at h
       unfold numbered18
       rw [if_pos h]
   simp only [zz, reduceCtorEq, Lis.enc]
   refine ⟨fun _ => hK' 0 _ ?_ hcue, fun h' => absurd h' h⟩
   unfold placeF; rw [hcue, if_neg h]
theorem fpath0_ok : Contract Tryz.prog 93 fun args K => ∃ (l : Lis) (a : Int), l.Ok ∧ I64 a ∧ args = [.agg l.enc, .int .i64 a] ∧ K [.d (.clo 134 [.ptr l.enc, .ptr [.int .i64 a]])] := by
 refine .of c93 t93_ok ?_
 rintro _ K ⟨l, a, hl, ha, rfl, hK⟩ hsm
 refine ⟨l.enc ++ [.int .i64 a], rfl, by exact has_li hl (i64_one ha), ?_⟩
 simp only [zz, reduceCtorEq, t93, Lis.enc]
 exact hK
noncomputable def t134 : R := let x0 : List K := [.str, .str, .slice [.int .i64, .int .i64, .int .i64, .int .i64, .int .i64], .slice [.int .i64, .int .i64, .int .i64, .int .i64, .int .i64, .int .i64], .bool, .bool, .int .i64, .str, .int .i64]; .loop 0 [.fld (.padd (.var 0) 2) 0 (.slice x0), .nils, .fld (.var 1) 0 (.int .i64), .int .i64 0] [.slice x0, .slice [.str, .int .i64], .int .i64, .int .i64] (.yield [.lcons (.var 4) (.lcons (.var 5) .lnil)] (.ite (.var 6) (.callX true 112 [.box (.lcons (.var 2) (.lcons (.var 3) (.lcons (.var 4) (.lcons (.var 5) .lnil))))] [.cell .bool, .box [.slice x0, .slice [.str, .int .i64], .int .i64, .int .i64]] (.ite (.var 7) (.again 0 [.var 8, .var 9, .var 10, .var 11]) (.ret []))) (.ret [])))
theorem t134_ok : fnItO Tryz.prog mdF 134 [.cell (.ptr liKs), .cell (.ptr [.int .i64])] = t134 := by kernel_rfl
theorem c134 : callable Tryz.prog 134 = true := by kernel_rfl
noncomputable def t41 : R := let x0 : T := .push .nils (.lcons (.idx (.var 2) (.var 9) 0 .str) .lnil); let x1 : T := .lcons (.var 1) (.lcons (.var 2) .lnil); .call none (.fn 92) [.lcons (.var 0) x1, .var 3] [.cell (.int .i64), .cell (.int .i64)] (.ite (.o2 .ne (.var 6) (.int .i64 0)) (.ret [.d .nils, .d (.var 6)]) (.ite (.ite (.o2 .lt (.var 4) (.int .i64 0)) (.bool true) (.o2 .gt (.var 4) (.int .i64 256))) (.ret [.d .nils, .d (.int .i64 2)]) (.call none (.fn 93) [.lcons (.var 0) x1, .var 5] [.cell .fn] (.iter 0 (.var 7) [.nils] [.slice [.str]] [.agg [.int .i64, .int .i64]] (.fact (.o2 .le (.o1 .len (.var 8)) (.int .i64 140737488355328)) (.ite (.o2 .eq (.o1 .len (.var 8)) (.var 4)) (.ret [.own 1 (.var 8), .d (.int .i64 0)]) (.need (.o2 .le (.int .i64 0) (.var 9)) (.need (.o2 .lt (.var 9) (.o1 .len (.var 2))) (.need (.o2 .le (.o1 .len (.o2 .app (.var 8) x0)) (.int .i64 8796093022208)) (.again 0 [.o2 .app (.var 8) x0])))))) (.ret [.own 1 (.var 8), .d (.int .i64 0)])))))
theorem t41_ok : fnO Tryz.prog mdF 41 [.agg [.int .i64, .int .i64, .slice [.str, .str, .slice [.int .i64, .int .i64, .int .i64, .int .i64, .int .i64], .slice [.int .i64, .int .i64, .int .i64, .int .i64, .int .i64, .int .i64], .bool, .bool, .int .i64, .str, .int .i64]], .cell .str, .cell (.int .i64)] = t41 := by kernel_rfl
theorem c41 : callable Tryz.prog 41 = true := by kernel_rfl
noncomputable def t63 : R := .call none (.fn 92) [.lcons (.var 0) (.lcons (.var 1) (.lcons (.var 2) .lnil)), .var 3] [.cell (.int .i64), .cell (.int .i64)] (.ite (.o2 .ne (.var 6) (.int .i64 0)) (.ret [.d (.str []), .d .nils, .d (.bool false), .d (.var 6)]) (.call none (.fn 60) [.var 4] [.cell (.int .i64)] (.ite (.o2 .ne (.var 7) (.int .i64 0)) (.ret [.d (.str []), .d .nils, .d (.bool false), .d (.var 7)]) (.callX true 112 [.box (.lcons (.var 2) (.lcons (.var 4) (.lcons (.var 5) (.lcons (.int .i64 0) .lnil))))] [.cell .bool, .box [.slice [.str, .str, .slice [.int .i64, .int .i64, .int .i64, .int .i64, .int .i64], .slice [.int .i64, .int .i64, .int .i64, .int .i64, .int .i64, .int .i64], .bool, .bool, .int .i64, .str, .int .i64], .slice [.str, .int .i64], .int .i64, .int .i64]] (.ite (.o1 .not (.var 8)) (.ret [.d (.str []), .d (.var 4), .d (.bool false), .d (.int .i64 0)]) (.need (.o2 .le (.int .i64 0) (.var 11)) (.need (.o2 .lt (.var 11) (.o1 .len (.var 2))) (.ret [.d (.idx (.var 2) (.var 11) 0 .str), .d (.var 10), .d (.bool true), .d (.int .i64 0)]))))))))
theorem t63_ok : fnO Tryz.prog mdF 63 [.agg [.int .i64, .int .i64, .slice [.str, .str, .slice [.int .i64, .int .i64, .int .i64, .int .i64, .int .i64], .slice [.int .i64, .int .i64, .int .i64, .int .i64, .int .i64, .int .i64], .bool, .bool, .int .i64, .str, .int .i64]], .cell .str, .cell (.slice [.str, .int .i64])] = t63 := by kernel_rfl
theorem c63 : callable Tryz.prog 63 = true := by kernel_rfl
theorem walk_stop {cs : List Cue} : ∀ (i : Nat) {n : Nat} {w0 w : Wk}, trW cs i w0 = some w → stepW cs w = none → i < n → (walk cs n w0).length = i + 1
 | 0, n, w0, w, h, hs, hi => by
   obtain rfl := Option.some.inj h
   obtain ⟨n, rfl⟩ : ∃ m, n = m + 1 := ⟨n - 1, by omega⟩
   simp [walk, hs]
 | i + 1, n, w0, w, h, hs, hi => by
   obtain ⟨n, rfl⟩ : ∃ m, n = m + 1 := ⟨n - 1, by omega⟩
   simp only [trW] at h
   simp only [walk, List.length_cons]
   split at h
   · rename_i v hv
     rw [walk_stop i h hs (by omega)]
   · cases h
theorem walk_all {cs : List Cue} {i n : Nat} {w0 w : Wk} (h : trW cs i w0 = some w) (hi : i + 1 = n) : (walk cs n w0).length = n := by
 have h1 := walk_get cs n i w0
 rw [if_pos (by omega), h] at h1
 have h2 := (List.getElem?_eq_some_iff.1 h1).1
 have h3 := walk_len cs n w0
 omega
theorem sumL_le {cs : List Cue} (h : ∀ c ∈ cs, 0 ≤ c.loops ∧ c.loops ≤ 100) : 0 ≤ sumL cs ∧ sumL cs ≤ 100 * cs.length := by
 unfold sumL
 induction cs with
 | nil => simp
 | cons c cs ih =>
   have h1 := h c List.mem_cons_self
   have h2 := ih fun d hd => h d (List.mem_cons_of_mem _ hd)
   simp only [List.map_cons, List.sum_cons, List.length_cons]
   omega
structure GoodW (cs : List Cue) (w : Wk) : Prop where
 at_ : w.a < cs.length
 ok : ∀ c ∈ w.k, c.Ok
 num : ∀ c ∈ w.k, check05 c.cue = 0
 rising : RisingC w.k
 len : w.k.length ≤ 1000000
 g : w.g ≤ 1000000
theorem goodW_of {cs : List Cue} (hR : RightW cs) {w : Wk} (h : Good cs w) : GoodW cs w := by
 have hC := h.rightC hR
 have hg := h.g_le hR
 have hs := sumL_le hR.loops
 have hl := hR.len
 have := hC.len
 exact ⟨h.at_, fun c hc => by have := hC.n c hc; exact ⟨by omega, by omega⟩, hC.num, hC.rising, by omega, by omega⟩
theorem denR_yield {P : Program} {F : Option Nat → List RV → Prop} {args : List T} {r : R} {ags : Ags} {ρ : List D} : denR P F noK (.yield args r) ags ρ =
   (∃ c, ags.cnt = some c ∧ ags.exp[c]? = some (args.map (den ρ)) ∧ ∀ b : Bool, (b = true → ags.lim (c + 1)) → denR P F noK r (ags.wc (if b then some (c + 1) else none)) (ρ ++ [.bool b])) := rfl
def stopD (w : Wk) : List D := [.agg [.int .i64 w.a, .int .i64 w.g]]
theorem path_it {l : Lis} (hl : l.Ok) (hR : RightW l.cues) {a : Nat} (ha : a < l.cues.length) {N : Nat} (h0 : 0 < N) {lim : Nat → Prop} (hlim : (walk l.cues N ⟨a, [], 0⟩).length = N → ¬ lim N) :
   IterL Tryz.prog (.clo 134 [.ptr l.enc, .ptr [.int .i64 a]]) ((walk l.cues N ⟨a, [], 0⟩).map stopD) lim := by
 have hcl := hR.len
 refine IterL.of c134 t134_ok (ρ := [.ptr l.enc, .ptr [.int .i64 a]]) rfl ⟨Lis.has hl, ⟨i64_has ⟨by omega, by omega⟩, trivial⟩, trivial⟩ ?_
 unfold t134
 rw [denR_loop]
 refine ⟨fun c ys => ∃ i w, c = some i ∧ trW l.cues i ⟨a, [], 0⟩ = some w ∧ i < N ∧ ys = boxW l.cues w.k w.a w.g, fun c _ => match c with | some i => N - i | none => 0, ⟨0, ⟨a, [], 0⟩, rfl, rfl, h0, ?_⟩, ?_⟩
 · simp only [zz, reduceCtorEq, Lis.enc, D.cells, D.padd, D.cell, List.drop_zero, List.drop_succ_cons, boxW]
   rfl
 rintro _ _ _ ⟨i, w, rfl, hw, hi, rfl⟩
 have hg := (Good.tr hR i (Good.start ha) hw).1
 have hG := goodW_of hR hg
 rw [denR_yield]
 refine ⟨i, rfl, ?_, ?_⟩
 · simp only [setAg, Ags.wc, List.getElem?_map, walk_get, hi, if_true, hw, Option.map_some]
   simp only [zz, reduceCtorEq, boxW, stopD]
 · rintro (_ | _) hb
   · simp only [zz, reduceCtorEq, boxW, setAg, Ags.wc]
     simp
   · have hlt : lim (i + 1) := hb rfl
     simp only [if_true, denR_ite]
     refine ⟨fun _ => ?_, fun h => by simp [den, boxW] at h⟩
     refine denR_callX step_ok ⟨boxW l.cues w.k w.a w.g, by simp [pkRhoX, boxW, den, RT.den, wkKs, D.list], ⟨cues_has hl.cues, cnts_has hG.ok, i64_has ⟨by omega, by have := hG.at_; omega⟩, i64_has ⟨by omega, by have := hG.g; omega⟩, trivial⟩⟩ (fun _ => rfl)
       ⟨l.cues, w, hl.cues, hR, hG.at_, hG.ok, hG.num, hG.rising, hG.len, hG.g, by simp [boxW, den, RT.den, D.list], ?_⟩
     unfold stepRV
     cases hs : stepW l.cues w with
     | none =>
       refine ⟨_, rfl, ?_⟩
       simp only [zz, reduceCtorEq, boxW, setAg, Ags.wc]
       refine .inr ?_
       rw [List.length_map, walk_stop i hw hs hi]
     | some v =>
       refine ⟨_, rfl, ?_⟩
       have hv : trW l.cues (i + 1) ⟨a, [], 0⟩ = some v := by rw [trW_succ, hw]; exact hs
       have hi1 : i + 1 < N := by
         rcases Nat.lt_or_ge (i + 1) N with h | h
         · exact h
         · have e : i + 1 = N := by omega
           exact absurd (e ▸ hlt) (hlim (walk_all hw e))
       simp only [zz, reduceCtorEq, boxW, setAg, Ags.wc]
       exact ⟨⟨i + 1, v, rfl, hv, hi1, by simp⟩, by omega⟩
theorem denR_iterL {P : Program} {F : Option Nat → List RV → Prop} {l : Nat} {t : T} {inits : List T} {ks : List K} {pk : List PK} {body done : R} {ags : Ags} {ρ : List D} : denR P F noK (.iter l t inits ks pk body done) ags ρ =
   (∃ (xs : List (List D)) (Inv : Nat → Option Nat → List D → Prop), IterL P (den ρ t) xs (fun n => ∃ c ys, Inv n c ys) ∧ (∀ x ∈ xs, ∃ fx, pkRho pk x = some fx ∧ HasKs (pkKinds pk) fx) ∧ Inv 0 ags.cnt (inits.map (den ρ)) ∧
     (∀ i x fx c ys, xs[i]? = some x → pkRho pk x = some fx → HasKs (pkKinds pk) fx → HasKs ks ys → Inv i c ys → denR P F noK body (setAg (ags.wc c) l fun c' zs => Inv (i + 1) c' zs) (ρ ++ ys ++ fx)) ∧
     (∀ c ys, HasKs ks ys → Inv xs.length c ys → denR P F noK done (ags.wc c) (ρ ++ ys))) := rfl
def TxtR (r : List (List UInt8) × Int) (rvs : List RV) : Prop := rvs = [.d (.slice (txts r.1)), .d (.int .i64 r.2)] ∨ rvs = [.own 1 (txts r.1), .d (.int .i64 r.2)]
def startW (l : Lis) (s : List UInt8) : Wk := ⟨(place l.cues s).toNat, [], 0⟩
def pathR (l : Lis) (s : List UInt8) (n : Int) : List (List UInt8) × Int := if cue18 l s ≠ 0 then ([], cue18 l s) else if n < 0 ∨ 256 < n then ([], 2) else (pathL l.cues n.toNat (startW l s), 0)
theorem cue18_chk {l : Lis} {s : List UInt8} (h : cue18 l s = 0) : checkL order05 l = 0 := by
 unfold cue18 at h
 split at h
 · contradiction
 · rename_i h1; simpa using h1
structure Start (l : Lis) (s : List UInt8) (a : Nat) : Prop where
 right : RightW l.cues
 chk : checkL order05 l = 0
 num : check05 s = 0
 lt : a < l.cues.length
 pl : place l.cues s = a
 st : startW l s = ⟨a, [], 0⟩
 pf : placeF l s = a
 at_ : (l.cues[a]'lt).num = s
theorem cue18_start {l : Lis} {s : List UInt8} (hl : l.Ok) (h : cue18 l s = 0) : ∃ a, Start l s a := by
 obtain ⟨hRT, h05, hp0, _⟩ := cue18_right hl h
 obtain ⟨a, ha, h1, h2, _⟩ := place_pos (cs := l.cues) (s := s) (by omega)
 exact ⟨a, rightW_of (cue18_chk h), cue18_chk h, h05, ha, h1, by simp [startW, h1], by unfold placeF; rw [if_pos h, h1], h2⟩
theorem stop_has {cs : List Cue} (hR : RightW cs) {a n : Nat} (ha : a < cs.length) : ∀ x ∈ (walk cs n ⟨a, [], 0⟩).map stopD, ∃ fx, pkRho [.agg [.int .i64, .int .i64]] x = some fx ∧ HasKs (pkKinds [.agg [.int .i64, .int .i64]]) fx := by
 intro x hx
 obtain ⟨w, hw, rfl⟩ := List.mem_map.1 hx
 have hG := goodW_of hR (walk_good hR (Good.start ha) w hw)
 have hcl := hR.len
 exact ⟨[.int .i64 w.a, .int .i64 w.g], rfl, i64_has ⟨by omega, by have := hG.at_; omega⟩, i64_has ⟨by omega, by have := hG.g; omega⟩, trivial⟩
theorem fpath_ok : Contract Tryz.prog 41 fun args K => ∃ (l : Lis) (s : List UInt8) (n : Int), l.Ok ∧ I64 n ∧ args = [.agg l.enc, .str s, .int .i64 n] ∧ ∀ rvs, TxtR (pathR l s n) rvs → K rvs := by
 refine .of c41 t41_ok ?_
 rintro _ K ⟨l, s, n, hl, hn, rfl, hK⟩ hsm
 refine ⟨l.enc ++ [.str s, .int .i64 n], rfl, by exact has_li hl ⟨trivial, i64_has hn, trivial⟩, ?_⟩
 refine denR_call fplace_ok ⟨l, s, hl, by simp only [zz, reduceCtorEq, Lis.enc], _, rfl, ?_⟩
 unfold pathR at hK
 by_cases h : cue18 l s = 0
 · obtain ⟨a, hS⟩ := cue18_start hl h
   have hcl := hS.right.len
   have ha := hS.lt
   rw [if_neg (by simp [h])] at hK
   rw [hS.pf, h]
   simp only [zz, reduceCtorEq, Lis.enc]
   refine ⟨fun hb => ?_, fun hb => ?_⟩
   · rw [if_pos (by omega)] at hK; exact hK _ (.inl rfl)
   rw [if_neg (by omega), hS.st] at hK
   obtain ⟨m, rfl⟩ : ∃ m : Nat, n = m := ⟨n.toNat, by omega⟩
   rw [Int.toNat_natCast] at hK
   refine denR_call fpath0_ok ⟨l, a, hl, ⟨by omega, by omega⟩, by simp only [zz, reduceCtorEq, Lis.enc], _, rfl, ?_⟩
   rw [denR_iterL]
   refine ⟨(walk l.cues (m + 1) ⟨a, [], 0⟩).map stopD, fun i c ys => c = none ∧ i ≤ m ∧ ys = [.slice (txts ((pathL l.cues (m + 1) ⟨a, [], 0⟩).take i))], path_it hl hS.right ha (Nat.succ_pos m) (fun _ ⟨c, ys, _, h, _⟩ => by omega), stop_has hS.right ha, ⟨rfl, Nat.zero_le _, by simp [den, txts]⟩, ?_, ?_⟩
   · rintro i x fx c ys hx hfx hkf hks ⟨rfl, hi, rfl⟩
     rw [List.getElem?_map, Option.map_eq_some_iff] at hx
     obtain ⟨w, hw, rfl⟩ := hx
     obtain rfl : [D.int .i64 w.a, .int .i64 w.g] = fx := by simpa [pkRho, stopD] using hfx
     have hwl := (List.getElem?_eq_some_iff.1 hw).1
     have hwm := List.mem_of_getElem? hw
     have hG := (walk_good hS.right (Good.start ha) w hwm).at_
     have hlen : (txts ((pathL l.cues (m + 1) ⟨a, [], 0⟩).take i)).length = i := by
       rw [txts_len, List.length_take, pathL_len]; omega
     have hpt : pathL l.cues m ⟨a, [], 0⟩ = (pathL l.cues (m + 1) ⟨a, [], 0⟩).take m := by
       unfold pathL; rw [walk_take l.cues m (m + 1) _ (by omega), List.map_take]
     have hnx : (pathL l.cues (m + 1) ⟨a, [], 0⟩).take (i + 1) = (pathL l.cues (m + 1) ⟨a, [], 0⟩).take i ++ [(l.cues[w.a]).num] := by
       rw [List.take_add_one]
       congr 1
       simp only [pathL, List.getElem?_map, hw, Option.map_some, Option.toList_some, numA_at hG]
     simp only [zz, reduceCtorEq, Lis.enc, hlen, List.length_map, hG, getD_map hG, Cue.enc, List.length_append, List.length_cons, List.length_nil]
     refine fun hcap => ⟨fun he => ?_, fun he => ⟨by omega, by simp; omega, ?_⟩⟩
     · have : i = m := by omega
       subst this
       rw [← hpt]
       exact hK _ (.inr rfl)
     · refine ⟨rfl, by omega, ?_⟩
       rw [hnx]
       simp [txts]
   · rintro c ys hks ⟨rfl, hi, rfl⟩
     rw [List.length_map] at hi ⊢
     have hpt : pathL l.cues m ⟨a, [], 0⟩ = (pathL l.cues (m + 1) ⟨a, [], 0⟩).take (walk l.cues (m + 1) ⟨a, [], 0⟩).length := by
       have h1 : (pathL l.cues (m + 1) ⟨a, [], 0⟩).take (walk l.cues (m + 1) ⟨a, [], 0⟩).length = pathL l.cues (m + 1) ⟨a, [], 0⟩ := List.take_of_length_le (by rw [pathL_len]; omega)
       rw [h1]
       unfold pathL
       rw [walk_take l.cues m (m + 1) _ (by omega), List.take_of_length_le hi]
     rw [← hpt]
     simp only [zz, reduceCtorEq, Lis.enc]
     exact hK _ (.inr rfl)
 · rw [if_pos h] at hK
   simp only [zz, reduceCtorEq, Lis.enc]
   exact ⟨fun _ => hK _ (.inl rfl), fun h' => absurd h' h⟩
end Go.Sx.La
namespace Go.Sx.La
open Go Go.Sx Go.RowKit Go.Proofs Go.Sort
def ints (xs : List Int) : List (List D) := xs.map fun x => [D.int .i64 x]
theorem ints_len (xs : List Int) : (ints xs).length = xs.length := by simp [ints]
theorem ints_has {xs : List Int} (h : ∀ x ∈ xs, I64 x) : HasK (.slice [.int .i64]) (.slice (ints xs)) := slice_has (enc := fun x => [D.int .i64 x]) fun x hx => ⟨i64_has (h x hx), trivial⟩
theorem ints_at {xs : List Int} {i : Nat} {x : List D} (h : (ints xs)[i]? = some x) : ∃ s, xs[i]? = some s ∧ x = [.int .i64 s] := by
 simp only [ints, List.getElem?_map, Option.map_eq_some_iff] at h
 obtain ⟨s, h1, rfl⟩ := h
 exact ⟨s, h1, rfl⟩
def sortedW (w : World) (n b : Nat) (d : Array Int) (os : Array Obj) : World := Sort.grow (putRow (Value.int .i64) (Sort.ahead w n) b 0 d) os
theorem sortedW_other (w : World) (n b : Nat) (d : Array Int) (os : Array Obj) {k : Nat} (hk : k < w.heap.size) (hne : k ≠ b) : (sortedW w n b d os).heap[k]? = w.heap[k]? := by
 have hsz : (putRow (Value.int .i64) (Sort.ahead w n) b 0 d).heap.size = w.heap.size := by simp [putRow, mapBlock, Sort.ahead]
 unfold sortedW
 simp only [Sort.grow]
 rw [Array.getElem?_append, if_pos (by omega)]
 simp only [putRow, mapBlock, Sort.ahead, Array.getElem?_modify]
 rw [if_neg (by omega)]
theorem sortedW_row (w : World) (n b : Nat) (d : Array Int) (os : Array Obj) {c : Array Value} {t : TypeId} {fz : Nat × Nat} (hb : w.heap[b]? = some (.cells c t fz)) :
   (sortedW w n b d os).heap[b]? = some (.cells (Go.Sort.putCells (Value.int .i64) 0 d c) t fz) := by
 have hlt : b < w.heap.size := (Array.getElem?_eq_some_iff.1 hb).1
 have hsz : (putRow (Value.int .i64) (Sort.ahead w n) b 0 d).heap.size = w.heap.size := by simp [putRow, mapBlock, Sort.ahead]
 unfold sortedW
 simp only [Sort.grow]
 rw [Array.getElem?_append, if_pos (by omega)]
 simp only [putRow, mapBlock, Sort.ahead, Array.getElem?_modify, hb]
 simp [onCells]
theorem sortI_ok : ContractX Tryz.prog 136 [.own [.int .i64]] true fun args K => ∃ (xs : List Int), (∀ x ∈ xs, I64 x) ∧ xs.length ≤ 1000000 ∧ args = [.own 1 (ints xs)] ∧ ∀ ys : List Int, ys.Perm xs → ys.Pairwise (· ≤ ·) → K [.own 1 (ints ys)] := by
 have hcl : callable Tryz.prog 136 = true := by kernel_rfl
 have hres : resKinds Tryz.prog false (fnTypes Tryz.prog 136) = some [] := by kernel_rfl
 refine ⟨hcl, ?_⟩
 rintro _ K ⟨xs, hxs, hlen, rfl, hK⟩ _ w m vs hm hr
 have hty : ∀ ys : List Int, (∀ y ∈ ys, I64 y) → ResTyped Tryz.prog 136 (if true = true then ownKs [.own [.int .i64]] else []) [.own 1 (ints ys)] := by
   intro ys hys rk hrk
   rw [hres] at hrk; cases hrk
   exact ⟨[.slice (ints ys)], rfl, ⟨ints_has hys, trivial⟩⟩
 have hlen1 : vs.length = 1 := hr.len
 match vs, hlen1 with
 | [v], _ =>
 have r0 := hr.rep 0 _ v rfl rfl
 have sepless : ∀ {m' : Mem} {w' : World} {rs : List RV} {us : List Value}, rs.length ≤ 1 → ∀ (i j : Nat) r r' u u' b, i ≠ j → rs[i]? = some r → rs[j]? = some r' → us[i]? = some u → us[j]? = some u' → r.isOwn = true → r'.isOwn = true → blk u = some b → blk u' ≠ some b := by
   intro m' w' rs us hl i j r r' u u' b hij h2 h3
   exfalso
   have h4 := (List.getElem?_eq_some_iff.1 h2).1
   have h5 := (List.getElem?_eq_some_iff.1 h3).1
   omega
 by_cases hne : xs = []
 · subst hne
   have hv : ∃ a c, v = .slice a 0 c := by
     cases r0 with
     | none => exact ⟨_, _, rfl⟩
     | own => exact ⟨_, _, rfl⟩
   obtain ⟨a, c, rfl⟩ := hv
   refine (Tryz.slices_Sort_int_none a c w).mono ?_
   rintro e w' ⟨rfl, rfl⟩
   refine ⟨[.own 1 (ints [])], [], _, m, hK [] (.refl _) .nil, hty [] (by simp), rfl, rfl, ⟨rfl, ?_, sepless (m' := m) (w' := w') (by simp)⟩, Mem.le_refl m, hm, fun _ _ _ => rfl, ⟨rfl, rfl, rfl, Nat.le_refl _, Nat.le_refl _, fun _ _ _ => rfl⟩⟩
   intro i r u h2 h3
   cases i with
   | succ i => simp at h2
   | zero =>
     simp [ownVals] at h2 h3
     subst h2 h3
     cases r0 with
     | none => exact .none
     | own hB hm' hb h0 hc hcc hcap hsz he hv => exact .own (.inr ⟨0, _, _, rfl, rfl, rfl, by simp [blk]; omega⟩) hm' hb h0 hc hcc hcap hsz he hv
 · obtain ⟨b, c, arr, t, hveq, _, hmb, hb, hc0, hc, hcm, hcap, hasz, he, hv⟩ := own_inv r0 (by simpa [ints] using hne)
   have hl : (ints xs).length = xs.length := ints_len xs
   rw [hl] at hveq hc hcap
   subst hveq
   have hblt : b < w.heap.size := (Array.getElem?_eq_some_iff.1 hb).1
   have hval : ∀ i (hi : i < xs.length), arr[i]? = some (.int .i64 xs[i]) := by
     intro i hi
     have hlt : i < arr.size := by omega
     have := hv i 0 [.int .i64 xs[i]] (.int .i64 xs[i]) arr[i] (by simp [ints, hi]) rfl (by simp [hlt])
     rw [Array.getElem?_eq_getElem hlt]
     revert this
     generalize arr[i] = u
     intro this
     cases this
     rfl
   have hH : Holds (Value.int .i64) w b 0 xs.toArray := by
     intro j hj
     have hj' : j < xs.length := by simpa using hj
     constructor
     · simp only [World.cell?, hb, Nat.zero_add]
       have := hval j hj'
       simp [this, getElem!_pos, hj']
     · simp [World.frozen?, hb]
   refine (Tryz.slices_Sort_int b 0 c xs w hH hblt (by omega)).mono ?_
   rintro e w' ⟨rfl, n, os, rfl⟩
   have hperm : (xs.mergeSort fun x y => decide (x ≤ y)).Perm xs := List.mergeSort_perm ..
   have hsorted : (xs.mergeSort fun x y => decide (x ≤ y)).Pairwise (· ≤ ·) := by
     have := List.pairwise_mergeSort (le := fun x y : Int => decide (x ≤ y)) (fun a b c h1 h2 => by simp at *; omega) (fun a b => by simp; omega) xs
     exact this.imp fun h => by simpa using h
   generalize hys : (xs.mergeSort fun x y => decide (x ≤ y)) = ys at *
   have hyl : ys.length = xs.length := hperm.length_eq
   have hyo : ∀ y ∈ ys, I64 y := fun y hy => hxs y (hperm.mem_iff.1 hy)
   change ∃ rs us v m', K rs ∧ _ ∧ _ ∧ _ ∧ RepRs m' (sortedW w n b ys.toArray os) _ rs _ ∧ _ ∧ MemOk m' (sortedW w n b ys.toArray os) ∧ _ ∧ Apart _ w (sortedW w n b ys.toArray os)
   have hown : OwnBlk [.own 1 (ints xs)] [.slice (some ⟨b, 0, none⟩) xs.length c] b := ⟨0, _, _, rfl, rfl, rfl, by simp [blk]; omega⟩
   have hrow := sortedW_row w n b ys.toArray os hb
   refine ⟨[.own 1 (ints ys)], [], _, m, hK ys hperm hsorted, hty ys hyo, rfl, rfl, ⟨rfl, ?_, sepless (m' := m) (w' := w) (by simp)⟩, Mem.le_refl m, ?_, fun _ _ _ => rfl, ⟨rfl, rfl, rfl, ?_, ?_, ?_⟩⟩
   · intro i r u h2 h3
     cases i with
     | succ i => simp at h2
     | zero =>
       simp [ownVals] at h2 h3
       subst h2 h3
       have hlr : (ints ys).length = xs.length := by rw [ints_len]; exact hyl
       have := RepR.own (m := m) (w := sortedW w n b ys.toArray os) (B := fun b' => w.heap.size ≤ b' ∨ OwnBlk [.own 1 (ints xs)] [.slice (some ⟨b, 0, none⟩) xs.length c] b') (e := 1) (xs := ints ys) (.inr hown) hmb hrow hc0 (by omega) hcm (by omega) (by simp [Go.Sort.putCells, hasz]) (by
         intro x hx
         obtain ⟨y, _, rfl⟩ := List.mem_map.1 hx
         rfl) (by
         intro i j x dd u hx hd hu
         obtain ⟨s, hs, rfl⟩ := ints_at hx
         have hj : j = 0 := by
           have := (List.getElem?_eq_some_iff.1 hd).1
           simp at this; exact this
         subst hj
         simp at hd; subst hd
         have hi : i < ys.length := (List.getElem?_eq_some_iff.1 hs).1
         simp only [Go.Sort.putCells, Array.getElem?_mapIdx, Option.map_eq_some_iff] at hu
         obtain ⟨z, hz, hu⟩ := hu
         rw [if_pos ⟨Nat.zero_le _, by simp; omega⟩] at hu
         have e1 : ys.toArray[i * 1 + 0 - 0]! = s := by
           have h7 : (i * 1 + 0 - 0) < ys.toArray.size := by simp; omega
           rw [getElem!_pos ys.toArray (i * 1 + 0 - 0) h7]
           have h8 := (List.getElem?_eq_some_iff.1 hs).2
           simpa using h8
         rw [e1] at hu
         rw [← hu]
         exact .int _ _)
       rw [hlr] at this
       exact this
   · intro b' o ho
     have hne' : b' ≠ b := by rintro rfl; rw [hmb] at ho; cases ho
     have hb' := hm b' o ho
     rw [sortedW_other w n b _ os (Array.getElem?_eq_some_iff.1 hb').1 hne']
     exact hb'
   · simp [sortedW, Sort.grow, putRow, mapBlock, Sort.ahead]
   · simp [sortedW, Sort.grow, putRow, mapBlock, Sort.ahead]
   · intro b' hb' hnb
     refine sortedW_other w n b _ os hb' ?_
     rintro rfl
     exact hnb hown
end Go.Sx.La
namespace Go.Sx.La
open Go Go.Sx Go.RowKit Go.Proofs
noncomputable def t135 : R := .call none (.fn 189) [.var 0, .var 1] [.cell (.int .i64)] (.ret [.d (.o2 .ge (.var 2) (.int .i64 0))])
theorem t135_ok : fnO Tryz.prog mdA 135 [.cell (.slice [.int .i64]), .cell (.int .i64)] = t135 := by kernel_rfl
theorem c135 : callable Tryz.prog 135 = true := by kernel_rfl
noncomputable def t189 : R := .fact (.o2 .le (.o1 .len (.var 0)) (.int .i64 140737488355328)) (.loop 0 [.int .i64 0] [.int .i64] (.ite (.o2 .lt (.var 2) (.o1 .len (.var 0))) (.need (.o2 .le (.int .i64 0) (.var 2)) (.ite (.o2 .eq (.var 1) (.idx (.var 0) (.var 2) 0 (.int .i64))) (.ret [.d (.var 2)]) (.again 0 [.o2 (.add .i64) (.var 2) (.int .i64 1)]))) (.ret [.d (.int .i64 (-1))])))
theorem t189_ok : fnO Tryz.prog mdA 189 [.cell (.slice [.int .i64]), .cell (.int .i64)] = t189 := by kernel_rfl
theorem c189 : callable Tryz.prog 189 = true := by kernel_rfl
noncomputable def t95 : R := let x0 : T := .push .nils (.lcons (.var 7) (.lcons (.var 8) .lnil)); let x1 : T := .push .nils (.lcons (.var 7) .lnil); let x2 : T := .o1 .len (.var 6); let x3 : T := .o2 .le (.o1 .len (.o2 .app (.var 5) x1)) (.int .i64 17592186044416); .call none (.fn 93) [.lcons (.var 0) (.lcons (.var 1) (.lcons (.var 2) .lnil)), .var 3] [.cell .fn] (.iter 0 (.var 4) [.nils, .nils] [.slice [.int .i64], .slice [.int .i64, .int .i64]] [.agg [.int .i64, .int .i64]] (.fact (.o2 .le x2 (.int .i64 140737488355328)) (.loop 1 [.int .i64 0] [.int .i64] (.ite (.o2 .lt (.var 9) x2) (.need (.o2 .le (.int .i64 0) (.var 9)) (.ite (.o2 .band (.o2 .eq (.idx (.var 6) (.var 9) 0 (.int .i64)) (.var 7)) (.o2 .band (.o2 .eq (.idx (.var 6) (.var 9) 1 (.int .i64)) (.var 8)) (.bool true))) (.callX true 136 [.own 1 (.var 5)] [.own [.int .i64]] (.ret [.own 1 (.var 10), .d (.bool true)])) (.again 1 [.o2 (.add .i64) (.var 9) (.int .i64 1)]))) (.need (.ite (.o2 .gt x2 (.int .i64 0)) (.o2 .lt (.int .i64 0) x2) (.bool true)) (.ite (.ite (.o2 .gt x2 (.int .i64 0)) (.o2 .ne (.idx (.var 6) (.int .i64 0) 1 (.int .i64)) (.var 8)) (.bool false)) (.need (.o2 .le (.o1 .len (.o2 .app .nils x0)) (.int .i64 8796093022208)) (.call none (.fn 135) [.var 5, .var 7] [.cell .bool] (.ite (.o1 .not (.var 10)) (.need x3 (.again 0 [.o2 .app (.var 5) x1, .o2 .app .nils x0])) (.again 0 [.var 5, .o2 .app .nils x0])))) (.need (.o2 .le (.o1 .len (.o2 .app (.var 6) x0)) (.int .i64 8796093022208)) (.call none (.fn 135) [.var 5, .var 7] [.cell .bool] (.ite (.o1 .not (.var 10)) (.need x3 (.again 0 [.o2 .app (.var 5) x1, .o2 .app (.var 6) x0])) (.again 0 [.var 5, .o2 .app (.var 6) x0]))))))))) (.callX true 136 [.own 1 (.var 5)] [.own [.int .i64]] (.ret [.own 1 (.var 7), .d (.bool false)])))
theorem t95_ok : fnO Tryz.prog mdF 95 [.agg [.int .i64, .int .i64, .slice [.str, .str, .slice [.int .i64, .int .i64, .int .i64, .int .i64, .int .i64], .slice [.int .i64, .int .i64, .int .i64, .int .i64, .int .i64, .int .i64], .bool, .bool, .int .i64, .str, .int .i64]], .cell (.int .i64)] = t95 := by kernel_rfl
theorem c95 : callable Tryz.prog 95 = true := by kernel_rfl
noncomputable def t44 : R := let x0 : T := .lcons (.var 1) (.lcons (.var 2) .lnil); .call none (.fn 92) [.lcons (.var 0) x0, .var 3] [.cell (.int .i64), .cell (.int .i64)] (.ite (.o2 .ne (.var 5) (.int .i64 0)) (.ret [.d (.bool false), .d (.var 5)]) (.call none (.fn 95) [.lcons (.var 0) x0, .var 4] [.cell (.slice [.int .i64]), .cell .bool] (.ret [.d (.var 7), .d (.int .i64 0)])))
theorem t44_ok : fnO Tryz.prog mdA 44 [.agg [.int .i64, .int .i64, .slice [.str, .str, .slice [.int .i64, .int .i64, .int .i64, .int .i64, .int .i64], .slice [.int .i64, .int .i64, .int .i64, .int .i64, .int .i64, .int .i64], .bool, .bool, .int .i64, .str, .int .i64]], .cell .str] = t44 := by kernel_rfl
theorem c44 : callable Tryz.prog 44 = true := by kernel_rfl
noncomputable def t46 : R := let x0 : T := .idx (.var 6) (.var 9) 0 (.int .i64); let x1 : T := .push .nils (.lcons (.idx (.var 2) x0 0 .str) .lnil); let x2 : T := .lcons (.var 1) (.lcons (.var 2) .lnil); .call none (.fn 92) [.lcons (.var 0) x2, .var 3] [.cell (.int .i64), .cell (.int .i64)] (.ite (.o2 .ne (.var 5) (.int .i64 0)) (.ret [.d .nils, .d (.var 5)]) (.call none (.fn 95) [.lcons (.var 0) x2, .var 4] [.cell (.slice [.int .i64]), .cell .bool] (.fact (.o2 .le (.o1 .len (.var 6)) (.int .i64 140737488355328)) (.loop 0 [.nils, .int .i64 0] [.slice [.str], .int .i64] (.ite (.o2 .lt (.var 9) (.o1 .len (.var 6))) (.need (.o2 .le (.int .i64 0) (.var 9)) (.need (.o2 .le (.int .i64 0) x0) (.need (.o2 .lt x0 (.o1 .len (.var 2))) (.need (.o2 .le (.o1 .len (.o2 .app (.var 8) x1)) (.int .i64 8796093022208)) (.again 0 [.o2 .app (.var 8) x1, .o2 (.add .i64) (.var 9) (.int .i64 1)]))))) (.ret [.own 1 (.var 8), .d (.int .i64 0)]))))))
theorem t46_ok : fnO Tryz.prog mdA 46 [.agg [.int .i64, .int .i64, .slice [.str, .str, .slice [.int .i64, .int .i64, .int .i64, .int .i64, .int .i64], .slice [.int .i64, .int .i64, .int .i64, .int .i64, .int .i64, .int .i64], .bool, .bool, .int .i64, .str, .int .i64]], .cell .str] = t46 := by kernel_rfl
theorem c46 : callable Tryz.prog 46 = true := by kernel_rfl
theorem indexI_ok : Contract Tryz.prog 189 fun args K => ∃ (xs : List Int) (a : Int), (∀ x ∈ xs, I64 x) ∧ I64 a ∧ args = [.slice (ints xs), .int .i64 a] ∧ K [.d (.int .i64 (idxGo (fun x => a == x) 0 xs))] := by
 refine .of c189 t189_ok ?_
 rintro _ K ⟨xs, a, hxs, ha, rfl, hK⟩ hsm
 refine ⟨[.slice (ints xs), .int .i64 a], rfl, ⟨ints_has hxs, i64_has ha, trivial⟩, ?_⟩
 simp only [zz, reduceCtorEq, t189, ints, List.length_map]
 intro hcap
 refine loop_go xs (fun i l' (_ : Unit) => idxGo (fun x => a == x) i l') (fun i _ => [.int .i64 i]) () _ rfl 0 (fun _ _ => rfl) rfl ?_ ?_
 · intro i hi _ hgo
   have hget : (xs.map fun x => [D.int .i64 x]).getD i [] = [.int .i64 xs[i]] := getD_map (enc := fun x => [D.int .i64 x]) hi
   simp only [idxGo] at hgo
   simp only [zz, reduceCtorEq, hi, List.length_map, hget]
   refine ⟨by omega, fun h => ?_, fun h => ?_⟩
   · rw [if_pos (by simpa using h)] at hgo; rw [← hgo] at hK; exact hK
   · rw [if_neg (by simpa using h)] at hgo
     exact ⟨(), by rw [wr64_eq] <;> omega, hgo⟩
 · intro _ hgo
   simp only [idxGo] at hgo
   simp only [zz, reduceCtorEq, List.length_map]
   rw [← hgo] at hK; exact hK
theorem containsI_ok : Contract Tryz.prog 135 fun args K => ∃ (xs : List Int) (a : Int), (∀ x ∈ xs, I64 x) ∧ I64 a ∧ args = [.slice (ints xs), .int .i64 a] ∧ K [.d (.bool (decide (a ∈ xs)))] := by
 refine .of c135 t135_ok ?_
 rintro _ K ⟨xs, a, hxs, ha, rfl, hK⟩ hsm
 refine ⟨[.slice (ints xs), .int .i64 a], rfl, ⟨ints_has hxs, i64_has ha, trivial⟩, ?_⟩
 refine denR_call indexI_ok ⟨xs, a, hxs, ha, rfl, _, rfl, ?_⟩
 have e : decide (0 ≤ idxGo (fun x => a == x) 0 xs) = decide (a ∈ xs) := by
   rcases idxGo_spec (fun x : Int => a == x) xs 0 with ⟨h1, h2⟩ | ⟨j, hj, h1, h2, _⟩
   · rw [h1]
     have : a ∉ xs := fun h => by simpa using h2 a h
     simp [this]
   · rw [h1]
     have e2 : a = xs[j] := by simpa using h2
     have : a ∈ xs := by rw [e2]; exact List.getElem_mem hj
     simp [this]
 have ef : (fun x : Int => a == x) = fun x => decide (a = x) := funext fun x => int_beq a x
 rw [ef] at e
 simp only [zz, reduceCtorEq]
 rw [e]
 exact hK
abbrev castI (l : List Nat) : List Int := l.map fun n : Nat => (n : Int)
def encS (fresh : List (Nat × Nat)) : List (List D) := fresh.map fun q => [D.int .i64 q.1, .int .i64 q.2]
theorem most_le {cs : List Cue} (hR : RightW cs) : most cs ≤ 1000000 := by
 have h1 := sumL_le hR.loops
 have h2 := hR.len
 unfold most
 have : ((sumL cs).toNat + 1) * cs.length ≤ 6401 * 64 := Nat.mul_le_mul (by omega) h2
 omega
theorem castI_mem {l : List Nat} {n : Nat} : ((n : Int) ∈ castI l) ↔ n ∈ l := by
 simp only [castI, List.mem_map]
 constructor
 · rintro ⟨m, hm, e⟩
   have : m = n := by omega
   rw [← this]; exact hm
 · intro h; exact ⟨n, h, rfl⟩
structure SmallV2 (b : Nat) (all : List Nat) (fresh : List (Nat × Nat)) : Prop where
 la : all.length ≤ b
 lf : fresh.length ≤ b
 a : ∀ n ∈ all, n ≤ 1000000
def visR (cs : List Cue) (w : Wk) : List Nat × Bool := visGo ((walk cs (most cs) w).map Wk.key) [] []
theorem visited_ok : Contract Tryz.prog 95 fun args K => ∃ (l : Lis) (a : Nat), l.Ok ∧ RightW l.cues ∧ a < l.cues.length ∧ args = [.agg l.enc, .int .i64 a] ∧
   ∀ ss : List Int, ss.Perm (castI (visR l.cues ⟨a, [], 0⟩).1) → ss.Pairwise (· ≤ ·) → K [.own 1 (ints ss), .d (.bool (visR l.cues ⟨a, [], 0⟩).2)] := by
 refine .of c95 t95_ok ?_
 rintro _ K ⟨l, a, hl, hR, ha, rfl, hK⟩ hsm
 have hcl := hR.len
 refine ⟨l.enc ++ [.int .i64 a], rfl, by exact has_li hl (i64_one ⟨by omega, by omega⟩), ?_⟩
 refine denR_call fpath0_ok ⟨l, a, hl, ⟨by omega, by omega⟩, by simp only [zz, reduceCtorEq, Lis.enc], _, rfl, ?_⟩
 have hM := most_le hR
 have hmono := walk_mono hR (Good.start ha) (n := most l.cues)
 have hgood := walk_good hR (Good.start ha) (n := most l.cues)
 have hWl := walk_len l.cues (most l.cues) ⟨a, [], 0⟩
 have hst := stop_has hR (n := most l.cues) ha
 have hit := fun {lim} h => path_it hl hR ha (N := most l.cues) (by unfold most; omega) (lim := lim) h
 have hkl := fun {L : List Wk} h1 h2 => keys_len hR (l := L) h1 h2
 unfold visR at hK
 generalize hW : walk l.cues (most l.cues) ⟨a, [], 0⟩ = W at *
 generalize hR0 : visGo (W.map Wk.key) [] [] = R0 at *
 have sort : ∀ (all : List Nat) (b : Bool), (∀ n ∈ all, n ≤ 1000000) → all.length ≤ 1000000 → (all, b) = R0 → ∀ {F ags ρ} {t1 : T} {r : R}, (.slice (ints (castI all)) = den ρ t1) → (∀ ss : List Int, K [.own 1 (ints ss), .d (.bool b)] → denR Tryz.prog F noK r ags (ρ ++ [.slice (ints ss)])) →
     denR Tryz.prog F noK (.callX true 136 [.own 1 t1] [.own [.int .i64]] r) ags ρ := by
   intro all b hall hlen he F ags ρ t1 r ht hr
   have hi : ∀ x ∈ castI all, I64 x := fun x hx => by
     obtain ⟨n, hn, rfl⟩ := List.mem_map.1 hx
     have := hall n hn
     exact ⟨by omega, by omega⟩
   refine denR_callX sortI_ok ⟨[.slice (ints (castI all))], by simp [pkRhoX, RT.den, ← ht], ⟨ints_has hi, trivial⟩⟩ (fun _ => rfl) ⟨castI all, hi, by simpa [castI] using hlen, by simp [RT.den, ← ht], fun ys h1 h2 => ⟨_, rfl, hr ys ?_⟩⟩
   rw [← he] at hK
   exact hK ys h1 h2
 rw [denR_iterL]
 refine ⟨W.map stopD, fun i c ys => c = none ∧ ∃ all fresh, ys = [.slice (ints (castI all)), .slice (encS fresh)] ∧ VisI (W.take i) all fresh ∧ visGo ((W.drop i).map Wk.key) all fresh = R0 ∧ SmallV2 i all fresh, ?_, hst, ⟨rfl, [], [], by simp [den, ints, castI, encS], by simpa using VisI.start, by simpa using hR0, ⟨by simp, by simp, by simp⟩⟩, ?_, ?_⟩
 · refine hit fun hlen => ?_
   rintro ⟨c, ys, _, all, fresh, _, hV, _, _⟩
   have h1 := hV.nd
   rw [List.take_of_length_le (by omega)] at h1
   have := hkl hgood h1
   omega
 · rintro i x fx c ys hx hfx hkf hks ⟨rfl, all, fresh, rfl, hV, hgo, hS⟩
   rw [List.getElem?_map, Option.map_eq_some_iff] at hx
   obtain ⟨s, hs, rfl⟩ := hx
   obtain rfl : [D.int .i64 s.a, .int .i64 s.g] = fx := by simpa [pkRho, stopD] using hfx
   obtain ⟨hil, hse⟩ := List.getElem?_eq_some_iff.1 hs
   have hsm := List.mem_of_getElem? hs
   have hG := goodW_of hR (hgood s hsm)
   have hsa := hG.at_
   have hsg := hG.g
   rw [List.drop_eq_getElem_cons hil, hse, List.map_cons] at hgo
   simp only [visGo] at hgo
   have hla := hS.la
   have hlf := hS.lf
   have hall : ∀ n ∈ all, n ≤ 1000000 := hS.a
   have hlF : (encS fresh).length = fresh.length := by simp [encS]
   have hlA : (ints (castI all)).length = all.length := by simp [ints, castI]
   simp only [zz, reduceCtorEq, Lis.enc, hlF]
   intro hcap
   refine loop_go fresh (fun _ l' (_ : Unit) => decide (s.key ∈ l')) (fun j _ => [.int .i64 j]) () _ rfl 0 (fun _ _ => rfl) rfl ?_ ?_
   · intro j hj _ hgo2
     have hget : (encS fresh).getD j [] = [.int .i64 fresh[j].1, .int .i64 fresh[j].2] := getD_map (enc := fun q : Nat × Nat => [D.int .i64 q.1, .int .i64 q.2]) hj
     simp only [zz, reduceCtorEq, Lis.enc, hlF, hj, hget]
     refine ⟨by omega, fun h => ?_, fun h => ?_⟩
     · have hin : s.key ∈ fresh := by
         have e : fresh[j] = s.key := by
           obtain ⟨h1, h2⟩ := h
           exact Prod.ext (by show fresh[j].1 = s.a; omega) (by show fresh[j].2 = s.g; omega)
         rw [← e]; exact List.getElem_mem hj
       rw [if_pos hin] at hgo
       refine sort all true hall (by omega) hgo (by simp only [zz, reduceCtorEq, Lis.enc]) fun ss h => ?_
       simp only [zz, reduceCtorEq, Lis.enc]
       exact h
     · refine ⟨(), by rw [wr64_eq] <;> omega, ?_⟩
       rw [← hgo2]
       have hne : ¬ s.key = fresh[j] := fun e => by
         rcases h with h | h | h
         · exact h (by rw [← e]; rfl)
         · exact h (by rw [← e]; rfl)
         · exact h
       exact decide_eq_decide.2 ⟨fun h => List.mem_cons_of_mem _ h, fun h => (List.mem_cons.1 h).resolve_left hne⟩
   · intro _ hgo2
     have hnin : s.key ∉ fresh := by
       intro h
       simp [h] at hgo2
     rw [if_neg hnin] at hgo
     have hstep := (hV.step hnin (fun p hp => by
         obtain ⟨q, hq, rfl⟩ := List.mem_iff_getElem.1 hp
         rw [List.length_take] at hq
         rw [List.getElem_take, ← hse]
         exact List.pairwise_iff_getElem.1 hmono q i (by omega) hil (by omega)) (fun l' hl' p hp => by
         obtain ⟨q, hq, rfl⟩ := List.mem_iff_getElem.1 hp
         rw [List.getLast?_eq_getElem?] at hl'
         obtain ⟨hj, rfl⟩ := List.getElem?_eq_some_iff.1 hl'
         simp only [List.length_take] at hq hj ⊢
         rw [List.getElem_take, List.getElem_take]
         rcases Nat.lt_or_ge q (min i W.length - 1) with h | h
         · exact List.pairwise_iff_getElem.1 hmono q _ (by omega) (by omega) h
         · have : q = min i W.length - 1 := by omega
           subst this; exact Nat.le_refl _)).1
     have htk : W.take (i + 1) = W.take i ++ [s] := by rw [List.take_add_one, hs]; rfl
     rw [← htk] at hstep
     have hnext : ∀ {ρ : List D} {ts : List T} {ags : Ags}, ags.inv 0 = (fun c' zs => c' = none ∧ ∃ all fresh, zs = [.slice (ints (castI all)), .slice (encS fresh)] ∧ VisI (W.take (i + 1)) all fresh ∧ visGo ((W.drop (i + 1)).map Wk.key) all fresh = R0 ∧ SmallV2 (i + 1) all fresh) → ags.cnt = none →
         ts.map (den ρ) = [.slice (ints (castI (allS all s.a))), .slice (encS (freshS fresh s.key))] → denR Tryz.prog (fun _ rs => K rs) noK (.again 0 ts) ags ρ := by
       intro ρ ts ags hi hc ht
       rw [denR_again, hi, hc, ht]
       refine ⟨rfl, _, _, rfl, hstep, hgo, ?_, ?_, ?_⟩
       · unfold allS
         split
         · omega
         · rw [List.length_append, List.length_singleton]; omega
       · unfold freshS; split
         · simp
         · simp only [List.length_cons] at hlf
           split <;> simp <;> omega
       · intro n hn
         rcases mem_allS.1 hn with h | rfl
         · exact hall n h
         · omega
     have hai : ∀ x ∈ castI all, I64 x := fun x hx => by
       obtain ⟨n, hn, rfl⟩ := List.mem_map.1 hx
       have := hall n hn
       exact ⟨by omega, by omega⟩
     have hsI : I64 (s.a : Int) := ⟨by omega, by omega⟩
     have hdec : decide ((s.a : Int) ∈ castI all) = decide (s.a ∈ all) := decide_eq_decide.2 castI_mem
     have fin : ∀ {ρ : List D} {t6 : T} {ags : Ags}, ρ.length = 10 → ags.inv 0 = (fun c' zs => c' = none ∧ ∃ all fresh, zs = [.slice (ints (castI all)), .slice (encS fresh)] ∧ VisI (W.take (i + 1)) all fresh ∧ visGo ((W.drop (i + 1)).map Wk.key) all fresh = R0 ∧ SmallV2 (i + 1) all fresh) → ags.cnt = none →
         den ρ (.var 5) = .slice (ints (castI all)) → den ρ (.var 7) = .int .i64 s.a → (∀ b : Bool, den (ρ ++ [.bool b]) t6 = .slice (encS (freshS fresh s.key))) →
         denR Tryz.prog (fun _ rs => K rs) noK (.call none (.fn 135) [.var 5, .var 7] [.cell .bool] (.ite (.o1 .not (.var 10)) (.need (.o2 .le (.o1 .len (.o2 .app (.var 5) (.push .nils (.lcons (.var 7) .lnil)))) (.int .i64 17592186044416)) (.again 0 [.o2 .app (.var 5) (.push .nils (.lcons (.var 7) .lnil)), t6])) (.again 0 [.var 5, t6]))) ags ρ := by
       intro ρ t6 ags hl10 hinv hcnt h5 h7 h6
       refine denR_call containsI_ok ⟨castI all, s.a, hai, hsI, by simp only [List.map_cons, List.map_nil, h5, h7], _, rfl, ?_⟩
       rw [hdec]
       simp only [List.append_nil]
       have v10 : ∀ b, den (ρ ++ [.bool b]) (.var 10) = .bool b := fun b => by simp [den, List.getD_eq_getElem?_getD, hl10]
       have v5 : ∀ b, den (ρ ++ [.bool b]) (.var 5) = .slice (ints (castI all)) := fun b => by
         rw [← h5]; simp [den, List.getD_eq_getElem?_getD, List.getElem?_append_left (show 5 < ρ.length by omega)]
       have v7 : ∀ b, den (ρ ++ [.bool b]) (.var 7) = .int .i64 s.a := fun b => by
         rw [← h7]; simp [den, List.getD_eq_getElem?_getD, List.getElem?_append_left (show 7 < ρ.length by omega)]
       have eapp : ∀ b, den (ρ ++ [.bool b]) (.o2 .app (.var 5) (.push .nils (.lcons (.var 7) .lnil))) = .slice (ints (castI all) ++ [[.int .i64 s.a]]) := fun b => by
         show O2.eval .app (den _ (.var 5)) ((den _ .nils).push (den _ (.lcons (.var 7) .lnil)).list) = _
         rw [v5]
         show D.slice (ints (castI all) ++ ([] ++ [[den _ (.var 7)]])) = _
         rw [v7]; rfl
       by_cases hin : s.a ∈ all
       · have e : decide (s.a ∈ all) = true := by simpa using hin
         rw [e]
         refine denR_iteF (by show O1.eval .not (den _ (.var 10)) = _; rw [v10]; rfl) (hnext hinv hcnt ?_)
         simp only [List.map_cons, List.map_nil, v5, h6, allS, hin, if_true]
       · have e : decide (s.a ∈ all) = false := by simpa using hin
         rw [e]
         refine denR_iteT (by show O1.eval .not (den _ (.var 10)) = _; rw [v10]; rfl) ⟨?_, hnext hinv hcnt ?_⟩
         · show O2.eval .le (O1.eval .len (den _ (.o2 .app (.var 5) (.push .nils (.lcons (.var 7) .lnil))))) (.int .i64 17592186044416) = _
           rw [eapp]
           simp only [O1.eval, O2.eval, List.length_append, hlA, List.length_cons, List.length_nil, D.bool.injEq, decide_eq_true_eq]
           omega
         · simp only [List.map_cons, List.map_nil, eapp, h6, allS, hin, if_false]
           simp [ints, castI]
     cases fresh with
     | nil =>
       simp only [zz, reduceCtorEq, Lis.enc, encS, List.map_nil, List.length_nil, List.length_cons, List.length_append, Nat.not_lt_zero]
       refine ⟨by simp, fin rfl rfl rfl rfl rfl fun b => ?_⟩
       rfl
     | cons f fs =>
       have hpos : 0 < (f :: fs).length := Nat.succ_pos _
       have hget0 : (encS (f :: fs)).getD 0 [] = [.int .i64 f.1, .int .i64 f.2] := rfl
       simp only [zz, reduceCtorEq, Lis.enc, hlF, hpos, hget0, List.length_append, List.length_nil]
       refine ⟨fun h => ⟨by simp, fin rfl rfl rfl rfl rfl fun b => ?_⟩, fun h => ⟨by simp at hlf ⊢; omega, fin rfl rfl rfl rfl rfl fun b => ?_⟩⟩
       · have hf : ¬ f.2 = s.key.2 := fun e => by
           have e2 : (f.2 : Int) = (s.g : Int) := by rw [e]; rfl
           simp [e2] at h
         simp only [freshS, hf, if_false]
         rfl
       · have hf : f.2 = s.key.2 := by
           have e2 : (f.2 : Int) = (s.g : Int) := by simpa using h
           show f.2 = s.g
           omega
         simp only [freshS, hf, if_true]
         simp [den, O2.eval, D.push, D.list, encS, Wk.key, hf]
 · rintro c ys hks ⟨rfl, all, fresh, rfl, hV, hgo, hS⟩
   rw [List.length_map] at hgo hS
   rw [List.drop_length] at hgo
   have hla := hS.la
   refine sort all false hS.a (by omega) hgo (by simp only [zz, reduceCtorEq, Lis.enc]) fun ss h => ?_
   simp only [zz, reduceCtorEq, Lis.enc]
   exact h
noncomputable def t58 : R := .call none (.fn 60) [.var 0] [.cell (.int .i64)] (.ite (.o2 .ne (.var 2) (.int .i64 0)) (.ret [.d (.int .i64 0), .d (.var 2)]) (.call none (.fn 104) [.var 1] [.cell (.int .i64)] (.ite (.o2 .ne (.var 3) (.int .i64 0)) (.ret [.d (.int .i64 0), .d (.var 3)]) (.call none (.fn 105) [.var 0, .var 1] [.cell (.int .i64)] (.ret [.d (.var 4), .d (.int .i64 0)])))))
theorem t58_ok : fnO Tryz.prog mdF 58 [.cell (.slice [.str, .int .i64]), .cell .str] = t58 := by kernel_rfl
theorem c58 : callable Tryz.prog 58 = true := by kernel_rfl
def endR (l : Lis) (s : List UInt8) : Bool × Int := if cue18 l s ≠ 0 then (false, cue18 l s) else (decide ((walk l.cues (most l.cues) (startW l s)).length = most l.cues), 0)
theorem vis_spec {l : Lis} {s : List UInt8} {a : Nat} (hS : Start l s a) : VisR l.cues ⟨a, [], 0⟩ (visR l.cues ⟨a, [], 0⟩).1 (visR l.cues ⟨a, [], 0⟩).2 := visited_spec hS.right (Good.start hS.lt)
theorem fendless_ok : Contract Tryz.prog 44 fun args K => ∃ (l : Lis) (s : List UInt8), l.Ok ∧ args = [.agg l.enc, .str s] ∧ K [.d (.bool (endR l s).1), .d (.int .i64 (endR l s).2)] := by
 refine .of c44 t44_ok ?_
 rintro _ K ⟨l, s, hl, rfl, hK⟩ hsm
 refine ⟨l.enc ++ [.str s], rfl, by exact has_s hl, ?_⟩
 refine denR_call fplace_ok ⟨l, s, hl, by simp only [zz, reduceCtorEq, Lis.enc], _, rfl, ?_⟩
 unfold endR at hK
 by_cases h : cue18 l s = 0
 · obtain ⟨a, hS⟩ := cue18_start hl h
   rw [if_neg (by simp [h]), hS.st] at hK
   rw [hS.pf, h]
   simp only [zz, reduceCtorEq, Lis.enc]
   refine denR_call visited_ok ⟨l, a, hl, hS.right, hS.lt, by simp only [zz, reduceCtorEq, Lis.enc], fun ss _ _ => ⟨_, rfl, ?_⟩⟩
   have hv := (vis_spec hS).end_
   have e : decide ((walk l.cues (most l.cues) ⟨a, [], 0⟩).length = most l.cues) = (visR l.cues ⟨a, [], 0⟩).2 := by
     rw [Bool.eq_iff_iff, decide_eq_true_eq]; exact hv.symm
   rw [e] at hK
   simp only [zz, reduceCtorEq, Lis.enc]
   exact hK
 · rw [if_pos h] at hK
   simp only [zz, reduceCtorEq, Lis.enc]
   exact ⟨fun _ => hK, fun h' => absurd h' h⟩
def reachR (l : Lis) (s : List UInt8) : List (List UInt8) × Int := if cue18 l s ≠ 0 then ([], cue18 l s) else (reachL l.cues (startW l s), 0)
theorem sorted_cast {all : List Nat} {ss : List Int} (hp : ss.Perm (castI all)) (hs : ss.Pairwise (· ≤ ·)) : ∃ ns : List Nat, ss = castI ns ∧ ns.Perm all ∧ ns.Pairwise (· ≤ ·) := by
 have hn : ∀ x ∈ ss, ∃ n : Nat, x = n := fun x hx => by
   obtain ⟨n, _, rfl⟩ := List.mem_map.1 (hp.mem_iff.1 hx)
   exact ⟨n, rfl⟩
 have he : castI (ss.map Int.toNat) = ss := by
   rw [castI, List.map_map]
   conv => rhs; rw [← List.map_id ss]
   refine List.map_congr_left fun x hx => ?_
   obtain ⟨n, rfl⟩ := hn x hx
   simp
 refine ⟨ss.map Int.toNat, he.symm, ?_, ?_⟩
 · have := hp.map Int.toNat
   rw [castI, List.map_map] at this
   have e2 : (all.map (Int.toNat ∘ fun n : Nat => (n : Int))) = all := by
     conv => rhs; rw [← List.map_id all]
     exact List.map_congr_left fun x _ => by simp
   rw [e2] at this
   exact this
 · rw [List.pairwise_map]
   exact hs.imp fun h => Int.toNat_le_toNat h
theorem freached_ok : Contract Tryz.prog 46 fun args K => ∃ (l : Lis) (s : List UInt8), l.Ok ∧ args = [.agg l.enc, .str s] ∧ ∀ rvs, TxtR (reachR l s) rvs → K rvs := by
 refine .of c46 t46_ok ?_
 rintro _ K ⟨l, s, hl, rfl, hK⟩ hsm
 refine ⟨l.enc ++ [.str s], rfl, by exact has_s hl, ?_⟩
 refine denR_call fplace_ok ⟨l, s, hl, by simp only [zz, reduceCtorEq, Lis.enc], _, rfl, ?_⟩
 unfold reachR at hK
 by_cases h : cue18 l s = 0
 · obtain ⟨a, hS⟩ := cue18_start hl h
   rw [if_neg (by simp [h]), hS.st] at hK
   rw [hS.pf, h]
   simp only [zz, reduceCtorEq, Lis.enc]
   refine denR_call visited_ok ⟨l, a, hl, hS.right, hS.lt, by simp only [zz, reduceCtorEq, Lis.enc], fun ss h1 h2 => ⟨_, rfl, ?_⟩⟩
   obtain ⟨ns, rfl, h3, h4⟩ := sorted_cast h1 h2
   have hv := vis_spec hS
   have hre := reached_eq hS.right (Good.start hS.lt) hv h3 h4
   have hlt : ∀ n ∈ ns, n < l.cues.length := fun n hn => hv.lt n (h3.mem_iff.1 hn)
   have hnl : ns.length ≤ 64 := by
     rw [h3.length_eq]
     exact Nat.le_trans (nodup_bound _ _ hv.nd hv.lt) hS.right.len
   rw [← hre] at hK
   have hil : (ints (castI ns)).length = ns.length := by simp [ints, castI]
   simp only [zz, reduceCtorEq, Lis.enc, hil]
   intro hcap
   refine loop_goI ns (fun _ l' (acc : List (List UInt8)) => acc ++ l'.map (numA l.cues)) (fun i acc => [.slice (txts acc), .int .i64 i]) (fun i acc => acc.length = i) [] (ns.map (numA l.cues)) rfl rfl 1 (fun _ _ => rfl) rfl ?_ ?_
   · intro i hi acc hI hgo
     have hn := hlt ns[i] (List.getElem_mem hi)
     have hget : (ints (castI ns)).getD i [] = [.int .i64 (ns[i] : Nat)] := by
       have : i < (castI ns).length := by simpa [castI] using hi
       rw [ints, getD_map (enc := fun x => [D.int .i64 x]) this]
       simp [castI]
     simp only [zz, reduceCtorEq, Lis.enc, hil, hi, hget, List.length_map, hn, getD_map hn, Cue.enc, List.length_append, txts_len, List.length_cons, List.length_nil]
     refine ⟨by omega, by omega, by simp; omega, acc ++ [numA l.cues ns[i]], ⟨?_, by rw [wr64_eq] <;> omega⟩, by simp [hI], by rw [← hgo]; simp only [List.map_cons, List.append_assoc, List.singleton_append]⟩
     rw [numA_at hn]; simp [txts]
   · intro acc hI hgo
     simp only [List.map_nil, List.append_nil] at hgo
     simp only [zz, reduceCtorEq, Lis.enc, hil]
     rw [hgo]
     exact hK _ (.inr rfl)
 · rw [if_pos h] at hK
   simp only [zz, reduceCtorEq, Lis.enc]
   exact ⟨fun _ => hK _ (.inl rfl), fun h' => absurd h' h⟩
theorem fof_ok : Contract Tryz.prog 58 fun args K => ∃ (k : List Cnt) (s : List UInt8), (∀ c ∈ k, c.Ok) ∧ args = [.slice (k.map Cnt.enc), .str s] ∧ K [.d (.int .i64 (ofR k s).1), .d (.int .i64 (ofR k s).2)] := by
 refine .of c58 t58_ok ?_
 rintro _ K ⟨k, s, hk, rfl, hK⟩ hsm
 refine ⟨[.slice (k.map Cnt.enc), .str s], rfl, ⟨cnts_has hk, trivial, trivial⟩, ?_⟩
 refine denR_call nchkC_ok ⟨k, hk, rfl, _, rfl, ?_⟩
 unfold ofR at hK
 simp only [zz, reduceCtorEq]
 refine ⟨fun h => ?_, fun h => ?_⟩
 · rw [if_pos (by simpa using h)] at hK; exact hK
 rw [if_neg (by simpa using h)] at hK
 have hC := rightC_of (by simpa using h)
 refine denR_call nCheck_ok ⟨s, rfl, _, rfl, ?_⟩
 simp only [zz, reduceCtorEq]
 refine ⟨fun h => ?_, fun h => ?_⟩
 · rw [if_pos (by simpa using h)] at hK; exact hK
 rw [if_neg (by simpa using h)] at hK
 exact denR_call fcount_ok ⟨k, s, hk, hC.num, hC.rising, by simpa using h, rfl, _, rfl, hK⟩
def nextF (l : Lis) (s : List UInt8) (k : List Cnt) : List UInt8 × List Cnt × Bool × Int :=
 if cue18 l s ≠ 0 then ([], [], false, cue18 l s) else if checkN order05 k ≠ 0 then ([], [], false, checkN order05 k) else
   match stepW l.cues ⟨(place l.cues s).toNat, k, 0⟩ with
   | some v => (numA l.cues v.a, v.k, true, 0)
   | none => ([], k, false, 0)
theorem stepW_at {cs : List Cue} {w v : Wk} (h : stepW cs w = some v) : v.a < cs.length := by
 unfold stepW at h
 split at h
 · cases h
 · rename_i c hc
   have ha := (List.getElem?_eq_some_iff.1 hc).1
   split at h
   · rename_i hf
     obtain ⟨j, hj, e, _⟩ := follows_pos hf
     have := Option.some.inj h
     rw [← this, e]; exact hj
   · split at h
     · cases h
     · have := Option.some.inj h
       rw [← this]; show w.a + 1 < cs.length; omega
theorem fnext_ok : Contract Tryz.prog 63 fun args K => ∃ (l : Lis) (s : List UInt8) (k : List Cnt), l.Ok ∧ (∀ c ∈ k, c.Ok) ∧ args = [.agg l.enc, .str s, .slice (k.map Cnt.enc)] ∧
   K [.d (.str (nextF l s k).1), .d (.slice ((nextF l s k).2.1.map Cnt.enc)), .d (.bool (nextF l s k).2.2.1), .d (.int .i64 (nextF l s k).2.2.2)] := by
 refine .of c63 t63_ok ?_
 rintro _ K ⟨l, s, k, hl, hk, rfl, hK⟩ hsm
 refine ⟨l.enc ++ [.str s, .slice (k.map Cnt.enc)], rfl, by exact has_li hl ⟨trivial, cnts_has hk, trivial⟩, ?_⟩
 refine denR_call fplace_ok ⟨l, s, hl, by simp only [zz, reduceCtorEq, Lis.enc], _, rfl, ?_⟩
 unfold nextF at hK
 by_cases h : cue18 l s = 0
 · obtain ⟨a, hS⟩ := cue18_start hl h
   have hcl := hS.right.len
   have ha := hS.lt
   rw [if_neg (by simp [h])] at hK
   rw [hS.pf, h]
   simp only [zz, reduceCtorEq, Lis.enc]
   refine denR_call nchkC_ok ⟨k, hk, by simp only [zz, reduceCtorEq, Lis.enc], _, rfl, ?_⟩
   simp only [zz, reduceCtorEq, Lis.enc]
   refine ⟨fun h2 => ?_, fun h2 => ?_⟩
   · rw [if_pos h2] at hK; exact hK
   rw [if_neg (by simpa using h2)] at hK
   have hC := rightC_of (k := k) (by simpa using h2)
   rw [hS.pl, Int.toNat_natCast] at hK
   refine denR_callX step_ok ⟨boxW l.cues k a 0, by simp only [zz, reduceCtorEq, Lis.enc, boxW, pkRhoX, wkKs, List.length_cons, List.length_nil]; simp, ⟨cues_has hl.cues, cnts_has hk, i64_has ⟨by omega, by omega⟩, i64_has ⟨by omega, by omega⟩, trivial⟩⟩ (fun _ => rfl)
     ⟨l.cues, ⟨a, k, 0⟩, hl.cues, hS.right, ha, hk, hC.num, hC.rising, by have := hC.len; show k.length ≤ 1000000; omega, Nat.zero_le _, by simp only [zz, reduceCtorEq, Lis.enc, boxW]; rfl, ?_⟩
   unfold stepRV
   cases hs : stepW l.cues ⟨a, k, 0⟩ with
   | none =>
     rw [hs] at hK
     refine ⟨_, rfl, ?_⟩
     simp only [zz, reduceCtorEq, Lis.enc, boxW]
     exact hK
   | some v =>
     rw [hs] at hK
     have hv := stepW_at hs
     have hn := numA_at hv
     refine ⟨_, rfl, ?_⟩
     simp only at hK
     rw [hn] at hK
     simp only [zz, reduceCtorEq, Lis.enc, boxW, List.length_map, hv, getD_map hv, Cue.enc]
     exact ⟨by omega, hK⟩
 · rw [if_pos h] at hK
   simp only [zz, reduceCtorEq, Lis.enc]
   exact ⟨fun _ => hK, fun h' => absurd h' h⟩
noncomputable def t90 : R := let x0 : T := .o1 .len (.var 2); .loop 0 [.int .i64 1, .int .i64 0] [.int .i64, .int .i64] (.fact (.o2 .le x0 (.int .i64 140737488355328)) (.ite (.o2 .lt (.var 4) x0) (.need (.o2 .le (.int .i64 0) (.var 4)) (.again 0 [.o2 (.add .i64) (.var 3) (.idx (.var 2) (.var 4) 8 (.int .i64)), .o2 (.add .i64) (.var 4) (.int .i64 1)])) (.ret [.d (.o2 (.add .i64) (.o2 (.mul .i64) (.var 3) x0) (.int .i64 1))])))
theorem t90_ok : fnO Tryz.prog mdA 90 [.agg [.int .i64, .int .i64, .slice [.str, .str, .slice [.int .i64, .int .i64, .int .i64, .int .i64, .int .i64], .slice [.int .i64, .int .i64, .int .i64, .int .i64, .int .i64, .int .i64], .bool, .bool, .int .i64, .str, .int .i64]]] = t90 := by kernel_rfl
theorem c90 : callable Tryz.prog 90 = true := by kernel_rfl
noncomputable def t45 : R := let x0 : T := .lcons (.var 1) (.lcons (.var 2) .lnil); .call none (.fn 74) [.lcons (.var 0) x0, .var 3] [.cell (.int .i64)] (.ite (.o2 .ne (.var 4) (.int .i64 0)) (.ret [.d (.bool false), .d (.var 4)]) (.call none (.fn 90) [.lcons (.var 0) x0] [.cell (.int .i64)] (.call none (.fn 94) [.lcons (.var 0) x0, .var 3, .var 5] [.cell (.slice [.str])] (.fact (.o2 .le (.o1 .len (.var 6)) (.int .i64 140737488355328)) (.call none (.fn 90) [.lcons (.var 0) x0] [.cell (.int .i64)] (.ret [.d (.o2 .eq (.o1 .len (.var 6)) (.var 7)), .d (.int .i64 0)]))))))
def folR (cs : List Cue) (a : Nat) (k : List Cnt) : List UInt8 × List Cnt × Bool := match stepW cs ⟨a, k, 0⟩ with
 | some v => (numA cs v.a, v.k, true)
 | none => ([], k, false)
theorem most_ok : Contract Tryz.prog 90 fun args K => ∃ (l : Lis), l.Ok ∧ RightW l.cues ∧ args = [.agg l.enc] ∧ K [.d (.int .i64 (most l.cues : Nat))] := by
 refine .of c90 t90_ok ?_
 rintro _ K ⟨l, hl, hR, rfl, hK⟩ hsm
 have hcl := hR.len
 refine ⟨l.enc, rfl, Lis.has hl, ?_⟩
 refine loop_goI l.cues (fun _ l' (acc : Int) => acc + sumL l') (fun i acc => [.int .i64 acc, .int .i64 i]) (fun i acc => 0 ≤ acc ∧ acc ≤ 1 + 100 * i) 1 (1 + sumL l.cues) rfl ⟨by omega, by omega⟩ 1 (fun _ _ => rfl) rfl ?_ ?_
 · intro i hi acc ⟨hI1, hI2⟩ hgo
   have hlp := hR.loops _ (List.getElem_mem hi)
   simp only [zz, reduceCtorEq, Lis.enc, hi, List.length_map, getD_map hi, Cue.enc]
   refine fun _ => ⟨by omega, acc + (l.cues[i]).loops, ⟨by rw [wr64_eq]; omega, by rw [wr64_eq] <;> omega⟩, ⟨by omega, by omega⟩, ?_⟩
   rw [← hgo]
   simp only [sumL, List.map_cons, List.sum_cons]; omega
 · intro acc ⟨hI1, hI2⟩ hgo
   have hs := sumL_le hR.loops
   have hacc : acc = 1 + sumL l.cues := by rw [← hgo]; simp [sumL]
   have hml := most_le hR
   have hmul : acc * (l.cues.length : Int) + 1 = ((most l.cues : Nat) : Int) := by
     unfold most
     rw [hacc]
     have e : (((sumL l.cues).toNat : Nat) : Int) = sumL l.cues := by omega
     rw [Int.natCast_add, Int.natCast_mul, Int.natCast_add, e, Int.add_comm 1]
     rfl
   have hb : 0 ≤ acc * (l.cues.length : Int) := Int.mul_nonneg hI1 (by omega)
   simp only [zz, reduceCtorEq, Lis.enc, List.length_map]
   intro _
   rw [wr64_eq (n := acc * (l.cues.length : Int)) (by omega), wr64_eq (by omega), hmul]
   exact hK
def putP : List Par → Par → List Par
 | [], p => [p]
 | q :: l, p => if q = p then q :: l else if before15 p q then p :: q :: l else q :: putP l p
def RisingP (l : List Par) : Prop := l.Pairwise fun a b => before15 a b = true
def pars (cs : List Cue) : List Par := cs.flatMap fun c => c.moves.map (·.pa)
def putAll (a : List Par) (ps : List Par) : List Par := ps.foldl putP a
def movedL (cs : List Cue) : List Par := putAll [] (pars cs)
def footP (a : List Par) (p : Par) : List Par := if p ∈ a then a else a ++ [p]
def footAll (a : List Par) (ps : List Par) : List Par := ps.foldl footP a
def footL (cs : List Cue) : List Par := footAll [] (pars cs)
def putGo (p : Par) (l0 : List Par) : List Par → List Par × Bool → List Par
 | [], (out, d) => if d then out else out ++ [p]
 | q :: xs, (out, d) => if q = p then l0 else if before15 p q && !d then putGo p l0 xs (out ++ [p] ++ [q], true) else putGo p l0 xs (out ++ [q], d)
structure MI (l : Lis) (n : Nat) (a : List Par) : Prop where
 ok : ∀ p ∈ a, p.Ok
 rising : RisingP a
 len : a.length ≤ n
def mdE : Go.Sx.Mode := { own := [], no := [231, 232, 233, 234, 235, 236, 237] }
noncomputable def t131 : R := let x1 : T := .idx (.var 2) (.var 4) 2 (.slice [.int .i64, .int .i64, .int .i64, .int .i64, .int .i64]); let x5 : List K := [.int .i64, .int .i64]; let x0 : T := .lcons (.idx x1 (.var 7) 0 (.int .i64)) (.lcons (.idx x1 (.var 7) 1 (.int .i64)) .lnil); let x3 : List K := [.slice x5, .int .i64, .slice [.agg x5, .bool]]; let x4 : T := .o2 .find (.var 8) x0; let x6 : T := .o2 .app (.var 6) (.push .nils x0); let x2 : T := .o1 .not (.ite (.o2 .ge x4 (.int .i64 0)) (.idx (.var 8) x4 1 .bool) (.bool false)); .fact (.o2 .le (.o1 .len (.var 2)) (.int .i64 140737488355328)) (.loop 0 [.nils, .int .i64 0, .nils] x3 (.ite (.o2 .lt (.var 4) (.o1 .len (.var 2))) (.need (.o2 .le (.int .i64 0) (.var 4)) (.fact (.o2 .le (.o1 .len x1) (.int .i64 140737488355328)) (.loop 1 [.var 3, .int .i64 0, .var 5] x3 (.ite (.o2 .lt (.var 7) (.o1 .len x1)) (.need (.o2 .le (.int .i64 0) (.var 7)) (.need (.ite x2 (.o2 .le (.o1 .len x6) (.int .i64 8796093022208)) (.bool true)) (.lets [.ite x2 x6 (.var 6), .ite x2 (.ite (.o2 .ge x4 (.int .i64 0)) (.upd (.var 8) x4 1 (.lcons (.bool true) .lnil)) (.push (.var 8) (.lcons x0 (.lcons (.bool true) .lnil)))) (.var 8)] (.again 1 [.var 9, .o2 (.add .i64) (.var 7) (.int .i64 1), .var 10])))) (.again 0 [.var 6, .o2 (.add .i64) (.var 4) (.int .i64 1), .var 8]))))) (.callX true 184 [.own 2 (.var 3), .d (.fn 185)] [.own x5] (.ret [.own 2 (.var 6)]))))
def seenR (l : List Par) : List (List D) := l.map fun p => [.agg p.enc, .bool true]
structure FI (l : Lis) (n : Nat) (a : List Par) : Prop where
 ok : ∀ p ∈ a, p.Ok
 len : a.length ≤ n
noncomputable def t37 : R := let x0 : List K := [.int .i64, .int .i64, .int .i64, .int .i64]; let x1 : T := .lcons (.var 1) (.lcons (.var 2) .lnil); .call none (.fn 87) [.lcons (.var 0) x1, .var 3] [.cell (.int .i64), .cell (.int .i64)] (.ite (.o2 .ne (.var 5) (.int .i64 0)) (.ret [.d .nils, .d (.var 5)]) (.call none (.fn 88) [.lcons (.var 0) x1, .o2 (.sub .i64) (.var 4) (.int .i64 1)] [.cell (.slice x0)] (.call none (.fn 88) [.lcons (.var 0) x1, .var 4] [.cell (.slice x0)] (.call none (.fn 89) [.var 6, .var 7] [.cell (.slice x0)] (.ret [.d (.var 8), .d (.int .i64 0)])))))
structure Ent where
 pa : Par
 va : Val
 deriving DecidableEq
def Ent.enc (e : Ent) : List D := [.int .i64 e.pa.ch, .int .i64 e.pa.at_, .int .i64 e.va.pal, .int .i64 e.va.lev]
def Ent.Ok (e : Ent) : Prop := e.pa.Ok ∧ e.va.Ok
def enKs : List K := [.int .i64, .int .i64, .int .i64, .int .i64]
def lookL (cs : List Cue) (n : Nat) : List Ent := (movedL cs).map fun p => ⟨p, valued cs p n⟩
def lookGo (cs : List Cue) (n : Nat) (ps : List Par) (acc : List Ent) : List Ent := acc ++ ps.map fun p => ⟨p, valued cs p n⟩
def diffE : List Ent → List Ent → List Ent
 | x :: a, y :: b => if x.va = y.va then diffE a b else y :: diffE a b
 | _, _ => []
def SamePs (a b : List Ent) : Prop := a.map (·.pa) = b.map (·.pa)
def lookR (l : Lis) (s : List UInt8) : List Ent × Int := if cue18 l s ≠ 0 then ([], cue18 l s) else (lookL l.cues (upto l s), 0)
def stepsR (l : Lis) (s : List UInt8) : List Ent × Int := if cue18 l s ≠ 0 then ([], cue18 l s) else (diffE (lookL l.cues (upto l s - 1)) (lookL l.cues (upto l s)), 0)
def changesR (l : Lis) (s t : List UInt8) : List Ent × Int := if cue18 l s ≠ 0 then ([], cue18 l s) else if cue18 l t ≠ 0 then ([], cue18 l t) else (diffE (lookL l.cues (upto l s)) (lookL l.cues (upto l t)), 0)
def footR (l : Lis) : List Par × Int := if checkL order05 l ≠ 0 then ([], checkL order05 l) else (movedL l.cues, 0)
def entRV (r : List Ent × Int) : List RV := [.d (.slice (r.1.map Ent.enc)), .d (.int .i64 r.2)]
def parRV (r : List Par × Int) : List RV := [.d (.slice (r.1.map Par.enc)), .d (.int .i64 r.2)]
noncomputable def t17 : R := let x0 : T := .o1 .len (.idx (.var 2) (.var 5) 2 (.slice [.int .i64, .int .i64, .int .i64, .int .i64, .int .i64])); let x1 : T := .lcons (.var 1) (.lcons (.var 2) .lnil); let x2 : T := .o1 .len (.var 2); .call none (.fn 66) [.lcons (.var 0) x1] [.cell .bool] (.ite (.o1 .not (.var 3)) (.ret [.d (.bool false)]) (.fact (.o2 .le x2 (.int .i64 140737488355328)) (.ite (.o2 .gt x2 (.int .i64 10)) (.call none (.fn 67) [.lcons (.var 0) x1] [.cell (.int .i64)] (.ret [.d (.o2 .ne (.var 4) (.int .i64 0))])) (.loop 0 [.int .i64 0, .int .i64 0] [.int .i64, .int .i64] (.ite (.o2 .lt (.var 5) x2) (.need (.o2 .le (.int .i64 0) (.var 5)) (.fact (.o2 .le x0 (.int .i64 140737488355328)) (.ite (.ite (.o2 .gt x0 (.int .i64 20)) (.bool true) (.o2 .gt (.o2 (.add .i64) (.var 4) x0) (.int .i64 30))) (.call none (.fn 67) [.lcons (.var 0) x1] [.cell (.int .i64)] (.ret [.d (.o2 .ne (.var 6) (.int .i64 0))])) (.again 0 [.o2 (.add .i64) (.var 4) x0, .o2 (.add .i64) (.var 5) (.int .i64 1)])))) (.ret [.d (.bool true)]))))))
theorem t17_ok : fnO Tryz.prog mdA 17 [.agg [.int .i64, .int .i64, .slice [.str, .str, .slice [.int .i64, .int .i64, .int .i64, .int .i64, .int .i64], .slice [.int .i64, .int .i64, .int .i64, .int .i64, .int .i64, .int .i64], .bool, .bool, .int .i64, .str, .int .i64]]] = t17 := by kernel_rfl
theorem c17 : callable Tryz.prog 17 = true := by kernel_rfl
noncomputable def t23 : R := let x0 : T := .o1 .len (.var 0); let x1 : T := .o1 .len (.var 1); .fact (.o2 .le x0 (.int .i64 140737488355328)) (.fact (.o2 .le x1 (.int .i64 140737488355328)) (.ite (.o2 .ne x0 x1) (.ret [.d (.bool false)]) (.loop 0 [.int .i64 0] [.int .i64] (.ite (.o2 .lt (.var 2) x0) (.need (.o2 .le (.int .i64 0) (.var 2)) (.need (.o2 .lt (.var 2) x1) (.ite (.o1 .not (.o2 .band (.o2 .band (.o2 .eq (.idx (.var 0) (.var 2) 0 (.int .i64)) (.idx (.var 1) (.var 2) 0 (.int .i64))) (.o2 .band (.o2 .eq (.idx (.var 0) (.var 2) 1 (.int .i64)) (.idx (.var 1) (.var 2) 1 (.int .i64))) (.bool true))) (.o2 .band (.o2 .band (.o2 .eq (.idx (.var 0) (.var 2) 2 (.int .i64)) (.idx (.var 1) (.var 2) 2 (.int .i64))) (.o2 .band (.o2 .eq (.idx (.var 0) (.var 2) 3 (.int .i64)) (.idx (.var 1) (.var 2) 3 (.int .i64))) (.bool true))) (.bool true)))) (.ret [.d (.bool false)]) (.again 0 [.o2 (.add .i64) (.var 2) (.int .i64 1)])))) (.ret [.d (.bool true)])))))
theorem few18_ok : Contract Tryz.prog 17 fun args K => ∃ (l : Lis), l.Ok ∧ args = [.agg l.enc] ∧ ∀ b : Bool, K [.d (.bool b)] := by
 refine .of c17 t17_ok ?_
 rintro _ K ⟨l, hl, rfl, hK⟩ hsm
 refine ⟨l.enc, rfl, Lis.has hl, ?_⟩
 refine denR_call few17_ok ⟨l, hl, by simp only [zz, reduceCtorEq, Lis.enc], _, rfl, ?_⟩
 simp only [zz, reduceCtorEq, Lis.enc, List.length_map]
 refine ⟨fun _ => hK false, fun _ hcap => ⟨fun _ => ?_, fun h10 => ?_⟩⟩
 · refine denR_call check17_ok ⟨l, hl, by simp only [zz, reduceCtorEq, Lis.enc], _, rfl, ?_⟩
   simp only [zz, reduceCtorEq]
   exact hK _
 · rw [denR_loop]
   refine ⟨fun c ys => c = none ∧ ∃ (i : Nat) (m : Int), i ≤ l.cues.length ∧ ys = [.int .i64 m, .int .i64 i], fun _ ys => match ys with | [_, .int _ i] => l.cues.length - i.toNat | _ => 0, ⟨rfl, 0, 0, Nat.zero_le _, rfl⟩, ?_⟩
   rintro _ _ _ ⟨rfl, i, m, hi, rfl⟩
   simp only [zz, reduceCtorEq, List.length_map]
   refine ⟨fun h => ?_, fun _ => hK true⟩
   have h : i < l.cues.length := by omega
   simp only [zz, reduceCtorEq, getD_map h, Cue.enc, List.length_map]
   refine ⟨by omega, fun hcap2 => ⟨fun _ => ?_, fun _ => ?_⟩⟩
   · refine denR_call check17_ok ⟨l, hl, by simp only [zz, reduceCtorEq, Lis.enc], _, rfl, ?_⟩
     simp only [zz, reduceCtorEq]
     exact hK _
   · refine ⟨⟨rfl, i + 1, _, by omega, ⟨rfl, ?_⟩⟩, ?_⟩
     · rw [wr64_eq (by omega)]; rfl
     · rw [wr64_eq (by omega)]
       show l.cues.length - ((i : Int) + 1).toNat < l.cues.length - ((i : Int)).toNat
       omega
def mv18 (c a v : Int) : Mov := ⟨⟨c, a⟩, ⟨0, v⟩, 1⟩
def zt : Tim := ⟨0, 0, 0, 0, 0, 0⟩
def cue169 (n : List UInt8) (b : Bool) (ms : List Mov) : Cue := ⟨n, [], ms, [zt], b, false, -1, [], 0⟩
def four : Lis := ⟨1, 0, [cue169 [49] false [mv18 1 0 100, mv18 1 1 7], cue169 [50] false [mv18 1 0 200], cue169 [51] true [mv18 1 1 9], cue169 [52] false [mv18 2 0 50]]⟩
end Go.Sx.La
