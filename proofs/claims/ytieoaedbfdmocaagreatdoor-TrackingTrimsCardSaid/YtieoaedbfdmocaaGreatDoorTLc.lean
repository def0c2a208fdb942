/-
 Contracts: layer 18 (tracking) and its reference.
-/
import Derived.Test.YtieoaedbfdmocaaGreatDoorTWa
import Derived.Test.YtieoaedbfdmocaaGreatDoorSortb
set_option linter.unusedSimpArgs false
set_option linter.unusedVariables false
set_option linter.unusedSectionVars false
set_option linter.defProp false
set_option maxRecDepth 100000
set_option maxRecDepth 100000
namespace Go.Sx.La
open Go Go.Sx Go.RowKit Go.Proofs
noncomputable def t174 : R := .ite (.o2 .ne (.var 0) (.var 2)) (.ret [.d (.o2 (.sub .i64) (.var 0) (.var 2))]) (.ret [.d (.o2 (.sub .i64) (.var 1) (.var 3))])
theorem t174_ok : fnO Tryz.prog mdA 174 [.agg [.int .i64, .int .i64], .agg [.int .i64, .int .i64]] = t174 := by kernel_rfl
theorem c174 : callable Tryz.prog 174 = true := by kernel_rfl
noncomputable def t173 : R := .call none (.fn 174) [.lcons (.var 0) (.lcons (.var 1) .lnil), .lcons (.var 5) (.lcons (.var 6) .lnil)] [.cell (.int .i64)] (.ret [.d (.var 7)])
theorem t173_ok : fnO Tryz.prog mdA 173 [.agg [.int .i64, .int .i64, .int .i64, .int .i64, .int .i64], .agg [.int .i64, .int .i64]] = t173 := by kernel_rfl
theorem c173 : callable Tryz.prog 173 = true := by kernel_rfl
noncomputable def t172 : R := .fact (.o2 .le (.o1 .len (.var 0)) (.int .i64 140737488355328)) (.loop 0 [.int .i64 0, .o1 .len (.var 0)] [.int .i64, .int .i64] (.ite (.o2 .lt (.var 4) (.var 5)) (.need (.o2 .ge (.int .u64 1) (.int .u64 0)) (.need (.o2 .le (.int .i64 0) (.o1 (.conv .i64) (.o2 (.shr .u64) (.o1 (.conv .u64) (.o2 (.add .i64) (.var 4) (.var 5))) (.int .u64 1)))) (.need (.o2 .lt (.o1 (.conv .i64) (.o2 (.shr .u64) (.o1 (.conv .u64) (.o2 (.add .i64) (.var 4) (.var 5))) (.int .u64 1))) (.o1 .len (.var 0))) (.call none (.val (.var 3)) [.lcons (.idx (.var 0) (.o1 (.conv .i64) (.o2 (.shr .u64) (.o1 (.conv .u64) (.o2 (.add .i64) (.var 4) (.var 5))) (.int .u64 1))) 0 (.int .i64)) (.lcons (.idx (.var 0) (.o1 (.conv .i64) (.o2 (.shr .u64) (.o1 (.conv .u64) (.o2 (.add .i64) (.var 4) (.var 5))) (.int .u64 1))) 1 (.int .i64)) (.lcons (.idx (.var 0) (.o1 (.conv .i64) (.o2 (.shr .u64) (.o1 (.conv .u64) (.o2 (.add .i64) (.var 4) (.var 5))) (.int .u64 1))) 2 (.int .i64)) (.lcons (.idx (.var 0) (.o1 (.conv .i64) (.o2 (.shr .u64) (.o1 (.conv .u64) (.o2 (.add .i64) (.var 4) (.var 5))) (.int .u64 1))) 3 (.int .i64)) (.lcons (.idx (.var 0) (.o1 (.conv .i64) (.o2 (.shr .u64) (.o1 (.conv .u64) (.o2 (.add .i64) (.var 4) (.var 5))) (.int .u64 1))) 4 (.int .i64)) .lnil)))), .lcons (.var 1) (.lcons (.var 2) .lnil)] [.cell (.int .i64)] (.lets [.ite (.o2 .lt (.var 6) (.int .i64 0)) (.o2 (.add .i64) (.o1 (.conv .i64) (.o2 (.shr .u64) (.o1 (.conv .u64) (.o2 (.add .i64) (.var 4) (.var 5))) (.int .u64 1))) (.int .i64 1)) (.var 4), .ite (.o2 .lt (.var 6) (.int .i64 0)) (.var 5) (.o1 (.conv .i64) (.o2 (.shr .u64) (.o1 (.conv .u64) (.o2 (.add .i64) (.var 4) (.var 5))) (.int .u64 1)))] (.again 0 [.var 7, .var 8])))))) (.need (.ite (.o2 .lt (.var 4) (.o1 .len (.var 0))) (.o2 .le (.int .i64 0) (.var 4)) (.bool true)) (.call (some (.o2 .lt (.var 4) (.o1 .len (.var 0)))) (.val (.var 3)) [.lcons (.idx (.var 0) (.var 4) 0 (.int .i64)) (.lcons (.idx (.var 0) (.var 4) 1 (.int .i64)) (.lcons (.idx (.var 0) (.var 4) 2 (.int .i64)) (.lcons (.idx (.var 0) (.var 4) 3 (.int .i64)) (.lcons (.idx (.var 0) (.var 4) 4 (.int .i64)) .lnil)))), .lcons (.var 1) (.lcons (.var 2) .lnil)] [.cell (.int .i64)] (.ret [.d (.var 4), .d (.ite (.o2 .lt (.var 4) (.o1 .len (.var 0))) (.o2 .eq (.var 6) (.int .i64 0)) (.bool false))])))))
theorem t172_ok : fnO Tryz.prog mdA 172 [.cell (.slice [.int .i64, .int .i64, .int .i64, .int .i64, .int .i64]), .agg [.int .i64, .int .i64], .cell .fn] = t172 := by kernel_rfl
theorem c172 : callable Tryz.prog 172 = true := by kernel_rfl
noncomputable def t175 : R := .ret [.d (.lcons (.int .i64 (-1)) (.lcons (.int .i64 0) .lnil))]
theorem t175_ok : fnO Tryz.prog mdA 175 [] = t175 := by kernel_rfl
theorem c175 : callable Tryz.prog 175 = true := by kernel_rfl
noncomputable def t118 : R := .call none (.fn 172) [.var 2, .lcons (.var 9) (.lcons (.var 10) .lnil), .fn 173] [.cell (.int .i64), .cell .bool] (.ite (.o1 .not (.var 12)) (.call none (.fn 175) [] [.agg [.int .i64, .int .i64]] (.ret [.d (.lcons (.var 13) (.lcons (.var 14) .lnil)), .d (.bool false)])) (.need (.o2 .le (.int .i64 0) (.var 11)) (.need (.o2 .lt (.var 11) (.o1 .len (.var 2))) (.ret [.d (.lcons (.idx (.var 2) (.var 11) 2 (.int .i64)) (.lcons (.idx (.var 2) (.var 11) 3 (.int .i64)) .lnil)), .d (.bool true)]))))
theorem t118_ok : fnO Tryz.prog mdA 118 [.agg [.str, .str, .slice [.int .i64, .int .i64, .int .i64, .int .i64, .int .i64], .slice [.int .i64, .int .i64, .int .i64, .int .i64, .int .i64, .int .i64], .bool, .bool, .int .i64, .str, .int .i64], .agg [.int .i64, .int .i64]] = t118 := by kernel_rfl
theorem c118 : callable Tryz.prog 118 = true := by kernel_rfl
theorem param15_ok' {p : Par} (h : param15 p = 0) : 1 ≤ p.ch ∧ p.ch ≤ 999 ∧ 0 ≤ p.at_ ∧ p.at_ < 15 := by
 unfold param15 at h
 split at h
 · cases h
 · omega
theorem Par.ext' {p q : Par} (h1 : p.ch = q.ch) (h2 : p.at_ = q.at_) : p = q := by cases p; cases q; simp_all
theorem pcmp_neg {p q : Par} (hp : param15 p = 0) (hq : param15 q = 0) : pcmp p q < 0 ↔ before15 p q = true := by
 have h1 := param15_ok' hp
 have h2 := param15_ok' hq
 simp only [pcmp, before15, Bool.or_eq_true, Bool.and_eq_true, decide_eq_true_eq]
 split <;> rw [wr64_eq (by omega)] <;> omega
theorem pcmp_zero {p q : Par} (hp : param15 p = 0) (hq : param15 q = 0) : pcmp p q = 0 ↔ p = q := by
 have h1 := param15_ok' hp
 have h2 := param15_ok' hq
 simp only [pcmp]
 constructor
 · intro h
   split at h <;> rw [wr64_eq (by omega)] at h
   · omega
   · exact Par.ext' (by omega) (by omega)
 · rintro rfl
   simp [wr64_eq]
theorem before_irr (p : Par) : before15 p p = false := by simp [before15]
theorem before_trans {p q r : Par} (h1 : before15 p q = true) (h2 : before15 q r = true) : before15 p r = true := by
 simp only [before15, Bool.or_eq_true, Bool.and_eq_true, decide_eq_true_eq] at *
 omega
theorem before_total {p q : Par} (h1 : before15 p q = false) (h2 : before15 q p = false) : p = q := by
 simp only [before15, Bool.or_eq_false_iff, Bool.and_eq_false_iff, decide_eq_false_iff_not] at *
 exact Par.ext' (by omega) (by omega)
def RisingM (ms : List Mov) : Prop := ms.Pairwise fun a b => before15 a.pa b.pa = true
theorem movesGo_zero {xs : List Mov} : ∀ (cs : List Mov) (i : Nat), cs = xs.drop i → movesGo xs i cs = 0 → (∀ c ∈ cs, param15 c.pa = 0) ∧ (∀ j, i ≤ j → 0 < j → (hj : j < xs.length) → before15 (xs[j - 1]'(by omega)).pa (xs[j]).pa = true)
 | [], i, he, _ => ⟨by simp, fun j h1 h2 h3 => by
     have := congrArg List.length he
     simp at this
     omega⟩
 | c :: cs, i, he, h => by
   have hlt : i < xs.length := by
     rcases Nat.lt_or_ge i xs.length with h | h
     · exact h
     · rw [List.drop_eq_nil_of_le h] at he; cases he
   rw [List.drop_eq_getElem_cons hlt] at he
   obtain ⟨rfl, rfl⟩ := List.cons.inj he
   simp only [movesGo] at h
   split at h
   · rename_i hc; exact absurd h hc
   rename_i hc
   have hc : param15 xs[i].pa = 0 := by simpa using hc
   split at h
   · rename_i hc; exact absurd h hc
   split at h
   · cases h
   split at h
   · cases h
   rename_i ho
   obtain ⟨g1, g2⟩ := movesGo_zero (xs.drop (i + 1)) (i + 1) rfl h
   refine ⟨fun d hd => ?_, fun j h1 h2 h3 => ?_⟩
   · rcases List.mem_cons.1 hd with rfl | hd
     · exact hc
     · exact g1 d hd
   · rcases Nat.eq_or_lt_of_le h1 with rfl | h1
     · rw [getElem!_pos xs (i - 1) (by omega)] at ho
       rcases Bool.eq_false_or_eq_true (before15 (xs[i - 1]'(by omega)).pa (xs[i]).pa) with hb | hb
       · exact hb
       · exact absurd ⟨h2, hb⟩ ho
     · exact g2 j h1 h2 h3
structure RightM (ms : List Mov) : Prop where
 par : ∀ m ∈ ms, param15 m.pa = 0
 rising : RisingM ms
 len : ms.length ≤ 128
theorem rightM_of {ms : List Mov} (h : moves16 ms = 0) : RightM ms := by
 unfold moves16 at h
 split at h
 · cases h
 · rename_i hl
   obtain ⟨g1, g2⟩ := movesGo_zero ms 0 rfl h
   refine ⟨g1, ?_, by omega⟩
   rw [RisingM, List.pairwise_iff_getElem]
   have step : ∀ (n i : Nat) (hi : i + n + 1 < ms.length), before15 (ms[i]'(by omega)).pa (ms[i + n + 1]).pa = true := by
     intro n
     induction n with
     | zero => intro i hi; exact g2 (i + 1) (Nat.zero_le _) (by omega) hi
     | succ n ih => intro i hi; exact before_trans (ih i (by omega)) (g2 (i + (n + 1) + 1) (Nat.zero_le _) (by omega) hi)
   intro i j hi hj hij
   obtain ⟨n, rfl⟩ : ∃ n, j = i + n + 1 := ⟨j - i - 1, by omega⟩
   exact step n i hj
theorem check16_moves {c : Cue} (h : check16 c = 0) : moves16 c.moves = 0 := by
 simp only [check16] at h
 split at h
 · rename_i h1; exact absurd h h1
 split at h
 · rename_i h1; exact absurd h h1
 split at h
 · rename_i h1; exact absurd h h1
 · rename_i h1; simpa using h1
theorem tcmp_ok : Contract Tryz.prog 174 fun args K => ∃ p q : Par, p.Ok ∧ q.Ok ∧ args = [.agg p.enc, .agg q.enc] ∧ K [.d (.int .i64 (pcmp p q))] := by
 refine .of c174 t174_ok ?_
 rintro _ K ⟨p, q, hp, hq, rfl, hK⟩ hsm
 refine ⟨p.enc ++ q.enc, rfl, by exact (Par.has hp).append (Par.has hq), ?_⟩
 simp only [pcmp] at hK
 simp only [zz, RT.den, den, O1.eval, O2.eval, D.eqb, reduceCtorEq, D.sub, D.cell, D.elem, D.cells, D.padd, D.list, D.push, t174, Par.enc]
 grind
theorem tmove1_ok : Contract Tryz.prog 173 fun args K => ∃ (m : Mov) (q : Par), m.Ok ∧ q.Ok ∧ args = [.agg m.enc, .agg q.enc] ∧ K [.d (.int .i64 (pcmp m.pa q))] := by
 refine .of c173 t173_ok ?_
 rintro _ K ⟨m, q, hm, hq, rfl, hK⟩ hsm
 refine ⟨m.enc ++ q.enc, rfl, by exact (Mov.has hm).append (Par.has hq), ?_⟩
 refine denR_call tcmp_ok ⟨m.pa, q, hm.1, hq, rfl, _, rfl, ?_⟩
 simp only [zz, RT.den, den, O1.eval, O2.eval, D.eqb, reduceCtorEq, D.sub, D.cell, D.elem, D.cells, D.padd, D.list, D.push, Mov.enc, Par.enc]
 exact hK
theorem thome_ok : Contract Tryz.prog 175 fun args K => args = [] ∧ K [.d (.agg (Val.enc ⟨-1, 0⟩))] := by
 refine .of c175 t175_ok ?_
 rintro _ K ⟨rfl, hK⟩ hsm
 exact ⟨[], rfl, trivial, hK⟩
def low (ms : List Mov) (p : Par) : Nat := (ms.takeWhile fun m => before15 m.pa p).length
theorem low_of {ms : List Mov} {p : Par} : ∀ {i : Nat}, i ≤ ms.length → (∀ k (hk : k < ms.length), k < i → before15 (ms[k]).pa p = true) → (∀ k (hk : k < ms.length), i ≤ k → before15 (ms[k]).pa p = false) → low ms p = i := by
 induction ms with
 | nil => intro i h _ _; simp at h; simp [low, h]
 | cons m ms ih =>
   intro i hi h1 h2
   cases i with
   | zero => have := h2 0 (by simp) (by simp); simp at this; simp [low, this]
   | succ i =>
     have h0 := h1 0 (by simp) (by omega)
     simp at h0
     have := ih (i := i) (by simpa using hi) (fun k hk hki => by have := h1 (k + 1) (by simpa using hk) (by omega); simpa using this) (fun k hk hki => by have := h2 (k + 1) (by simpa using hk) (by omega); simpa using this)
     simp only [low] at this
     simp [low, h0, this]
theorem u64_id {n : Int} (h : 0 ≤ n ∧ n ≤ 9223372036854775807) : IntKind.u64.wrap n = n :=
 wrap_id .u64 n (by simp [IntKind.min, IntKind.signed]; omega) (by simp [IntKind.max, IntKind.signed, IntKind.bits]; omega)
theorem mid_eq {lo hi : Nat} (h : lo + hi ≤ 281474976710656) : wr64 (IntKind.u64.wrap ((IntKind.u64.wrap (wr64 ((lo : Int) + hi))).fdiv (2 ^ min (Int.toNat 1) IntKind.u64.bits))) = ((lo + hi) / 2 : Nat) := by
 have e : (2 : Int) ^ min (Int.toNat 1) IntKind.u64.bits = 2 := by
   simp [IntKind.bits]
 rw [e, wr64_eq (n := (lo : Int) + hi) (by omega), u64_id (n := (lo : Int) + hi) (by omega)]
 have e2 : ((lo : Int) + hi).fdiv 2 = ((lo + hi) / 2 : Nat) := by
   rw [Int.fdiv_eq_ediv_of_nonneg _ (by omega)]; omega
 rw [e2, u64_id (by omega), wr64_eq (by omega)]
theorem denR_gfcall {P : Program} {F : Option Nat → List RV → Prop} {t : T} {s : Spec} {args : List T} {res : List RK} {r : R} {ags : Ags} {ρ : List D} {c : T} (b : Bool) (v : List D) (hb : den ρ c = .bool b)
   (h1 : b = true → FvC P (den ρ t) s ∧ s (args.map (den ρ)) fun rvs => ∃ rs, RV.all res rvs = some rs ∧ HasKs (RK.all res) rs ∧ rs = v) (h2 : b = false → Go.Sx.K.zeros (RK.all res) = v)
   (h3 : denR P F noK r ags (ρ ++ v)) : denR P F noK (.call (some c) (.val t) args res r) ags ρ :=
 ⟨fun rs => rs = v, fun h => ⟨s, h1 (by rw [hb] at h; exact D.bool.inj h)⟩, fun h => h2 (by rw [hb] at h; exact D.bool.inj h), fun rs _ h => by rw [h]; exact h3⟩
theorem bsearchG_ok : Contract Tryz.prog 172 fun args K => ∃ (ms : List Mov) (p : Par) (g : FuncId), (∀ m ∈ ms, m.Ok) ∧ p.Ok ∧ RightM ms ∧ param15 p = 0 ∧ (∀ m ∈ ms, FvC Tryz.prog (.clo g []) fun as_ K => as_ = [.agg m.enc, .agg p.enc] ∧ K [.d (.int .i64 (pcmp m.pa p))]) ∧
   args = [.slice (ms.map Mov.enc), .agg p.enc, .clo g []] ∧ K [.d (.int .i64 (low ms p)), .d (.bool (ms.any fun m => decide (m.pa = p)))] := by
 refine .of c172 t172_ok ?_
 rintro _ K ⟨ms, p, g, hms, hp, hR, hpp, hfv, rfl, hK⟩ hsm
 refine ⟨[.slice (ms.map Mov.enc)] ++ p.enc ++ [.clo g []], rfl, ?_, ?_⟩
 · exact ⟨slice_has fun m hm => Mov.has (hms m hm), i64_has hp.1, i64_has hp.2, trivial, trivial⟩
 have hlen := hR.len
 have hi64 : ∀ m ∈ ms, HasKs (RK.all [.cell (.int .i64)]) [.int .i64 (pcmp m.pa p)] := by
   intro m hm
   have h1 := param15_ok' (hR.par m hm)
   have h2 := param15_ok' hpp
   refine ⟨i64_has ?_, trivial⟩
   unfold pcmp
   split <;> rw [wr64_eq (by omega)] <;> exact ⟨by omega, by omega⟩
 simp only [zz, RT.den, den, O1.eval, O2.eval, D.eqb, reduceCtorEq, D.sub, D.cell, D.elem, D.cells, D.padd, D.list, D.push, t172, List.length_map, Par.enc]
 intro hcap
 rw [denR_loop]
 refine ⟨fun c ys => c = none ∧ ∃ lo hi : Nat, lo ≤ hi ∧ hi ≤ ms.length ∧ (∀ k (hk : k < ms.length), k < lo → before15 (ms[k]).pa p = true) ∧ (∀ k (hk : k < ms.length), hi ≤ k → before15 (ms[k]).pa p = false) ∧ ys = [.int .i64 lo, .int .i64 hi],
   fun ys => match ys with | [.int _ lo, .int _ hi] => (hi - lo).toNat | _ => 0, ⟨rfl, 0, ms.length, Nat.zero_le _, Nat.le_refl _, fun k hk h => by omega, fun k hk h => by omega, ?_⟩, ?_⟩
 · simp only [zz, RT.den, den, O1.eval, O2.eval, D.eqb, reduceCtorEq, D.sub, D.cell, D.elem, D.cells, D.padd, D.list, D.push, List.length_map]
   rfl
 rintro _ _ _ ⟨rfl, lo, hi, hlh, hhi, hlo, hhi2, rfl⟩
 have fcall : ∀ (k : Nat) (hk : k < ms.length), FvC Tryz.prog (.clo g []) fun as_ K => as_ = [.agg [.int .i64 ms[k].pa.ch, .int .i64 ms[k].pa.at_, .int .i64 ms[k].va.pal, .int .i64 ms[k].va.lev, .int .i64 ms[k].part], .agg [.int .i64 p.ch, .int .i64 p.at_]] ∧ K [.d (.int .i64 (pcmp ms[k].pa p))] :=
   fun k hk => hfv ms[k] (List.getElem_mem hk)
 rcases Nat.lt_or_ge lo hi with hlt | hge
 · obtain ⟨k, hk1, hk2, hmid⟩ : ∃ k : Nat, lo ≤ k ∧ k < hi ∧ wr64 (IntKind.u64.wrap ((IntKind.u64.wrap (wr64 ((lo : Int) + hi))).fdiv (2 ^ min (Int.toNat 1) IntKind.u64.bits))) = (k : Int) :=
     ⟨(lo + hi) / 2, by omega, by omega, mid_eq (by omega)⟩
   have hm : k < ms.length := by omega
   simp only [zz, RT.den, den, O1.eval, O2.eval, D.eqb, reduceCtorEq, D.sub, D.cell, D.elem, D.cells, D.padd, D.list, D.push, List.length_map, hlt, hmid]
   refine ⟨by omega, by omega, hm, denR_fcall (fcall k hm) ⟨?_, [.int .i64 (pcmp ms[k].pa p)], rfl, hi64 ms[k] (List.getElem_mem hm), ?_⟩⟩
   · simp only [zz, RT.den, den, O1.eval, O2.eval, D.eqb, reduceCtorEq, D.sub, D.cell, D.elem, D.cells, D.padd, D.list, D.push, hmid, getD_map hm, Mov.enc]
   · simp only [zz, RT.den, den, O1.eval, O2.eval, D.eqb, reduceCtorEq, D.sub, D.cell, D.elem, D.cells, D.padd, D.list, D.push, hmid]
     have hc := pcmp_neg (hR.par ms[k] (List.getElem_mem hm)) hpp
     by_cases hneg : pcmp ms[k].pa p < 0
     · simp only [zz, RT.den, den, O1.eval, O2.eval, D.eqb, reduceCtorEq, D.sub, D.cell, D.elem, D.cells, D.padd, D.list, D.push, hneg, wr64_eq (n := (k : Int) + 1) (by omega)]
       refine ⟨⟨rfl, k + 1, hi, by omega, hhi, fun q hq hqk => ?_, hhi2, by simp⟩, by omega⟩
       rcases Nat.lt_or_ge q k with h | h
       · exact before_trans (List.pairwise_iff_getElem.1 hR.rising q k hq hm h) (hc.1 hneg)
       · have : q = k := by omega
         subst this; exact hc.1 hneg
     · simp only [zz, RT.den, den, O1.eval, O2.eval, D.eqb, reduceCtorEq, D.sub, D.cell, D.elem, D.cells, D.padd, D.list, D.push, hneg]
       refine ⟨⟨rfl, lo, k, by omega, by omega, hlo, fun q hq hqk => ?_, ⟨rfl, rfl⟩⟩, by omega⟩
       rw [Bool.eq_false_iff]
       intro hb
       rcases Nat.lt_or_ge k q with h | h
       · exact hneg (hc.2 (before_trans (List.pairwise_iff_getElem.1 hR.rising k q hm hq h) hb))
       · have : q = k := by omega
         subst this; exact hneg (hc.2 hb)
 · have : lo = hi := by omega
   subst this
   have hlow := low_of (ms := ms) (p := p) hhi hlo hhi2
   simp only [zz, RT.den, den, O1.eval, O2.eval, D.eqb, reduceCtorEq, D.sub, D.cell, D.elem, D.cells, D.padd, D.list, D.push, List.length_map, Nat.lt_irrefl]
   have hany : ∀ (h : lo < ms.length), (ms.any fun m => decide (m.pa = p)) = decide (pcmp ms[lo].pa p = 0) := by
     intro h
     have hz := pcmp_zero (hR.par ms[lo] (List.getElem_mem h)) hpp
     rw [Bool.eq_iff_iff]
     simp only [List.any_eq_true, decide_eq_true_eq, hz]
     refine ⟨fun ⟨m, hm, he⟩ => ?_, fun he => ⟨ms[lo], List.getElem_mem h, he⟩⟩
     obtain ⟨q, hq, rfl⟩ := List.getElem_of_mem hm
     rcases Nat.lt_trichotomy q lo with h1 | h1 | h1
     · have := hlo q hq h1
       rw [he, before_irr] at this; cases this
     · subst h1; exact he
     · have h2 := List.pairwise_iff_getElem.1 hR.rising lo q h hq h1
       have h3 := hhi2 lo h (Nat.le_refl _)
       rw [he] at h2; rw [h2] at h3; cases h3
   have hnone : ms.length ≤ lo → (ms.any fun m => decide (m.pa = p)) = false := by
     intro h
     rw [List.any_eq_false]
     intro m hm he
     obtain ⟨q, hq, rfl⟩ := List.getElem_of_mem hm
     have := hlo q hq (by omega)
     simp only [decide_eq_true_eq] at he
     rw [he, before_irr] at this; cases this
   refine ⟨by split <;> simp, ?_⟩
   rcases Nat.lt_or_ge lo ms.length with h | h
   · refine denR_gfcall (s := _) true [.int .i64 (pcmp ms[lo].pa p)] (by simp only [zz, RT.den, den, O1.eval, O2.eval, D.eqb, reduceCtorEq, D.sub, D.cell, D.elem, D.cells, D.padd, D.list, D.push, List.length_map, h]) (fun _ => ⟨fcall lo h, ?_, [.int .i64 (pcmp ms[lo].pa p)], rfl, hi64 ms[lo] (List.getElem_mem h), rfl⟩) (fun e => by cases e) ?_
     · simp only [zz, RT.den, den, O1.eval, O2.eval, D.eqb, reduceCtorEq, D.sub, D.cell, D.elem, D.cells, D.padd, D.list, D.push, getD_map h, Mov.enc]
     · rw [hany h, hlow] at hK
       simp only [zz, RT.den, den, O1.eval, O2.eval, D.eqb, reduceCtorEq, D.sub, D.cell, D.elem, D.cells, D.padd, D.list, D.push, List.length_map, h]
       simpa using hK
   · have hn : ¬ lo < ms.length := by omega
     refine denR_gfcall (s := fun _ _ => True) false [.int .i64 0] (by simp only [zz, RT.den, den, O1.eval, O2.eval, D.eqb, reduceCtorEq, D.sub, D.cell, D.elem, D.cells, D.padd, D.list, D.push, List.length_map, hn]) (fun e => by cases e) (fun _ => rfl) ?_
     rw [hnone h, hlow] at hK
     simp only [zz, RT.den, den, O1.eval, O2.eval, D.eqb, reduceCtorEq, D.sub, D.cell, D.elem, D.cells, D.padd, D.list, D.push, List.length_map, hn]
     exact hK
theorem tmove1_fv {m : Mov} {p : Par} (hm : m.Ok) (hp : p.Ok) : FvC Tryz.prog (.clo 173 []) fun as_ K => as_ = [.agg m.enc, .agg p.enc] ∧ K [.d (.int .i64 (pcmp m.pa p))] := by
 refine FvC.of c173 tmove1_ok ?_
 rintro _ K ⟨rfl, hK⟩
 refine ⟨⟨m, p, hm, hp, rfl, hK⟩, argsTyped_of [some (.agg mvKs), some (.agg paKs)] (by kernel_rfl) ?_⟩
 intro i rk d h1 h2
 match i, h1, h2 with
 | 0, h1, h2 => simp at h1 h2; subst h1 h2; exact Mov.has hm
 | 1, h1, h2 => simp at h1 h2; subst h1 h2; exact Par.has hp
theorem bsearch_ok : Contract Tryz.prog 172 fun args K => ∃ (ms : List Mov) (p : Par), (∀ m ∈ ms, m.Ok) ∧ p.Ok ∧ RightM ms ∧ param15 p = 0 ∧ args = [.slice (ms.map Mov.enc), .agg p.enc, .clo 173 []] ∧ K [.d (.int .i64 (low ms p)), .d (.bool (ms.any fun m => decide (m.pa = p)))] :=
 bsearchG_ok.weaken fun args K _ ⟨ms, p, hms, hp, hR, hpp, e, hK⟩ => ⟨ms, p, 173, hms, hp, hR, hpp, fun m hm => tmove1_fv (hms m hm) hp, e, hK⟩
def mfind (ms : List Mov) (p : Par) : Option Mov := ms.find? fun m => decide (m.pa = p)
def hval : Val := ⟨-1, 0⟩
theorem any_mfind (ms : List Mov) (p : Par) : (ms.any fun m => decide (m.pa = p)) = (mfind ms p).isSome := by
 rw [Bool.eq_iff_iff, mfind, List.find?_isSome]; simp
theorem low_mfind {ms : List Mov} {p : Par} (hR : RightM ms) {m : Mov} (h : mfind ms p = some m) : ∃ hl : low ms p < ms.length, ms[low ms p] = m := by
 obtain ⟨h1, i, hi, h2, h3⟩ := List.find?_eq_some_iff_getElem.1 h
 simp only [decide_eq_true_eq] at h1
 have hlow : low ms p = i := by
   refine low_of (Nat.le_of_lt hi) (fun k hk hki => ?_) (fun k hk hik => ?_)
   · rw [← h1, ← h2]; exact List.pairwise_iff_getElem.1 hR.rising k i hk hi hki
   · rw [Bool.eq_false_iff]
     intro hb
     rcases Nat.lt_or_ge i k with h | h
     · have := before_trans (List.pairwise_iff_getElem.1 hR.rising i k hi hk h) hb
       rw [h2, h1, before_irr] at this; cases this
     · have : i = k := by omega
       subst this
       rw [h2, h1, before_irr] at hb; cases hb
 exact ⟨by omega, by simp only [hlow]; exact h2⟩
theorem tmove_ok : Contract Tryz.prog 118 fun args K => ∃ (c : Cue) (p : Par), c.Ok ∧ p.Ok ∧ RightM c.moves ∧ param15 p = 0 ∧ args = [.agg c.enc, .agg p.enc] ∧
   K [.d (.agg (((mfind c.moves p).map (·.va)).getD hval).enc), .d (.bool (mfind c.moves p).isSome)] := by
 refine .of c118 t118_ok ?_
 rintro _ K ⟨c, p, hc, hp, hR, hpp, rfl, hK⟩ hsm
 refine ⟨c.enc ++ p.enc, rfl, by exact (Cue.has hc).append (Par.has hp), ?_⟩
 refine denR_call bsearch_ok ⟨c.moves, p, hc.moves, hp, hR, hpp, ?_, _, rfl, ?_⟩
 · simp only [zz, RT.den, den, O1.eval, O2.eval, D.eqb, reduceCtorEq, D.sub, D.cell, D.elem, D.cells, D.padd, D.list, D.push, Cue.enc, Par.enc]
 rw [any_mfind]
 cases hf : mfind c.moves p with
 | none =>
   rw [hf] at hK
   simp only [zz, RT.den, den, O1.eval, O2.eval, D.eqb, reduceCtorEq, D.sub, D.cell, D.elem, D.cells, D.padd, D.list, D.push, Cue.enc, Par.enc, Option.isSome_none]
   refine denR_call thome_ok ⟨rfl, _, rfl, ?_⟩
   simp only [zz, RT.den, den, O1.eval, O2.eval, D.eqb, reduceCtorEq, D.sub, D.cell, D.elem, D.cells, D.padd, D.list, D.push, Val.enc]
   exact hK
 | some m =>
   rw [hf] at hK
   obtain ⟨hl, hm⟩ := low_mfind hR hf
   simp only [zz, RT.den, den, O1.eval, O2.eval, D.eqb, reduceCtorEq, D.sub, D.cell, D.elem, D.cells, D.padd, D.list, D.push, Cue.enc, Par.enc, Option.isSome_some, List.length_map, hl, getD_map hl, hm, Mov.enc]
   exact ⟨by omega, hK⟩
end Go.Sx.La
set_option maxRecDepth 100000
namespace Go.Sx.La
open Go Go.Sx Go.RowKit Go.Proofs
noncomputable def t171 : R := .loop 0 [.fld (.var 0) 0 (.int .i64)] [.int .i64] (.ite (.o2 .ge (.var 2) (.int .i64 0)) (.need (.o2 .le (.int .i64 0) (.var 2)) (.need (.o2 .lt (.var 2) (.o1 .len (.fld (.padd (.var 1) 2) 0 (.slice [.str, .str, .slice [.int .i64, .int .i64, .int .i64, .int .i64, .int .i64], .slice [.int .i64, .int .i64, .int .i64, .int .i64, .int .i64, .int .i64], .bool, .bool, .int .i64, .str, .int .i64])))) (.yield [.lcons (.idx (.fld (.padd (.var 1) 2) 0 (.slice [.str, .str, .slice [.int .i64, .int .i64, .int .i64, .int .i64, .int .i64], .slice [.int .i64, .int .i64, .int .i64, .int .i64, .int .i64, .int .i64], .bool, .bool, .int .i64, .str, .int .i64])) (.var 2) 0 .str) (.lcons (.idx (.fld (.padd (.var 1) 2) 0 (.slice [.str, .str, .slice [.int .i64, .int .i64, .int .i64, .int .i64, .int .i64], .slice [.int .i64, .int .i64, .int .i64, .int .i64, .int .i64, .int .i64], .bool, .bool, .int .i64, .str, .int .i64])) (.var 2) 1 .str) (.lcons (.idx (.fld (.padd (.var 1) 2) 0 (.slice [.str, .str, .slice [.int .i64, .int .i64, .int .i64, .int .i64, .int .i64], .slice [.int .i64, .int .i64, .int .i64, .int .i64, .int .i64, .int .i64], .bool, .bool, .int .i64, .str, .int .i64])) (.var 2) 2 (.slice [.int .i64, .int .i64, .int .i64, .int .i64, .int .i64])) (.lcons (.idx (.fld (.padd (.var 1) 2) 0 (.slice [.str, .str, .slice [.int .i64, .int .i64, .int .i64, .int .i64, .int .i64], .slice [.int .i64, .int .i64, .int .i64, .int .i64, .int .i64, .int .i64], .bool, .bool, .int .i64, .str, .int .i64])) (.var 2) 3 (.slice [.int .i64, .int .i64, .int .i64, .int .i64, .int .i64, .int .i64])) (.lcons (.idx (.fld (.padd (.var 1) 2) 0 (.slice [.str, .str, .slice [.int .i64, .int .i64, .int .i64, .int .i64, .int .i64], .slice [.int .i64, .int .i64, .int .i64, .int .i64, .int .i64, .int .i64], .bool, .bool, .int .i64, .str, .int .i64])) (.var 2) 4 .bool) (.lcons (.idx (.fld (.padd (.var 1) 2) 0 (.slice [.str, .str, .slice [.int .i64, .int .i64, .int .i64, .int .i64, .int .i64], .slice [.int .i64, .int .i64, .int .i64, .int .i64, .int .i64, .int .i64], .bool, .bool, .int .i64, .str, .int .i64])) (.var 2) 5 .bool) (.lcons (.idx (.fld (.padd (.var 1) 2) 0 (.slice [.str, .str, .slice [.int .i64, .int .i64, .int .i64, .int .i64, .int .i64], .slice [.int .i64, .int .i64, .int .i64, .int .i64, .int .i64, .int .i64], .bool, .bool, .int .i64, .str, .int .i64])) (.var 2) 6 (.int .i64)) (.lcons (.idx (.fld (.padd (.var 1) 2) 0 (.slice [.str, .str, .slice [.int .i64, .int .i64, .int .i64, .int .i64, .int .i64], .slice [.int .i64, .int .i64, .int .i64, .int .i64, .int .i64, .int .i64], .bool, .bool, .int .i64, .str, .int .i64])) (.var 2) 7 .str) (.lcons (.idx (.fld (.padd (.var 1) 2) 0 (.slice [.str, .str, .slice [.int .i64, .int .i64, .int .i64, .int .i64, .int .i64], .slice [.int .i64, .int .i64, .int .i64, .int .i64, .int .i64, .int .i64], .bool, .bool, .int .i64, .str, .int .i64])) (.var 2) 8 (.int .i64)) .lnil))))))))] (.ite (.ite (.o1 .not (.var 3)) (.bool true) (.idx (.fld (.padd (.var 1) 2) 0 (.slice [.str, .str, .slice [.int .i64, .int .i64, .int .i64, .int .i64, .int .i64], .slice [.int .i64, .int .i64, .int .i64, .int .i64, .int .i64, .int .i64], .bool, .bool, .int .i64, .str, .int .i64])) (.var 2) 4 .bool)) (.ret []) (.again 0 [.o2 (.sub .i64) (.var 2) (.int .i64 1)]))))) (.ret []))
theorem t171_ok : fnItO Tryz.prog mdA 171 [.cell (.ptr [.int .i64]), .cell (.ptr liKs)] = t171 := by kernel_rfl
theorem c171 : callable Tryz.prog 171 = true := by kernel_rfl
noncomputable def t117 : R := .ret [.d (.clo 171 (.lcons (.ptr (.lcons (.var 3) .lnil)) (.lcons (.ptr (.lcons (.var 0) (.lcons (.var 1) (.lcons (.var 2) .lnil)))) .lnil)))]
theorem t117_ok : fnO Tryz.prog mdA 117 [.agg [.int .i64, .int .i64, .slice [.str, .str, .slice [.int .i64, .int .i64, .int .i64, .int .i64, .int .i64], .slice [.int .i64, .int .i64, .int .i64, .int .i64, .int .i64, .int .i64], .bool, .bool, .int .i64, .str, .int .i64]], .cell (.int .i64)] = t117 := by kernel_rfl
theorem c117 : callable Tryz.prog 117 = true := by kernel_rfl
noncomputable def t177 : R := .call none (.fn 117) [.lcons (.var 0) (.lcons (.var 1) (.lcons (.var 2) .lnil)), .var 3] [.cell .fn] (.iter 0 (.var 6) [] [] [.agg [.str, .str, .slice [.int .i64, .int .i64, .int .i64, .int .i64, .int .i64], .slice [.int .i64, .int .i64, .int .i64, .int .i64, .int .i64, .int .i64], .bool, .bool, .int .i64, .str, .int .i64]] (.call none (.fn 118) [.lcons (.var 7) (.lcons (.var 8) (.lcons (.var 9) (.lcons (.var 10) (.lcons (.var 11) (.lcons (.var 12) (.lcons (.var 13) (.lcons (.var 14) (.lcons (.var 15) .lnil)))))))), .lcons (.var 4) (.lcons (.var 5) .lnil)] [.agg [.int .i64, .int .i64], .cell .bool] (.ite (.var 18) (.ret [.d (.lcons (.var 16) (.lcons (.var 17) .lnil))]) (.again 0 []))) (.call none (.fn 175) [] [.agg [.int .i64, .int .i64]] (.ret [.d (.lcons (.var 7) (.lcons (.var 8) .lnil))])))
theorem t177_ok : fnO Tryz.prog mdA 177 [.agg [.int .i64, .int .i64, .slice [.str, .str, .slice [.int .i64, .int .i64, .int .i64, .int .i64, .int .i64], .slice [.int .i64, .int .i64, .int .i64, .int .i64, .int .i64, .int .i64], .bool, .bool, .int .i64, .str, .int .i64]], .cell (.int .i64), .agg [.int .i64, .int .i64]] = t177 := by kernel_rfl
theorem c177 : callable Tryz.prog 177 = true := by kernel_rfl
noncomputable def t116 : R := .call none (.fn 28) [.lcons (.var 0) (.lcons (.var 1) (.lcons (.var 2) .lnil)), .var 3] [.cell (.int .i64), .cell .bool, .cell (.int .i64)] (.ite (.o2 .ne (.var 6) (.int .i64 0)) (.ret [.d (.int .i64 0), .d (.var 6)]) (.ite (.o1 .not (.var 5)) (.ret [.d (.int .i64 0), .d (.int .i64 6)]) (.ret [.d (.var 4), .d (.int .i64 0)])))
theorem t116_ok : fnO Tryz.prog mdA 116 [.agg [.int .i64, .int .i64, .slice [.str, .str, .slice [.int .i64, .int .i64, .int .i64, .int .i64, .int .i64], .slice [.int .i64, .int .i64, .int .i64, .int .i64, .int .i64, .int .i64], .bool, .bool, .int .i64, .str, .int .i64]], .cell .str] = t116 := by kernel_rfl
theorem c116 : callable Tryz.prog 116 = true := by kernel_rfl
noncomputable def t48 : R := .call none (.fn 116) [.lcons (.var 0) (.lcons (.var 1) (.lcons (.var 2) .lnil)), .var 3] [.cell (.int .i64), .cell (.int .i64)] (.ite (.o2 .ne (.var 7) (.int .i64 0)) (.ret [.d (.str []), .d (.bool false), .d (.var 7)]) (.ite (.ite (.ite (.ite (.o2 .lt (.var 4) (.int .i64 1)) (.bool true) (.o2 .gt (.var 4) (.int .i64 999))) (.bool true) (.o2 .lt (.var 5) (.int .i64 0))) (.bool true) (.o2 .ge (.var 5) (.int .i64 15))) (.ret [.d (.str []), .d (.bool false), .d (.int .i64 2)]) (.call none (.fn 117) [.lcons (.var 0) (.lcons (.var 1) (.lcons (.var 2) .lnil)), .var 6] [.cell .fn] (.iter 0 (.var 8) [] [] [.agg [.str, .str, .slice [.int .i64, .int .i64, .int .i64, .int .i64, .int .i64], .slice [.int .i64, .int .i64, .int .i64, .int .i64, .int .i64, .int .i64], .bool, .bool, .int .i64, .str, .int .i64]] (.call none (.fn 118) [.lcons (.var 9) (.lcons (.var 10) (.lcons (.var 11) (.lcons (.var 12) (.lcons (.var 13) (.lcons (.var 14) (.lcons (.var 15) (.lcons (.var 16) (.lcons (.var 17) .lnil)))))))), .lcons (.var 4) (.lcons (.var 5) .lnil)] [.agg [.int .i64, .int .i64], .cell .bool] (.ite (.var 20) (.ret [.d (.var 9), .d (.bool true), .d (.int .i64 0)]) (.again 0 []))) (.ret [.d (.str []), .d (.bool false), .d (.int .i64 0)])))))
theorem t48_ok : fnO Tryz.prog mdA 48 [.agg [.int .i64, .int .i64, .slice [.str, .str, .slice [.int .i64, .int .i64, .int .i64, .int .i64, .int .i64], .slice [.int .i64, .int .i64, .int .i64, .int .i64, .int .i64, .int .i64], .bool, .bool, .int .i64, .str, .int .i64]], .cell .str, .agg [.int .i64, .int .i64]] = t48 := by kernel_rfl
theorem c48 : callable Tryz.prog 48 = true := by kernel_rfl
theorem i64_one {v : Int} (h : I64 v) : HasKs [.int .i64] [.int .i64 v] := ⟨i64_has h, trivial⟩
def backL (cs : List Cue) : Nat → List Cue
 | 0 => []
 | n + 1 => match cs[n]? with
   | none => []
   | some c => c :: if c.block then [] else backL cs n
theorem backL_mem {cs : List Cue} : ∀ {n : Nat} {c : Cue}, c ∈ backL cs n → c ∈ cs
 | 0, c, h => by simp [backL] at h
 | n + 1, c, h => by
   simp only [backL] at h
   cases hc : cs[n]? with
   | none => rw [hc] at h; simp at h
   | some d =>
     rw [hc] at h
     simp only [List.mem_cons] at h
     rcases h with rfl | h
     · exact List.mem_of_getElem? hc
     · split at h
       · simp at h
       · exact backL_mem h
structure RightT (l : Lis) : Prop where
 ok : l.Ok
 len : l.cues.length ≤ 64
 moves : ∀ c ∈ l.cues, RightM c.moves
theorem rightT_of {l : Lis} (hl : l.Ok) (h : checkL order05 l = 0) : RightT l :=
 have hR := rightL_of h
 ⟨hl, hR.len, fun c hc => rightM_of (check16_moves (hR.cues c hc))⟩
theorem back_it {l : Lis} (hR : RightT l) {n : Nat} (hn : n ≤ l.cues.length) : IterC Tryz.prog (.clo 171 [.ptr [.int .i64 ((n : Int) - 1)], .ptr l.enc]) ((backL l.cues n).map fun c => [D.agg c.enc]) := by
 have hlen := hR.len
 refine IterC.of c171 t171_ok (ρ := [.ptr [.int .i64 ((n : Int) - 1)], .ptr l.enc]) rfl ⟨⟨i64_has ⟨by omega, by omega⟩, trivial⟩, Lis.has hR.ok, trivial⟩ ?_
 simp only [zz, RT.den, den, O1.eval, O2.eval, D.eqb, reduceCtorEq, D.sub, D.cell, D.elem, D.cells, D.padd, D.list, D.push, t171, Lis.enc, List.length_map, D.cells, D.padd, D.cell, List.drop_zero, List.drop_succ_cons]
 simp only [denR]
 refine ⟨fun c ys => ∃ k i : Nat, k ≤ n ∧ ys = [.int .i64 ((k : Int) - 1)] ∧ c = some i ∧ i ≤ (backL l.cues n).length ∧ (backL l.cues n).drop i = backL l.cues k,
   fun ys => match ys with | [.int _ v] => (v + 1).toNat | _ => 0, ⟨n, 0, Nat.le_refl _, by simp only [zz, RT.den, den, O1.eval, O2.eval, D.eqb, reduceCtorEq, D.sub, D.cell, D.elem, D.cells, D.padd, D.list, D.push], rfl, Nat.zero_le _, rfl⟩, ?_⟩
 rintro _ _ _ ⟨k, i, hk, rfl, rfl, hi, hdrop⟩
 simp only [zz, RT.den, den, O1.eval, O2.eval, D.eqb, reduceCtorEq, D.sub, D.cell, D.elem, D.cells, D.padd, D.list, D.push, List.length_map, D.cells, D.padd, D.cell, List.drop_zero, List.drop_succ_cons]
 cases k with
 | zero =>
   refine ⟨fun h => by omega, fun _ => .inr ?_⟩
   simp only [backL, List.drop_eq_nil_iff] at hdrop
   simp only [Ags.wc, setAg, List.length_map]
   congr 1; omega
 | succ k =>
   have hkl : k < l.cues.length := by omega
   have e1 : (((k + 1 : Nat) : Int) - 1) = (k : Int) := by omega
   have e2 : ((k : Int)).toNat = k := by omega
   have hb : backL l.cues (k + 1) = l.cues[k] :: if l.cues[k].block then [] else backL l.cues k := by simp [backL, hkl]
   rw [hb] at hdrop
   have hilt : i < (backL l.cues n).length := by
     rcases Nat.lt_or_ge i (backL l.cues n).length with h | h
     · exact h
     · rw [List.drop_eq_nil_of_le h] at hdrop; cases hdrop
   have hget : (backL l.cues n)[i]? = some l.cues[k] := by
     have := congrArg List.head? hdrop
     rw [List.head?_drop] at this
     simpa using this
   have hnext : (backL l.cues n).drop (i + 1) = if l.cues[k].block then [] else backL l.cues k := by
     have := congrArg List.tail hdrop
     rw [List.tail_drop] at this
     simpa using this
   rw [e1]
   refine ⟨fun _ => ⟨by omega, by omega, i, rfl, ?_, ?_⟩, fun h => by omega⟩
   · simp only [Ags.wc, setAg]
     simp only [zz, RT.den, den, O1.eval, O2.eval, D.eqb, reduceCtorEq, D.sub, D.cell, D.elem, D.cells, D.padd, D.list, D.push, getD_map hkl, Cue.enc, List.length_map, List.getElem?_map, D.list, hget, Option.map_some]
   · rintro (_ | _)
     · simp only [zz, RT.den, den, O1.eval, O2.eval, D.eqb, reduceCtorEq, D.sub, D.cell, D.elem, D.cells, D.padd, D.list, D.push]
       exact .inl rfl
     · simp only [zz, RT.den, den, O1.eval, O2.eval, D.eqb, reduceCtorEq, D.sub, D.cell, D.elem, D.cells, D.padd, D.list, D.push, getD_map hkl, Cue.enc]
       by_cases hbl : l.cues[k].block = true
       · rw [hbl] at hnext
         simp only [if_true, List.drop_eq_nil_iff] at hnext
         simp only [zz, RT.den, den, O1.eval, O2.eval, D.eqb, reduceCtorEq, D.sub, D.cell, D.elem, D.cells, D.padd, D.list, D.push, hbl]
         refine .inr ?_
         simp only [Ags.wc, setAg, List.length_map]
         congr 1; omega
       · have hbl : l.cues[k].block = false := by simpa using hbl
         rw [hbl] at hnext
         simp only [Bool.false_eq_true, if_false] at hnext
         simp only [zz, RT.den, den, O1.eval, O2.eval, D.eqb, reduceCtorEq, D.sub, D.cell, D.elem, D.cells, D.padd, D.list, D.push, hbl]
         refine ⟨⟨k, i + 1, by omega, by rw [wr64_eq (by omega)], rfl, by omega, hnext⟩, ?_⟩
         rw [wr64_eq (by omega)]
         show ((k : Int) - 1 + 1).toNat < ((k : Int) + 1).toNat
         omega
theorem back_ok : Contract Tryz.prog 117 fun args K => ∃ (l : Lis) (v : Int), l.Ok ∧ I64 v ∧ args = [.agg l.enc, .int .i64 v] ∧ K [.d (.clo 171 [.ptr [.int .i64 v], .ptr l.enc])] := by
 refine .of c117 t117_ok ?_
 rintro _ K ⟨l, v, hl, hv, rfl, hK⟩ hsm
 refine ⟨l.enc ++ [.int .i64 v], rfl, by exact (Lis.has hl).append ⟨i64_has hv, trivial⟩, ?_⟩
 simp only [zz, RT.den, den, O1.eval, O2.eval, D.eqb, reduceCtorEq, D.sub, D.cell, D.elem, D.cells, D.padd, D.list, D.push, t117, Lis.enc, D.list]
 exact hK
def lastM (cs : List Cue) (p : Par) (n : Nat) : Option Mov := (backL cs n).findSome? fun c => mfind c.moves p
def valued (cs : List Cue) (p : Par) (n : Nat) : Val := ((lastM cs p n).map (·.va)).getD hval
theorem cueHas {l : Lis} (hR : RightT l) {n : Nat} : ∀ x ∈ (backL l.cues n).map (fun c => [D.agg c.enc]), ∃ fx, pkRho [.agg cueKs] x = some fx ∧ HasKs (pkKinds [.agg cueKs]) fx := by
 intro x hx
 obtain ⟨c, hc, rfl⟩ := List.mem_map.1 hx
 exact ⟨c.enc, rfl, Cue.has (hR.ok.cues c (backL_mem hc))⟩
theorem back_at {l : Lis} {n i : Nat} {x : List D} (h : ((backL l.cues n).map fun c => [D.agg c.enc])[i]? = some x) : ∃ c, (backL l.cues n)[i]? = some c ∧ x = [.agg c.enc] := by
 simp only [List.getElem?_map, Option.map_eq_some_iff] at h
 obtain ⟨c, h1, rfl⟩ := h
 exact ⟨c, h1, rfl⟩
theorem tvalue_ok : Contract Tryz.prog 177 fun args K => ∃ (l : Lis) (n : Nat) (p : Par), RightT l ∧ n ≤ l.cues.length ∧ p.Ok ∧ param15 p = 0 ∧ args = [.agg l.enc, .int .i64 ((n : Int) - 1), .agg p.enc] ∧
   K [.d (.agg (valued l.cues p n).enc)] := by
 refine .of c177 t177_ok ?_
 rintro _ K ⟨l, n, p, hR, hn, hp, hpp, rfl, hK⟩ hsm
 have hlen := hR.len
 have h64 : I64 ((n : Int) - 1) := ⟨by omega, by omega⟩
 refine ⟨l.enc ++ [.int .i64 ((n : Int) - 1)] ++ p.enc, rfl, by exact (show HasKs ((liKs ++ [.int .i64]) ++ paKs) _ from ((Lis.has hR.ok).append (i64_one h64)).append (Par.has hp)), ?_⟩
 refine denR_call back_ok ⟨l, (n : Int) - 1, hR.ok, h64, by simp only [zz, RT.den, den, O1.eval, O2.eval, D.eqb, reduceCtorEq, D.sub, D.cell, D.elem, D.cells, D.padd, D.list, D.push, Lis.enc, Par.enc], _, rfl, ?_⟩
 rw [denR_iter]
 refine ⟨(backL l.cues n).map fun c => [D.agg c.enc], by simpa [den, Lis.enc, Par.enc] using back_it hR hn, cueHas hR, fun i c ys => ys = [] ∧ ((backL l.cues n).drop i).findSome? (fun c => mfind c.moves p) = lastM l.cues p n, ⟨rfl, rfl⟩, ?_, ?_⟩
 · rintro i x fx c ys hx hfx _ _ ⟨rfl, hgo⟩
   obtain ⟨d, hd, rfl⟩ := back_at hx
   cases hfx
   have hi := (List.getElem?_eq_some_iff.1 hd).1
   have es : (backL l.cues n)[i] = d := (List.getElem?_eq_some_iff.1 hd).2
   have hdm : d ∈ l.cues := backL_mem (es ▸ List.getElem_mem hi)
   rw [List.drop_eq_getElem_cons hi, es, List.findSome?_cons] at hgo
   refine denR_call tmove_ok ⟨d, p, hR.ok.cues d hdm, hp, hR.moves d hdm, hpp, by simp only [zz, RT.den, den, O1.eval, O2.eval, D.eqb, reduceCtorEq, D.sub, D.cell, D.elem, D.cells, D.padd, D.list, D.push, Lis.enc, Par.enc, Cue.enc], _, rfl, ?_⟩
   cases hf : mfind d.moves p with
   | none =>
     rw [hf] at hgo
     simp only [zz, RT.den, den, O1.eval, O2.eval, D.eqb, reduceCtorEq, D.sub, D.cell, D.elem, D.cells, D.padd, D.list, D.push, Lis.enc, Par.enc, Cue.enc, Val.enc, Option.isSome_none]
     exact hgo
   | some m =>
     rw [hf] at hgo
     simp only at hgo
     simp only [zz, RT.den, den, O1.eval, O2.eval, D.eqb, reduceCtorEq, D.sub, D.cell, D.elem, D.cells, D.padd, D.list, D.push, Lis.enc, Par.enc, Cue.enc, Val.enc, Option.isSome_some]
     unfold valued at hK
     rw [← hgo] at hK
     exact hK
 · rintro c ys _ ⟨rfl, hgo⟩
   simp only [List.length_map, List.drop_length, List.findSome?_nil] at hgo
   refine denR_call thome_ok ⟨rfl, _, rfl, ?_⟩
   simp only [zz, RT.den, den, O1.eval, O2.eval, D.eqb, reduceCtorEq, D.sub, D.cell, D.elem, D.cells, D.padd, D.list, D.push, Lis.enc, Par.enc, Val.enc]
   unfold valued at hK
   rw [← hgo] at hK
   exact hK
def numbered18 (l : Lis) (s : List UInt8) : Int := if check05 s ≠ 0 then check05 s else if place l.cues s < 0 then 6 else 0
def cue18 (l : Lis) (s : List UInt8) : Int := if checkL order05 l ≠ 0 then checkL order05 l else numbered18 l s
def upto (l : Lis) (s : List UInt8) : Nat := (place l.cues s + 1).toNat
theorem place_ge (cs : List Cue) (s : List UInt8) : -1 ≤ place cs s ∧ place cs s < cs.length ∨ place cs s = -1 := by
 by_cases h : place cs s < 0
 · unfold place at h ⊢
   rcases idxGo_spec (fun c : Cue => c.num == s) cs 0 with ⟨h1, h2⟩ | ⟨j, hj, h1, h2, h3⟩
   · exact .inr h1
   · rw [h1] at h; omega
 · obtain ⟨j, hj, h1, _⟩ := place_pos h
   exact .inl ⟨by omega, by omega⟩
theorem numbered18_zero {l : Lis} {s : List UInt8} (h : numbered18 l s = 0) : check05 s = 0 ∧ 0 ≤ place l.cues s := by
 unfold numbered18 at h
 split at h
 · contradiction
 split at h
 · cases h
 · exact ⟨by simp_all, by omega⟩
theorem upto_le (l : Lis) (s : List UInt8) : upto l s ≤ l.cues.length := by
 unfold upto
 rcases place_ge l.cues s with h | h
 · omega
 · rw [h]; omega
theorem upto_place {l : Lis} {s : List UInt8} (h : 0 ≤ place l.cues s) : place l.cues s = (upto l s : Int) - 1 ∧ 0 < upto l s := by
 unfold upto; omega
theorem tplace_ok : Contract Tryz.prog 116 fun args K => ∃ (l : Lis) (s : List UInt8), l.Ok ∧ args = [.agg l.enc, .str s] ∧ K [.d (.int .i64 (if cue18 l s ≠ 0 then 0 else place l.cues s)), .d (.int .i64 (cue18 l s))] := by
 refine .of c116 t116_ok ?_
 rintro _ K ⟨l, s, hl, rfl, hK⟩ hsm
 refine ⟨l.enc ++ [.str s], rfl, by exact has_s hl, ?_⟩
 refine denR_call findR_ok ⟨l, s, hl, by simp only [zz, RT.den, den, O1.eval, O2.eval, D.eqb, reduceCtorEq, D.sub, D.cell, D.elem, D.cells, D.padd, D.list, D.push, Lis.enc], _, rfl, ?_⟩
 simp only [zz, RT.den, den, O1.eval, O2.eval, D.eqb, reduceCtorEq, D.sub, D.cell, D.elem, D.cells, D.padd, D.list, D.push, Lis.enc]
 by_cases h1 : checkL order05 l = 0
 · by_cases h2 : check05 s = 0
   · have e : findR l s = (if place l.cues s < 0 then 0 else place l.cues s, decide (0 ≤ place l.cues s), 0) := by simp [findR, given17, h1, h2]
     rw [e]
     by_cases h3 : place l.cues s < 0
     · have e2 : cue18 l s = 6 := by simp [cue18, numbered18, h1, h2, h3]
       rw [e2] at hK
       have h4 : ¬ 0 ≤ place l.cues s := by omega
       simp only [zz, RT.den, den, O1.eval, O2.eval, D.eqb, reduceCtorEq, D.sub, D.cell, D.elem, D.cells, D.padd, D.list, D.push, h3, h4]
       simpa using hK
     · have e2 : cue18 l s = 0 := by simp [cue18, numbered18, h1, h2, h3]
       rw [e2] at hK
       have h4 : 0 ≤ place l.cues s := by omega
       simp only [zz, RT.den, den, O1.eval, O2.eval, D.eqb, reduceCtorEq, D.sub, D.cell, D.elem, D.cells, D.padd, D.list, D.push, h3, h4]
       simpa using hK
   · have e : findR l s = (0, false, check05 s) := by simp [findR, given17, h1, h2]
     have e2 : cue18 l s = check05 s := by simp [cue18, numbered18, h1, h2]
     rw [e2] at hK
     rw [e]
     simp only [zz, RT.den, den, O1.eval, O2.eval, D.eqb, reduceCtorEq, D.sub, D.cell, D.elem, D.cells, D.padd, D.list, D.push]
     exact ⟨fun _ => by simpa [h2] using hK, fun h => by simp [h2] at h⟩
 · have e : findR l s = (0, false, checkL order05 l) := by simp [findR, given17, h1]
   have e2 : cue18 l s = checkL order05 l := by simp [cue18, h1]
   rw [e2] at hK
   rw [e]
   simp only [zz, RT.den, den, O1.eval, O2.eval, D.eqb, reduceCtorEq, D.sub, D.cell, D.elem, D.cells, D.padd, D.list, D.push]
   exact ⟨fun _ => by simpa [h1] using hK, fun h => by simp [h1] at h⟩
end Go.Sx.La
set_option maxRecDepth 100000
namespace Go.Sx.La
open Go Go.Sx Go.RowKit Go.Proofs
noncomputable def t77 : R := .ret [.d (.lcons (.int .i64 (-1)) (.lcons (.int .i64 0) .lnil))]
theorem t77_ok : fnO Tryz.prog mdA 77 [] = t77 := by kernel_rfl
theorem c77 : callable Tryz.prog 77 = true := by kernel_rfl
def moved? (p : Par) (c : Cue) : Bool := (mfind c.moves p).isSome
def origR (l : Lis) (s : List UInt8) (p : Par) : List UInt8 × Bool × Int :=
 if cue18 l s ≠ 0 then ([], false, cue18 l s) else if param15 p ≠ 0 then ([], false, param15 p) else
 match (backL l.cues (upto l s)).find? (moved? p) with
 | some c => (c.num, true, 0)
 | none => ([], false, 0)
theorem cue18_right {l : Lis} {s : List UInt8} (hl : l.Ok) (h : cue18 l s = 0) : RightT l ∧ check05 s = 0 ∧ 0 ≤ place l.cues s ∧ place l.cues s = (upto l s : Int) - 1 ∧ 0 < upto l s ∧ upto l s ≤ l.cues.length := by
 unfold cue18 at h
 split at h
 · contradiction
 rename_i h1
 obtain ⟨h2, h3⟩ := numbered18_zero h
 exact ⟨rightT_of hl (by simpa using h1), h2, h3, (upto_place h3).1, (upto_place h3).2, upto_le l s⟩
theorem has_lsp {l : Lis} (hl : l.Ok) {s : List UInt8} {p : Par} (hp : p.Ok) : HasKs ((liKs ++ [.str]) ++ paKs) (l.enc ++ [.str s] ++ p.enc) := (has_s hl).append (Par.has hp)
theorem torigin_ok : Contract Tryz.prog 48 fun args K => ∃ (l : Lis) (s : List UInt8) (p : Par), l.Ok ∧ p.Ok ∧ args = [.agg l.enc, .str s, .agg p.enc] ∧
   K [.d (.str (origR l s p).1), .d (.bool (origR l s p).2.1), .d (.int .i64 (origR l s p).2.2)] := by
 refine .of c48 t48_ok ?_
 rintro _ K ⟨l, s, p, hl, hp, rfl, hK⟩ hsm
 refine ⟨l.enc ++ [.str s] ++ p.enc, rfl, by exact has_lsp hl hp, ?_⟩
 refine denR_call tplace_ok ⟨l, s, hl, by simp only [zz, RT.den, den, O1.eval, O2.eval, D.eqb, reduceCtorEq, D.sub, D.cell, D.elem, D.cells, D.padd, D.list, D.push, Lis.enc, Par.enc], _, rfl, ?_⟩
 simp only [zz, RT.den, den, O1.eval, O2.eval, D.eqb, reduceCtorEq, D.sub, D.cell, D.elem, D.cells, D.padd, D.list, D.push, Lis.enc, Par.enc]
 unfold origR at hK
 refine ⟨fun h => ?_, fun h => ?_⟩
 · have h : cue18 l s ≠ 0 := by simpa using h
   rw [if_pos h] at hK; exact hK
 have h : cue18 l s = 0 := by simpa using h
 obtain ⟨hR, h05, hpl, hup, hu0, hul⟩ := cue18_right hl h
 rw [if_neg (by simp [h])] at hK
 refine ⟨fun hbad => ?_, fun hgood => ?_⟩
 · have : param15 p = 2 := by
     unfold param15
     rw [if_pos]
     grind
   rw [if_pos (by rw [this]; decide), this] at hK
   exact hK
 have hpp : param15 p = 0 := by
   unfold param15
   rw [if_neg]
   grind
 rw [if_neg (by simp [hpp])] at hK
 have hlen := hR.len
 have hat : (if cue18 l s ≠ 0 then 0 else place l.cues s) = (upto l s : Int) - 1 := by rw [if_neg (by simp [h])]; exact hup
 have h64 : I64 ((upto l s : Int) - 1) := ⟨by omega, by omega⟩
 refine denR_call back_ok ⟨l, (upto l s : Int) - 1, hl, h64, by simp only [zz, RT.den, den, O1.eval, O2.eval, D.eqb, reduceCtorEq, D.sub, D.cell, D.elem, D.cells, D.padd, D.list, D.push, Lis.enc, Par.enc, hat], _, rfl, ?_⟩
 rw [denR_iter]
 refine ⟨(backL l.cues (upto l s)).map fun c => [D.agg c.enc], by simpa [den, Lis.enc, Par.enc] using back_it hR hul, cueHas hR, fun i c ys => ys = [] ∧ ((backL l.cues (upto l s)).drop i).find? (moved? p) = (backL l.cues (upto l s)).find? (moved? p), ⟨rfl, rfl⟩, ?_, ?_⟩
 · rintro i x fx c ys hx hfx _ _ ⟨rfl, hgo⟩
   obtain ⟨d, hd, rfl⟩ := back_at hx
   cases hfx
   have hi := (List.getElem?_eq_some_iff.1 hd).1
   have es : (backL l.cues (upto l s))[i] = d := (List.getElem?_eq_some_iff.1 hd).2
   have hdm : d ∈ l.cues := backL_mem (es ▸ List.getElem_mem hi)
   rw [List.drop_eq_getElem_cons hi, es, List.find?_cons] at hgo
   refine denR_call tmove_ok ⟨d, p, hR.ok.cues d hdm, hp, hR.moves d hdm, hpp, by simp only [zz, RT.den, den, O1.eval, O2.eval, D.eqb, reduceCtorEq, D.sub, D.cell, D.elem, D.cells, D.padd, D.list, D.push, Lis.enc, Par.enc, Cue.enc], _, rfl, ?_⟩
   have hmv : moved? p d = (mfind d.moves p).isSome := rfl
   cases hf : mfind d.moves p with
   | none =>
     rw [hmv, hf] at hgo
     simp only [zz, RT.den, den, O1.eval, O2.eval, D.eqb, reduceCtorEq, D.sub, D.cell, D.elem, D.cells, D.padd, D.list, D.push, Lis.enc, Par.enc, Cue.enc, Val.enc, Option.isSome_none]
     exact hgo
   | some m =>
     rw [hmv, hf] at hgo
     simp only [Option.isSome_some] at hgo
     rw [← hgo] at hK
     simp only [zz, RT.den, den, O1.eval, O2.eval, D.eqb, reduceCtorEq, D.sub, D.cell, D.elem, D.cells, D.padd, D.list, D.push, Lis.enc, Par.enc, Cue.enc, Val.enc, Option.isSome_some]
     exact hK
 · rintro c ys _ ⟨rfl, hgo⟩
   simp only [List.length_map, List.drop_length, List.find?_nil] at hgo
   rw [← hgo] at hK
   exact hK
def mplace (ms : List Mov) (p : Par) : Int := idxGo (fun m => decide (m.pa = p)) 0 ms
def src (cs : List Cue) (p : Par) : Nat → Int
 | 0 => -1
 | n + 1 => match cs[n]? with
   | none => -1
   | some c => if moved? p c then n else if c.block then -1 else src cs p n
theorem home15_ok : Contract Tryz.prog 77 fun args K => args = [] ∧ K [.d (.agg hval.enc)] := by
 refine .of c77 t77_ok ?_
 rintro _ K ⟨rfl, hK⟩ hsm
 exact ⟨[], rfl, trivial, hK⟩
end Go.Sx.La
set_option maxRecDepth 100000
namespace Go.Sx.La
open Go Go.Sx Go.RowKit Go.Proofs
def putP : List Par → Par → List Par
 | [], p => [p]
 | q :: l, p => if q = p then q :: l else if before15 p q then p :: q :: l else q :: putP l p
def RisingP (l : List Par) : Prop := l.Pairwise fun a b => before15 a b = true
theorem mem_putP {p x : Par} : ∀ {l : List Par}, x ∈ putP l p ↔ x = p ∨ x ∈ l
 | [] => by simp [putP]
 | q :: l => by
   simp only [putP]
   split
   · rename_i h; subst h
     simp
   split
   · simp
   · simp only [List.mem_cons, mem_putP (l := l)]
     constructor
     · rintro (h | h | h) <;> simp [h]
     · rintro (h | h | h) <;> simp [h]
theorem rising_putP {p : Par} : ∀ {l : List Par}, RisingP l → RisingP (putP l p)
 | [], _ => by simp [putP, RisingP]
 | q :: l, h => by
   have h' := List.pairwise_cons.1 h
   simp only [putP]
   split
   · exact h
   rename_i hne
   split
   · rename_i hb
     refine List.pairwise_cons.2 ⟨fun x hx => ?_, h⟩
     rcases List.mem_cons.1 hx with rfl | hx
     · exact hb
     · exact before_trans hb (h'.1 x hx)
   · rename_i hb
     refine List.pairwise_cons.2 ⟨fun x hx => ?_, rising_putP h'.2⟩
     rcases mem_putP.1 hx with rfl | hx
     · rcases hq : before15 q x with _ | _
       · exact absurd (before_total hq (by simpa using hb)) hne
       · rfl
     · exact h'.1 x hx
theorem length_putP {p : Par} : ∀ {l : List Par}, (putP l p).length ≤ l.length + 1
 | [] => by simp [putP]
 | q :: l => by
   simp only [putP]
   split
   · simp
   split
   · simp
   · have := length_putP (p := p) (l := l)
     simp only [List.length_cons]; omega
theorem rising_ext : ∀ {a b : List Par}, RisingP a → RisingP b → (∀ x, x ∈ a ↔ x ∈ b) → a = b
 | [], [], _, _, _ => rfl
 | [], y :: b, _, _, h => by have := (h y).2 (by simp); simp at this
 | x :: a, [], _, _, h => by have := (h x).1 (by simp); simp at this
 | x :: a, y :: b, ha, hb, h => by
   have ha' := List.pairwise_cons.1 ha
   have hb' := List.pairwise_cons.1 hb
   have e : x = y := by
     rcases List.mem_cons.1 ((h x).1 (by simp)) with h1 | h1
     · exact h1
     rcases List.mem_cons.1 ((h y).2 (by simp)) with h2 | h2
     · exact h2.symm
     have := before_trans (hb'.1 x h1) (ha'.1 y h2)
     rw [before_irr] at this; cases this
   subst e
   congr 1
   refine rising_ext ha'.2 hb'.2 fun z => ⟨fun hz => ?_, fun hz => ?_⟩
   · rcases List.mem_cons.1 ((h z).1 (List.mem_cons_of_mem _ hz)) with h1 | h1
     · subst h1
       have := ha'.1 z hz
       rw [before_irr] at this; cases this
     · exact h1
   · rcases List.mem_cons.1 ((h z).2 (List.mem_cons_of_mem _ hz)) with h1 | h1
     · subst h1
       have := hb'.1 z hz
       rw [before_irr] at this; cases this
     · exact h1
def pars (cs : List Cue) : List Par := cs.flatMap fun c => c.moves.map (·.pa)
def putAll (a : List Par) (ps : List Par) : List Par := ps.foldl putP a
def movedL (cs : List Cue) : List Par := putAll [] (pars cs)
def footP (a : List Par) (p : Par) : List Par := if p ∈ a then a else a ++ [p]
def footAll (a : List Par) (ps : List Par) : List Par := ps.foldl footP a
def footL (cs : List Cue) : List Par := footAll [] (pars cs)
theorem mem_putAll {x : Par} : ∀ {ps a : List Par}, x ∈ putAll a ps ↔ x ∈ a ∨ x ∈ ps
 | [], a => by simp [putAll]
 | p :: ps, a => by
   have := mem_putAll (x := x) (ps := ps) (a := putP a p)
   simp only [putAll, List.foldl_cons] at this ⊢
   rw [this, mem_putP]
   simp only [List.mem_cons]
   constructor
   · rintro ((h | h) | h) <;> simp [h]
   · rintro (h | h | h) <;> simp [h]
theorem rising_putAll : ∀ {ps a : List Par}, RisingP a → RisingP (putAll a ps)
 | [], _, h => h
 | p :: ps, a, h => rising_putAll (ps := ps) (rising_putP h)
theorem length_putAll : ∀ {ps a : List Par}, (putAll a ps).length ≤ a.length + ps.length
 | [], a => by simp [putAll]
 | p :: ps, a => by
   have h1 := length_putAll (ps := ps) (a := putP a p)
   have h2 := length_putP (p := p) (l := a)
   simp only [putAll, List.foldl_cons, List.length_cons] at h1 ⊢
   omega
theorem mem_footP {a : List Par} {p x : Par} : x ∈ footP a p ↔ x ∈ a ∨ x = p := by
 unfold footP
 split
 · rename_i h
   exact ⟨.inl, fun h' => h'.elim id fun e => e ▸ h⟩
 · simp
theorem mem_footAll {x : Par} : ∀ {ps a : List Par}, x ∈ footAll a ps ↔ x ∈ a ∨ x ∈ ps
 | [], a => by simp [footAll]
 | p :: ps, a => by
   have := mem_footAll (x := x) (ps := ps) (a := footP a p)
   simp only [footAll, List.foldl_cons] at this ⊢
   rw [this, mem_footP]
   simp only [List.mem_cons]
   constructor
   · rintro ((h | h) | h) <;> simp [h]
   · rintro (h | h | h) <;> simp [h]
theorem nodup_footP {a : List Par} {p : Par} (h : a.Nodup) : (footP a p).Nodup := by
 unfold footP
 split
 · exact h
 · rename_i hp
   rw [List.nodup_append]
   refine ⟨h, by simp, fun x hx y hy e => ?_⟩
   simp at hy; subst hy e; exact hp hx
theorem nodup_footAll : ∀ {ps a : List Par}, a.Nodup → (footAll a ps).Nodup
 | [], _, h => h
 | p :: ps, a, h => nodup_footAll (ps := ps) (nodup_footP h)
theorem length_footP {a : List Par} {p : Par} : (footP a p).length ≤ a.length + 1 := by
 unfold footP; split <;> simp
theorem mem_movedL {cs : List Cue} {x : Par} : x ∈ movedL cs ↔ x ∈ pars cs := by simp [movedL, mem_putAll]
theorem mem_footL {cs : List Cue} {x : Par} : x ∈ footL cs ↔ x ∈ pars cs := by simp [footL, mem_footAll]
theorem rising_movedL (cs : List Cue) : RisingP (movedL cs) := rising_putAll (by simp [RisingP])
theorem pars_len {cs : List Cue} (h : ∀ c ∈ cs, c.moves.length ≤ 128) : (pars cs).length ≤ 128 * cs.length := by
 induction cs with
 | nil => simp [pars]
 | cons c cs ih =>
   have h1 := h c (by simp)
   have h2 := ih fun d hd => h d (List.mem_cons_of_mem _ hd)
   simp only [pars, List.flatMap_cons, List.length_append, List.length_map, List.length_cons] at h2 ⊢
   omega
theorem pars_ok {l : Lis} (hR : RightT l) : ∀ p ∈ pars l.cues, p.Ok ∧ param15 p = 0 := by
 intro p hp
 simp only [pars, List.mem_flatMap, List.mem_map] at hp
 obtain ⟨c, hc, m, hm, rfl⟩ := hp
 exact ⟨((hR.ok.cues c hc).moves m hm).1, (hR.moves c hc).par m hm⟩
theorem foot_sorted {cs : List Cue} {a : List Par} (hp : ∀ p ∈ pars cs, param15 p = 0) (h1 : a.Perm (footL cs)) (h2 : a.Pairwise fun x y => ¬ pcmp y x < 0) : a = movedL cs := by
 have hmem : ∀ x, x ∈ a ↔ x ∈ movedL cs := fun x => by rw [h1.mem_iff, mem_footL, mem_movedL]
 refine rising_ext ?_ (rising_movedL cs) hmem
 have hn : a.Nodup := h1.nodup_iff.2 (nodup_footAll List.nodup_nil)
 have := h2.imp₂ (R := fun x y => ¬ pcmp y x < 0) (S := fun x y => x ≠ y) (T := fun x y => ¬ pcmp y x < 0 ∧ x ≠ y) (fun _ _ h1 h2 => ⟨h1, h2⟩) hn
 refine List.Pairwise.imp_of_mem ?_ this
 intro x y hx hy ⟨h3, h4⟩
 have px := hp x (mem_movedL.1 ((hmem x).1 hx))
 have py := hp y (mem_movedL.1 ((hmem y).1 hy))
 rcases hb : before15 x y with _ | _
 · rcases hb2 : before15 y x with _ | _
   · exact absurd (before_total hb hb2) h4
   · exact absurd ((pcmp_neg py px).2 hb2) h3
 · rfl
end Go.Sx.La
set_option maxRecDepth 100000
namespace Go.Sx.La
open Go Go.Sx Go.RowKit Go.Proofs
theorem pars_has {l : List Par} (h : ∀ p ∈ l, p.Ok) : HasK (.slice paKs) (.slice (l.map Par.enc)) := slice_has fun p hp => Par.has (h p hp)
def putGo (p : Par) (l0 : List Par) : List Par → List Par × Bool → List Par
 | [], (out, d) => if d then out else out ++ [p]
 | q :: xs, (out, d) => if q = p then l0 else if before15 p q && !d then putGo p l0 xs (out ++ [p] ++ [q], true) else putGo p l0 xs (out ++ [q], d)
structure MI (l : Lis) (n : Nat) (a : List Par) : Prop where
 ok : ∀ p ∈ a, p.Ok
 rising : RisingP a
 len : a.length ≤ n
theorem MI.put {l : Lis} {n : Nat} {a : List Par} {p : Par} (h : MI l n a) (hp : p.Ok) : MI l (n + 1) (putP a p) :=
 ⟨fun q hq => (mem_putP.1 hq).elim (fun e => e ▸ hp) (h.ok q), rising_putP h.rising, by have := length_putP (p := p) (l := a); have := h.len; omega⟩
end Go.Sx.La
set_option maxRecDepth 100000
namespace Go.Sx.La
open Go Go.Sx Go.RowKit Go.Proofs
def mdE : Go.Sx.Mode := { own := [], no := [221, 222, 223, 224, 225, 226, 227] }
noncomputable def t202 : R := .loop 0 [] [] (.ite (.o2 .le (.o2 (.sub .i64) (.var 2) (.var 1)) (.int .i64 12)) (.call none (.fn 220) [.var 0, .var 1, .var 2, .var 4] [] (.ret [])) (.ite (.o2 .eq (.var 3) (.int .i64 0)) (.fail "cut") (.ite (.o1 .not (.bool true)) (.fail "cut") (.fail "cut"))))
theorem t202_ok : fnO Tryz.prog mdE 202 [.cell (.slice [.int .i64, .int .i64]), .cell (.int .i64), .cell (.int .i64), .cell (.int .i64), .cell .fn] = t202 := by kernel_rfl
theorem c202 : callable Tryz.prog 202 = true := by kernel_rfl
noncomputable def t220 : R := .loop 0 [.o2 (.add .i64) (.var 1) (.int .i64 1)] [.int .i64] (.ite (.o2 .lt (.var 4) (.var 2)) (.loop 1 [] [] (.need (.ite (.o2 .gt (.var 4) (.var 1)) (.o2 .le (.int .i64 0) (.var 4)) (.bool true)) (.need (.ite (.o2 .gt (.var 4) (.var 1)) (.o2 .lt (.var 4) (.o1 .len (.var 0))) (.bool true)) (.need (.ite (.o2 .gt (.var 4) (.var 1)) (.o2 .le (.int .i64 0) (.o2 (.sub .i64) (.var 4) (.int .i64 1))) (.bool true)) (.need (.ite (.o2 .gt (.var 4) (.var 1)) (.o2 .lt (.o2 (.sub .i64) (.var 4) (.int .i64 1)) (.o1 .len (.var 0))) (.bool true)) (.call (some (.o2 .gt (.var 4) (.var 1))) (.val (.var 3)) [.lcons (.idx (.var 0) (.var 4) 0 (.int .i64)) (.lcons (.idx (.var 0) (.var 4) 1 (.int .i64)) .lnil), .lcons (.idx (.var 0) (.o2 (.sub .i64) (.var 4) (.int .i64 1)) 0 (.int .i64)) (.lcons (.idx (.var 0) (.o2 (.sub .i64) (.var 4) (.int .i64 1)) 1 (.int .i64)) .lnil)] [.cell (.int .i64)] (.ite (.ite (.o2 .gt (.var 4) (.var 1)) (.o2 .lt (.var 5) (.int .i64 0)) (.bool false)) (.need (.o2 .le (.int .i64 0) (.o2 (.sub .i64) (.var 4) (.int .i64 1))) (.need (.o2 .lt (.o2 (.sub .i64) (.var 4) (.int .i64 1)) (.o1 .len (.var 0))) (.need (.o2 .le (.int .i64 0) (.var 4)) (.need (.o2 .lt (.var 4) (.o1 .len (.var 0))) (.fail "zsortanyfunc.go:13"))))) (.again 0 [.o2 (.add .i64) (.var 4) (.int .i64 1)])))))))) (.ret []))
theorem t220_ok : fnO Tryz.prog mdA 220 [.cell (.slice [.int .i64, .int .i64]), .cell (.int .i64), .cell (.int .i64), .cell .fn] = t220 := by kernel_rfl
theorem c220 : callable Tryz.prog 220 = true := by kernel_rfl
noncomputable def t179 : R := .fact (.o2 .le (.o1 .len (.var 0)) (.int .i64 140737488355328)) (.call none (.fn 197) [.o1 (.conv .u64) (.o1 .len (.var 0))] [.cell (.int .i64)] (.call none (.fn 202) [.var 0, .int .i64 0, .o1 .len (.var 0), .var 2, .var 1] [] (.ret [])))
theorem t179_ok : fnO Tryz.prog mdA 179 [.cell (.slice [.int .i64, .int .i64]), .cell .fn] = t179 := by kernel_rfl
theorem c179 : callable Tryz.prog 179 = true := by kernel_rfl
theorem ContractX.of_empty {P : Program} {f : FuncId} {ks : List K} {e : Nat} (hek : e = ks.length) (hc : Contract P f fun args K => ∃ g caps, args = [.slice [], .clo g caps] ∧ K []) (hres : resKinds P false (fnTypes P f) = some [])
   (hty : ∀ g caps, ArgsTyped P f [.slice [], .clo g caps]) : ContractX P f [.own ks, .cell .fn] true fun args K => ∃ g caps, args = [.own e [], .d (.clo g caps)] ∧ K [.own e []] := by
 refine ⟨hc.1, ?_⟩
 rintro _ K ⟨g, caps, rfl, hK⟩ _ w m vs hm hr
 have hlen2 : vs.length = 2 := hr.len
 match vs, hlen2 with
 | [v, u], _ =>
 have r0 := hr.rep 0 _ v rfl rfl
 have r1 := hr.rep 1 _ u rfl rfl
 have rv : RepD m (.slice []) v := by
   cases r0 with
   | none => exact .empty _ _
   | own => exact .empty _ _
 have ru : RepD m (.clo g caps) u := by cases r1; assumption
 refine (hc.2 [.slice [], .clo g caps] (fun rs => rs = []) ⟨g, caps, rfl, rfl⟩ (hty g caps) w m #[v, u] hm rfl ?_).mono ?_
 · intro i d x h1 h2
   match i, h1, h2 with
   | 0, h1, h2 => simp at h1 h2; subst h1 h2; exact rv
   | 1, h1, h2 => simp at h1 h2; subst h1 h2; exact ru
   | i + 2, h1, h2 => simp at h1
 · rintro ex w' ⟨rs, v', m', rfl, _, rfl, ⟨us, rfl, hus⟩, hle, hmo, hsame, hbw⟩
   have hus0 : us = [] := by have := hus.len; cases us with | nil => rfl | cons a l => simp at this
   subst hus0
   refine ⟨[.own e []], [], _, m', hK, ?_, rfl, rfl, ⟨rfl, ?_, ?_⟩, hle, hmo, fun b hb _ => hsame b hb, ⟨hbw.os, hbw.tape, hbw.output, hbw.drawn, hbw.size, fun b hb _ => hbw.block b hb⟩⟩
   · intro rk hrk
     rw [hres] at hrk
     cases hrk
     refine ⟨[.slice []], ?_, ?_⟩
     · simp [ownKs, RV.all, RV.cells, hek]
     · simp [ownKs, RK.all, RK.kinds, HasKs, HasK]
   · intro i r x h2 h3
     cases i with
     | succ i => simp at h2
     | zero =>
       simp [ownVals] at h2 h3
       subst h2 h3
       cases r0 with
       | none => exact .none
       | own hB hmb hb h0 hc1 hcc hcap hsz he hv =>
         have hlt := (Array.getElem?_eq_some_iff.1 hb).1
         exact .own (xs := []) (.inr ⟨0, _, _, rfl, rfl, rfl, by simp [blk]; omega⟩) (by rw [hsame _ hlt]; exact hmb) (by rw [hbw.block _ hlt]; exact hb) h0 hc1 hcc hcap hsz (by simp) (by simp)
   · intro i j r r' x x' b hij h1 h2
     cases i with
     | succ i => simp at h1
     | zero => cases j with
       | zero => exact absurd rfl hij
       | succ j => simp at h2
theorem bitsLen0_ok : Contract Tryz.prog 197 fun args K => args = [.int .u64 0] ∧ K [.d (.int .i64 0)] := by
 refine Contract.plain (by kernel_rfl) ?_
 rintro _ K ⟨rfl, hK⟩ _ w m vs hm hsz hrep
 match vs, hsz with
 | ⟨[x]⟩, _ =>
 have hx := hrep 0 _ _ rfl rfl
 have := hx.int_inv
 subst this
 refine ⟨[.int .i64 0], hK, resTyped_of (rk := [.cell (.int .i64)]) (by kernel_rfl) rfl ⟨⟨rfl, by decide, by decide⟩, trivial⟩, ?_⟩
 refine (Tryz.bits_Len 0 w (by omega) (by omega)).mono ?_
 rintro e w' ⟨rfl, rfl⟩
 refine ⟨[.int .i64 0], rfl, rfl, fun i d u h1 h2 => ?_, ?_⟩
 · cases i with
   | zero => simp at h1 h2; subst h1 h2; exact .int _ _
   | succ i => simp at h1
 · exact ⟨Below.refl _ _, Nat.le_refl _⟩
theorem insert0_ok : Contract Tryz.prog 220 fun args K => ∃ g caps, args = [.slice [], .int .i64 0, .int .i64 0, .clo g caps] ∧ K [] := by
 refine .of c220 t220_ok ?_
 rintro _ K ⟨g, caps, rfl, hK⟩ hsm
 refine ⟨[.slice [], .int .i64 0, .int .i64 0, .clo g caps], rfl, ⟨by simp [HasK], i64_has ⟨by omega, by omega⟩, i64_has ⟨by omega, by omega⟩, trivial, trivial⟩, ?_⟩
 unfold t220
 rw [denR_loop]
 refine ⟨fun c ys => c = none ∧ ys = [.int .i64 1], fun _ => 0, ⟨rfl, ?_⟩, ?_⟩
 · simp only [zz, RT.den, den, O1.eval, O2.eval, D.eqb, reduceCtorEq, D.sub, D.cell, D.elem, D.cells, D.padd, D.list, D.push]
   rw [wr64_eq (by omega)]; rfl
 rintro _ _ _ ⟨rfl, rfl⟩
 simp only [zz, RT.den, den, O1.eval, O2.eval, D.eqb, reduceCtorEq, D.sub, D.cell, D.elem, D.cells, D.padd, D.list, D.push]
 exact ⟨fun h => by omega, fun _ => hK⟩
theorem pdq0_ok : Contract Tryz.prog 202 fun args K => ∃ g caps, args = [.slice [], .int .i64 0, .int .i64 0, .int .i64 0, .clo g caps] ∧ K [] := by
 refine .of c202 t202_ok ?_
 rintro _ K ⟨g, caps, rfl, hK⟩ hsm
 refine ⟨[.slice [], .int .i64 0, .int .i64 0, .int .i64 0, .clo g caps], rfl, ⟨by simp [HasK], i64_has ⟨by omega, by omega⟩, i64_has ⟨by omega, by omega⟩, i64_has ⟨by omega, by omega⟩, trivial, trivial⟩, ?_⟩
 unfold t202
 rw [denR_loop]
 refine ⟨fun c ys => c = none ∧ ys = [], fun _ => 0, ⟨rfl, rfl⟩, ?_⟩
 rintro _ _ _ ⟨rfl, rfl⟩
 have e : wr64 ((0 : Int) - 0) = 0 := by rw [wr64_eq (by omega)]; rfl
 simp only [zz, RT.den, den, O1.eval, O2.eval, D.eqb, reduceCtorEq, D.sub, D.cell, D.elem, D.cells, D.padd, D.list, D.push, e]
 refine ⟨fun _ => ?_, fun h => by omega⟩
 refine denR_call insert0_ok ⟨g, caps, rfl, [], rfl, ?_⟩
 exact hK
theorem sort0_ok : Contract Tryz.prog 179 fun args K => ∃ g caps, args = [.slice [], .clo g caps] ∧ K [] := by
 refine .of c179 t179_ok ?_
 rintro _ K ⟨g, caps, rfl, hK⟩ hsm
 refine ⟨[.slice [], .clo g caps], rfl, ⟨by simp [HasK], trivial, trivial⟩, ?_⟩
 simp only [zz, RT.den, den, O1.eval, O2.eval, D.eqb, reduceCtorEq, D.sub, D.cell, D.elem, D.cells, D.padd, D.list, D.push, t179]
 intro _
 refine denR_call bitsLen0_ok ⟨?_, _, rfl, ?_⟩
 · simp only [zz, RT.den, den, O1.eval, O2.eval, D.eqb, reduceCtorEq, D.sub, D.cell, D.elem, D.cells, D.padd, D.list, D.push]
   simp [IntKind.wrap, IntKind.signed, IntKind.bits]
 refine denR_call pdq0_ok ⟨g, caps, rfl, [], rfl, ?_⟩
 exact hK
theorem sort179e_ok : ContractX Tryz.prog 179 [.own paKs, .cell .fn] true fun args K => ∃ g caps, args = [.own 2 [], .d (.clo g caps)] ∧ K [.own 2 []] := by
 refine ContractX.of_empty rfl sort0_ok (by kernel_rfl) fun g caps => argsTyped_of [some (.cell (.slice paKs)), some (.cell .fn)] (by kernel_rfl) ?_
 intro i rk d h1 h2
 match i, h1, h2 with
 | 0, h1, h2 => simp at h1 h2; subst h1 h2; simp [RK.kind, HasK]
 | 1, h1, h2 => simp at h1 h2; subst h1 h2; trivial
 | i + 2, h1, h2 => simp at h1
end Go.Sx.La
set_option maxRecDepth 100000
namespace Go.Sx.La
open Go Go.Sx Go.RowKit Go.Proofs
noncomputable def t127 : R := .fact (.o2 .le (.o1 .len (.var 2)) (.int .i64 140737488355328)) (.loop 0 [.nils, .int .i64 0, .nils] [.slice [.int .i64, .int .i64], .int .i64, .slice [.agg [.int .i64, .int .i64], .bool]] (.ite (.o2 .lt (.var 4) (.o1 .len (.var 2))) (.need (.o2 .le (.int .i64 0) (.var 4)) (.fact (.o2 .le (.o1 .len (.idx (.var 2) (.var 4) 2 (.slice [.int .i64, .int .i64, .int .i64, .int .i64, .int .i64]))) (.int .i64 140737488355328)) (.loop 1 [.var 3, .int .i64 0, .var 5] [.slice [.int .i64, .int .i64], .int .i64, .slice [.agg [.int .i64, .int .i64], .bool]] (.ite (.o2 .lt (.var 7) (.o1 .len (.idx (.var 2) (.var 4) 2 (.slice [.int .i64, .int .i64, .int .i64, .int .i64, .int .i64])))) (.need (.o2 .le (.int .i64 0) (.var 7)) (.need (.ite (.o1 .not (.ite (.o2 .ge (.o2 .find (.var 8) (.lcons (.idx (.idx (.var 2) (.var 4) 2 (.slice [.int .i64, .int .i64, .int .i64, .int .i64, .int .i64])) (.var 7) 0 (.int .i64)) (.lcons (.idx (.idx (.var 2) (.var 4) 2 (.slice [.int .i64, .int .i64, .int .i64, .int .i64, .int .i64])) (.var 7) 1 (.int .i64)) .lnil))) (.int .i64 0)) (.idx (.var 8) (.o2 .find (.var 8) (.lcons (.idx (.idx (.var 2) (.var 4) 2 (.slice [.int .i64, .int .i64, .int .i64, .int .i64, .int .i64])) (.var 7) 0 (.int .i64)) (.lcons (.idx (.idx (.var 2) (.var 4) 2 (.slice [.int .i64, .int .i64, .int .i64, .int .i64, .int .i64])) (.var 7) 1 (.int .i64)) .lnil))) 1 .bool) (.bool false))) (.o2 .le (.o1 .len (.o2 .app (.var 6) (.push .nils (.lcons (.idx (.idx (.var 2) (.var 4) 2 (.slice [.int .i64, .int .i64, .int .i64, .int .i64, .int .i64])) (.var 7) 0 (.int .i64)) (.lcons (.idx (.idx (.var 2) (.var 4) 2 (.slice [.int .i64, .int .i64, .int .i64, .int .i64, .int .i64])) (.var 7) 1 (.int .i64)) .lnil))))) (.int .i64 8796093022208)) (.bool true)) (.lets [.ite (.o1 .not (.ite (.o2 .ge (.o2 .find (.var 8) (.lcons (.idx (.idx (.var 2) (.var 4) 2 (.slice [.int .i64, .int .i64, .int .i64, .int .i64, .int .i64])) (.var 7) 0 (.int .i64)) (.lcons (.idx (.idx (.var 2) (.var 4) 2 (.slice [.int .i64, .int .i64, .int .i64, .int .i64, .int .i64])) (.var 7) 1 (.int .i64)) .lnil))) (.int .i64 0)) (.idx (.var 8) (.o2 .find (.var 8) (.lcons (.idx (.idx (.var 2) (.var 4) 2 (.slice [.int .i64, .int .i64, .int .i64, .int .i64, .int .i64])) (.var 7) 0 (.int .i64)) (.lcons (.idx (.idx (.var 2) (.var 4) 2 (.slice [.int .i64, .int .i64, .int .i64, .int .i64, .int .i64])) (.var 7) 1 (.int .i64)) .lnil))) 1 .bool) (.bool false))) (.o2 .app (.var 6) (.push .nils (.lcons (.idx (.idx (.var 2) (.var 4) 2 (.slice [.int .i64, .int .i64, .int .i64, .int .i64, .int .i64])) (.var 7) 0 (.int .i64)) (.lcons (.idx (.idx (.var 2) (.var 4) 2 (.slice [.int .i64, .int .i64, .int .i64, .int .i64, .int .i64])) (.var 7) 1 (.int .i64)) .lnil)))) (.var 6), .ite (.o1 .not (.ite (.o2 .ge (.o2 .find (.var 8) (.lcons (.idx (.idx (.var 2) (.var 4) 2 (.slice [.int .i64, .int .i64, .int .i64, .int .i64, .int .i64])) (.var 7) 0 (.int .i64)) (.lcons (.idx (.idx (.var 2) (.var 4) 2 (.slice [.int .i64, .int .i64, .int .i64, .int .i64, .int .i64])) (.var 7) 1 (.int .i64)) .lnil))) (.int .i64 0)) (.idx (.var 8) (.o2 .find (.var 8) (.lcons (.idx (.idx (.var 2) (.var 4) 2 (.slice [.int .i64, .int .i64, .int .i64, .int .i64, .int .i64])) (.var 7) 0 (.int .i64)) (.lcons (.idx (.idx (.var 2) (.var 4) 2 (.slice [.int .i64, .int .i64, .int .i64, .int .i64, .int .i64])) (.var 7) 1 (.int .i64)) .lnil))) 1 .bool) (.bool false))) (.ite (.o2 .ge (.o2 .find (.var 8) (.lcons (.idx (.idx (.var 2) (.var 4) 2 (.slice [.int .i64, .int .i64, .int .i64, .int .i64, .int .i64])) (.var 7) 0 (.int .i64)) (.lcons (.idx (.idx (.var 2) (.var 4) 2 (.slice [.int .i64, .int .i64, .int .i64, .int .i64, .int .i64])) (.var 7) 1 (.int .i64)) .lnil))) (.int .i64 0)) (.upd (.var 8) (.o2 .find (.var 8) (.lcons (.idx (.idx (.var 2) (.var 4) 2 (.slice [.int .i64, .int .i64, .int .i64, .int .i64, .int .i64])) (.var 7) 0 (.int .i64)) (.lcons (.idx (.idx (.var 2) (.var 4) 2 (.slice [.int .i64, .int .i64, .int .i64, .int .i64, .int .i64])) (.var 7) 1 (.int .i64)) .lnil))) 1 (.lcons (.bool true) .lnil)) (.push (.var 8) (.lcons (.lcons (.idx (.idx (.var 2) (.var 4) 2 (.slice [.int .i64, .int .i64, .int .i64, .int .i64, .int .i64])) (.var 7) 0 (.int .i64)) (.lcons (.idx (.idx (.var 2) (.var 4) 2 (.slice [.int .i64, .int .i64, .int .i64, .int .i64, .int .i64])) (.var 7) 1 (.int .i64)) .lnil)) (.lcons (.bool true) .lnil)))) (.var 8)] (.again 1 [.var 9, .o2 (.add .i64) (.var 7) (.int .i64 1), .var 10])))) (.again 0 [.var 6, .o2 (.add .i64) (.var 4) (.int .i64 1), .var 8]))))) (.callX true 179 [.own 2 (.var 3), .d (.fn 174)] [.own [.int .i64, .int .i64]] (.ret [.own 2 (.var 6)]))))
theorem t127_ok : fnO Tryz.prog mdA 127 [.agg [.int .i64, .int .i64, .slice [.str, .str, .slice [.int .i64, .int .i64, .int .i64, .int .i64, .int .i64], .slice [.int .i64, .int .i64, .int .i64, .int .i64, .int .i64, .int .i64], .bool, .bool, .int .i64, .str, .int .i64]]] = t127 := by kernel_rfl
theorem c127 : callable Tryz.prog 127 = true := by kernel_rfl
theorem par_flat (p : Par) : ∀ d ∈ p.enc, D.flat d = true := by
 intro d hd
 simp only [Par.enc, List.mem_cons, List.not_mem_nil, or_false] at hd
 rcases hd with rfl | rfl <;> rfl
theorem sort179_ok : ContractX Tryz.prog 179 [.own paKs, .cell .fn] true fun args K => ∃ (l : List Par) (g : FuncId) (caps : List D) (key : Par → Int) (cf : Par → Par → Int) (sf : Spec), l ≠ [] ∧ (∀ x ∈ l, HasKs paKs (Par.enc x)) ∧ args = [.own 2 (l.map Par.enc), .d (.clo g caps)] ∧ FvC Tryz.prog (.clo g caps) sf ∧
     (∀ x ∈ l, ∀ y ∈ l, (cf x y < 0 ↔ key x < key y) ∧ sf [.agg (Par.enc x), .agg (Par.enc y)] fun rs => rs = [.d (.int .i64 (cf x y))]) ∧ ∀ l' : List Par, l'.Perm l → l'.Pairwise (fun a b => key a ≤ key b) → K [.own 2 (l'.map Par.enc)] :=
 sort_ok (X := Par) (enc := Par.enc) (ks := paKs) (k := 2) Tryz.sort179 (by kernel_rfl) (by kernel_rfl) rfl (by omega) par_flat (fun _ => rfl) (fun w => by kernel_rfl) (fun w => by kernel_rfl) (by kernel_rfl)
def seenR (l : List Par) : List (List D) := l.map fun p => [.agg p.enc, .bool true]
theorem same_par (p q : Par) : D.same (.agg p.enc) (.agg q.enc) = decide (p = q) := by
 have : p = q ↔ p.ch = q.ch ∧ p.at_ = q.at_ := ⟨fun h => by rw [h]; exact ⟨rfl, rfl⟩, fun h => Par.ext' h.1 h.2⟩
 rw [Bool.eq_iff_iff]
 simp only [D.same, D.sameL, Par.enc, this, decide_eq_true_eq, Bool.and_eq_true, beq_iff_eq, and_true, true_and]
theorem findRow_seen (p : Par) : ∀ (l : List Par) (i : Nat), (p ∉ l ∧ D.findRow (.agg p.enc) (seenR l) i = -1) ∨ ∃ j, l[j]? = some p ∧ D.findRow (.agg p.enc) (seenR l) i = ((i + j : Nat) : Int)
 | [], i => .inl ⟨by simp, rfl⟩
 | q :: l, i => by
   have e : D.findRow (.agg p.enc) (seenR (q :: l)) i = if p = q then (i : Int) else D.findRow (.agg p.enc) (seenR l) (i + 1) := by
     show (if D.same (.agg p.enc) (.agg q.enc) = true then (i : Int) else _) = _
     rw [same_par]
     simp only [decide_eq_true_eq]
     rfl
   rw [e]
   by_cases h : p = q
   · subst h
     exact .inr ⟨0, rfl, by simp⟩
   · rw [if_neg h]
     rcases findRow_seen p l (i + 1) with ⟨h1, h2⟩ | ⟨j, h1, h2⟩
     · exact .inl ⟨by simp [h, h1], h2⟩
     · exact .inr ⟨j + 1, h1, by rw [h2]; congr 1; omega⟩
structure FI (l : Lis) (n : Nat) (a : List Par) : Prop where
 ok : ∀ p ∈ a, p.Ok
 len : a.length ≤ n
theorem FI.put {l : Lis} {n : Nat} {a : List Par} {p : Par} (h : FI l n a) (hp : p.Ok) : FI l (n + 1) (footP a p) :=
 ⟨fun q hq => (mem_footP.1 hq).elim (h.ok q) (fun e => e ▸ hp), by have := length_footP (p := p) (a := a); have := h.len; omega⟩
theorem footprint_ok : Contract Tryz.prog 127 fun args K => ∃ (l : Lis), RightT l ∧ args = [.agg l.enc] ∧ K [.own 2 ((movedL l.cues).map Par.enc)] := by
 refine .of c127 t127_ok ?_
 rintro _ K ⟨l, hR, rfl, hK⟩ hsm
 have hlen := hR.len
 refine ⟨l.enc, rfl, Lis.has hR.ok, ?_⟩
 simp only [zz, RT.den, den, O1.eval, O2.eval, D.eqb, reduceCtorEq, D.sub, D.cell, D.elem, D.cells, D.padd, D.list, D.push, t127, Lis.enc]
 intro hcap
 refine loop_goI l.cues (fun i cs (a : List Par) => footAll a (pars cs)) (fun i a => [.slice (a.map Par.enc), .int .i64 i, .slice (seenR a)]) (fun i a => FI l (128 * i) a) [] (footL l.cues) rfl ⟨by simp, by simp⟩ 1 (fun _ _ => rfl) rfl ?_ ?_
 · intro i hi a hI hgo
   have hcm := List.getElem_mem hi
   have hml := (hR.moves _ hcm).len
   simp only [zz, RT.den, den, O1.eval, O2.eval, D.eqb, reduceCtorEq, D.sub, D.cell, D.elem, D.cells, D.padd, D.list, D.push, List.length_map, hi, getD_map hi, Cue.enc]
   refine ⟨by omega, fun hcap1 => ?_⟩
   rw [show pars (l.cues[i] :: l.cues.drop (i + 1)) = l.cues[i].moves.map (·.pa) ++ pars (l.cues.drop (i + 1)) from rfl] at hgo
   rw [footAll, List.foldl_append] at hgo
   refine loop_goI l.cues[i].moves (fun _ ms (b : List Par) => footAll b (ms.map (·.pa) ++ pars (l.cues.drop (i + 1)))) (fun k b => [.slice (b.map Par.enc), .int .i64 k, .slice (seenR b)]) (fun k b => FI l (128 * i + k) b) a (footL l.cues) (by simpa [footAll, List.foldl_append] using hgo) (by simpa using hI) 1 (fun _ _ => rfl) (by simp only [zz, RT.den, den, O1.eval, O2.eval, D.eqb, reduceCtorEq, D.sub, D.cell, D.elem, D.cells, D.padd, D.list, D.push]; simp) ?_ ?_
   · intro k hk b hI2 hgo2
     have hb := hI2.len
     have hmk := ((hR.ok.cues _ hcm).moves _ (List.getElem_mem hk)).1
     generalize hp : l.cues[i].moves[k].pa = p at hmk
     have hgo3 : footAll (footP b p) ((l.cues[i].moves.drop (k + 1)).map (·.pa) ++ pars (l.cues.drop (i + 1))) = footL l.cues := by rw [← hp]; exact hgo2
     rcases findRow_seen p b 0 with ⟨h1, h2⟩ | ⟨j, h1, h2⟩
     · have hfr : D.findRow (.agg [.int .i64 p.ch, .int .i64 p.at_]) (seenR b) 0 = -1 := h2
       have e0 : ¬ (0 : Int) ≤ -1 := by omega
       have ef : footP b p = b ++ [p] := by unfold footP; rw [if_neg h1]
       rw [ef] at hgo3
       have hput := hI2.put hmk
       rw [ef] at hput
       simp only [zz, RT.den, den, O1.eval, O2.eval, D.eqb, reduceCtorEq, D.sub, D.cell, D.elem, D.cells, D.padd, D.list, D.push, List.length_map, hi, getD_map hi, Cue.enc, hk, getD_map hk, Mov.enc, hp, hfr, e0, Bool.not_false, List.length_append]
       refine ⟨by omega, by simp; omega, b ++ [p], ⟨by simp [Par.enc], by rw [wr64_eq] <;> omega, by simp [seenR, Par.enc]⟩, hput, hgo3⟩
     · have hfr : D.findRow (.agg [.int .i64 p.ch, .int .i64 p.at_]) (seenR b) 0 = (j : Int) := by rw [Nat.zero_add] at h2; exact h2
       have e0 : (0 : Int) ≤ (j : Int) := by omega
       have hmem : p ∈ b := List.mem_of_getElem? h1
       have ef : footP b p = b := by unfold footP; rw [if_pos hmem]
       rw [ef] at hgo3
       have hput := hI2.put hmk
       rw [ef] at hput
       have hrow : ((seenR b).getD j []).getD 1 (Go.Sx.K.zero .bool) = .bool true := by
         simp only [seenR, List.getD_eq_getElem?_getD, List.getElem?_map, h1, Option.map_some, Option.getD_some]
         rfl
       simp only [zz, RT.den, den, O1.eval, O2.eval, D.eqb, reduceCtorEq, D.sub, D.cell, D.elem, D.cells, D.padd, D.list, D.push, List.length_map, hi, getD_map hi, Cue.enc, hk, getD_map hk, Mov.enc, hp, hfr, e0, Bool.not_true, Int.toNat_natCast, hrow]
       refine ⟨by omega, b, ⟨rfl, by rw [wr64_eq] <;> omega, rfl⟩, hput, hgo3⟩
   · intro b hI2 hgo2
     simp only [zz, RT.den, den, O1.eval, O2.eval, D.eqb, reduceCtorEq, D.sub, D.cell, D.elem, D.cells, D.padd, D.list, D.push, List.length_map, hi, getD_map hi, Cue.enc, Nat.lt_irrefl]
     refine ⟨rfl, b, ?_, ⟨hI2.ok, by have := hI2.len; omega⟩, by simpa using hgo2⟩
     rw [wr64_eq (by omega)]; rfl
 · intro a hI hgo
   simp only [zz, RT.den, den, O1.eval, O2.eval, D.eqb, reduceCtorEq, D.sub, D.cell, D.elem, D.cells, D.padd, D.list, D.push, List.length_map, Nat.lt_irrefl]
   simp only [pars, List.flatMap_nil, footAll, List.foldl_nil] at hgo
   subst hgo
   have hpar := pars_ok hR
   have hok : ∀ p ∈ footL l.cues, p.Ok ∧ param15 p = 0 := fun p hp => hpar p (mem_footL.1 hp)
   by_cases hne : footL l.cues = []
   · have e : movedL l.cues = [] := by
       refine List.eq_nil_iff_forall_not_mem.2 fun x hx => ?_
       have := mem_footL.2 (mem_movedL.1 hx)
       rw [hne] at this; simp at this
     rw [e] at hK
     rw [hne]
     refine denR_callX sort179e_ok ⟨[.slice [], .clo 174 []], rfl, ⟨by simp [HasK], trivial, trivial⟩⟩ (fun _ => rfl) ⟨174, [], rfl, [.slice []], rfl, ?_⟩
     exact hK
   · refine denR_callX sort179_ok ⟨[.slice ((footL l.cues).map Par.enc), .clo 174 []], rfl, ⟨pars_has fun p hp => (hok p hp).1, trivial, trivial⟩⟩ (fun _ => rfl) ?_
     have hkey : ∀ x y : Par, param15 x = 0 → param15 y = 0 → (pcmp x y < 0 ↔ 15 * x.ch + x.at_ < 15 * y.ch + y.at_) := by
       intro x y hx hy
       rw [pcmp_neg hx hy]
       have h1 := param15_ok' hx
       have h2 := param15_ok' hy
       simp only [before15, Bool.or_eq_true, Bool.and_eq_true, decide_eq_true_eq]
       omega
     refine ⟨footL l.cues, 174, [], fun p => 15 * p.ch + p.at_, pcmp, fun as_ K => ∃ p q : Par, p.Ok ∧ q.Ok ∧ as_ = [.agg p.enc, .agg q.enc] ∧ K [.d (.int .i64 (pcmp p q))], hne, fun x hx => Par.has (hok x hx).1, rfl, FvC.of c174 tcmp_ok ?_, ?_, ?_⟩
     · rintro _ K ⟨a, b, ha, hb, rfl, hK⟩
       refine ⟨⟨a, b, ha, hb, rfl, hK⟩, argsTyped_of [some (.agg paKs), some (.agg paKs)] (by kernel_rfl) ?_⟩
       intro i rk d h1 h2
       match i, h1, h2 with
       | 0, h1, h2 => simp at h1 h2; subst h1 h2; exact Par.has ha
       | 1, h1, h2 => simp at h1 h2; subst h1 h2; exact Par.has hb
     · intro x hx y hy
       exact ⟨hkey x y (hok x hx).2 (hok y hy).2, x, y, (hok x hx).1, (hok y hy).1, rfl, rfl⟩
     · intro l' hperm hsorted
       have e := foot_sorted (cs := l.cues) (a := l') (fun p hp => (hpar p hp).2) hperm (List.Pairwise.imp_of_mem (fun {x y} hx hy h => by
         have h : 15 * x.ch + x.at_ ≤ 15 * y.ch + y.at_ := h
         rw [hkey y x (hok y (hperm.mem_iff.1 hy)).2 (hok x (hperm.mem_iff.1 hx)).2]; omega) hsorted)
       refine ⟨[.slice (l'.map Par.enc)], rfl, ?_⟩
       rw [e]
       simp only [zz, RT.den, den, O1.eval, O2.eval, D.eqb, reduceCtorEq, D.sub, D.cell, D.elem, D.cells, D.padd, D.list, D.push]
       exact hK
end Go.Sx.La
set_option maxRecDepth 100000
namespace Go.Sx.La
open Go Go.Sx Go.RowKit Go.Proofs
noncomputable def t123 : R := .call none (.fn 127) [.lcons (.var 0) (.lcons (.var 1) (.lcons (.var 2) .lnil))] [.cell (.slice [.int .i64, .int .i64])] (.fact (.o2 .le (.o1 .len (.var 4)) (.int .i64 140737488355328)) (.loop 0 [.nils, .int .i64 0] [.slice [.int .i64, .int .i64, .int .i64, .int .i64], .int .i64] (.ite (.o2 .lt (.var 6) (.o1 .len (.var 4))) (.need (.o2 .le (.int .i64 0) (.var 6)) (.call none (.fn 177) [.lcons (.var 0) (.lcons (.var 1) (.lcons (.var 2) .lnil)), .var 3, .lcons (.idx (.var 4) (.var 6) 0 (.int .i64)) (.lcons (.idx (.var 4) (.var 6) 1 (.int .i64)) .lnil)] [.agg [.int .i64, .int .i64]] (.need (.o2 .le (.o1 .len (.o2 .app (.var 5) (.push .nils (.lcons (.idx (.var 4) (.var 6) 0 (.int .i64)) (.lcons (.idx (.var 4) (.var 6) 1 (.int .i64)) (.lcons (.var 7) (.lcons (.var 8) .lnil))))))) (.int .i64 4398046511104)) (.again 0 [.o2 .app (.var 5) (.push .nils (.lcons (.idx (.var 4) (.var 6) 0 (.int .i64)) (.lcons (.idx (.var 4) (.var 6) 1 (.int .i64)) (.lcons (.var 7) (.lcons (.var 8) .lnil))))), .o2 (.add .i64) (.var 6) (.int .i64 1)])))) (.ret [.own 4 (.var 5)]))))
theorem t123_ok : fnO Tryz.prog mdA 123 [.agg [.int .i64, .int .i64, .slice [.str, .str, .slice [.int .i64, .int .i64, .int .i64, .int .i64, .int .i64], .slice [.int .i64, .int .i64, .int .i64, .int .i64, .int .i64, .int .i64], .bool, .bool, .int .i64, .str, .int .i64]], .cell (.int .i64)] = t123 := by kernel_rfl
theorem c123 : callable Tryz.prog 123 = true := by kernel_rfl
noncomputable def t122 : R := .fact (.o2 .le (.o1 .len (.var 1)) (.int .i64 140737488355328)) (.loop 0 [.nils, .int .i64 0] [.slice [.int .i64, .int .i64, .int .i64, .int .i64], .int .i64] (.ite (.o2 .lt (.var 3) (.o1 .len (.var 1))) (.need (.o2 .le (.int .i64 0) (.var 3)) (.need (.o2 .lt (.var 3) (.o1 .len (.var 0))) (.need (.ite (.o1 .not (.o2 .band (.o2 .eq (.idx (.var 1) (.var 3) 2 (.int .i64)) (.idx (.var 0) (.var 3) 2 (.int .i64))) (.o2 .band (.o2 .eq (.idx (.var 1) (.var 3) 3 (.int .i64)) (.idx (.var 0) (.var 3) 3 (.int .i64))) (.bool true)))) (.o2 .le (.o1 .len (.o2 .app (.var 2) (.push .nils (.lcons (.idx (.var 1) (.var 3) 0 (.int .i64)) (.lcons (.idx (.var 1) (.var 3) 1 (.int .i64)) (.lcons (.idx (.var 1) (.var 3) 2 (.int .i64)) (.lcons (.idx (.var 1) (.var 3) 3 (.int .i64)) .lnil))))))) (.int .i64 4398046511104)) (.bool true)) (.lets [.ite (.o1 .not (.o2 .band (.o2 .eq (.idx (.var 1) (.var 3) 2 (.int .i64)) (.idx (.var 0) (.var 3) 2 (.int .i64))) (.o2 .band (.o2 .eq (.idx (.var 1) (.var 3) 3 (.int .i64)) (.idx (.var 0) (.var 3) 3 (.int .i64))) (.bool true)))) (.o2 .app (.var 2) (.push .nils (.lcons (.idx (.var 1) (.var 3) 0 (.int .i64)) (.lcons (.idx (.var 1) (.var 3) 1 (.int .i64)) (.lcons (.idx (.var 1) (.var 3) 2 (.int .i64)) (.lcons (.idx (.var 1) (.var 3) 3 (.int .i64)) .lnil)))))) (.var 2)] (.again 0 [.var 4, .o2 (.add .i64) (.var 3) (.int .i64 1)]))))) (.ret [.own 4 (.var 2)])))
theorem t122_ok : fnO Tryz.prog mdA 122 [.cell (.slice [.int .i64, .int .i64, .int .i64, .int .i64]), .cell (.slice [.int .i64, .int .i64, .int .i64, .int .i64])] = t122 := by kernel_rfl
theorem c122 : callable Tryz.prog 122 = true := by kernel_rfl
noncomputable def t57 : R := .call none (.fn 116) [.lcons (.var 0) (.lcons (.var 1) (.lcons (.var 2) .lnil)), .var 3] [.cell (.int .i64), .cell (.int .i64)] (.ite (.o2 .ne (.var 5) (.int .i64 0)) (.ret [.d .nils, .d (.var 5)]) (.call none (.fn 123) [.lcons (.var 0) (.lcons (.var 1) (.lcons (.var 2) .lnil)), .var 4] [.cell (.slice [.int .i64, .int .i64, .int .i64, .int .i64])] (.ret [.d (.var 6), .d (.int .i64 0)])))
theorem t57_ok : fnO Tryz.prog mdA 57 [.agg [.int .i64, .int .i64, .slice [.str, .str, .slice [.int .i64, .int .i64, .int .i64, .int .i64, .int .i64], .slice [.int .i64, .int .i64, .int .i64, .int .i64, .int .i64, .int .i64], .bool, .bool, .int .i64, .str, .int .i64]], .cell .str] = t57 := by kernel_rfl
theorem c57 : callable Tryz.prog 57 = true := by kernel_rfl
noncomputable def t52 : R := .call none (.fn 116) [.lcons (.var 0) (.lcons (.var 1) (.lcons (.var 2) .lnil)), .var 3] [.cell (.int .i64), .cell (.int .i64)] (.ite (.o2 .ne (.var 5) (.int .i64 0)) (.ret [.d .nils, .d (.var 5)]) (.call none (.fn 123) [.lcons (.var 0) (.lcons (.var 1) (.lcons (.var 2) .lnil)), .o2 (.sub .i64) (.var 4) (.int .i64 1)] [.cell (.slice [.int .i64, .int .i64, .int .i64, .int .i64])] (.call none (.fn 123) [.lcons (.var 0) (.lcons (.var 1) (.lcons (.var 2) .lnil)), .var 4] [.cell (.slice [.int .i64, .int .i64, .int .i64, .int .i64])] (.call none (.fn 122) [.var 6, .var 7] [.cell (.slice [.int .i64, .int .i64, .int .i64, .int .i64])] (.ret [.d (.var 8), .d (.int .i64 0)])))))
theorem t52_ok : fnO Tryz.prog mdA 52 [.agg [.int .i64, .int .i64, .slice [.str, .str, .slice [.int .i64, .int .i64, .int .i64, .int .i64, .int .i64], .slice [.int .i64, .int .i64, .int .i64, .int .i64, .int .i64, .int .i64], .bool, .bool, .int .i64, .str, .int .i64]], .cell .str] = t52 := by kernel_rfl
theorem c52 : callable Tryz.prog 52 = true := by kernel_rfl
noncomputable def t53 : R := .call none (.fn 119) [.lcons (.var 0) (.lcons (.var 1) (.lcons (.var 2) .lnil)), .var 3] [.cell (.int .i64)] (.ite (.o2 .ne (.var 4) (.int .i64 0)) (.ret [.d .nils, .d (.var 4)]) (.call none (.fn 75) [.lcons (.var 0) (.lcons (.var 1) (.lcons (.var 2) .lnil)), .var 3] [.cell (.int .i64)] (.call none (.fn 126) [.lcons (.var 0) (.lcons (.var 1) (.lcons (.var 2) .lnil)), .o2 (.sub .i64) (.var 5) (.int .i64 1)] [.cell (.slice [.int .i64, .int .i64, .int .i64, .int .i64])] (.call none (.fn 126) [.lcons (.var 0) (.lcons (.var 1) (.lcons (.var 2) .lnil)), .var 5] [.cell (.slice [.int .i64, .int .i64, .int .i64, .int .i64])] (.call none (.fn 125) [.var 6, .var 7] [.cell (.slice [.int .i64, .int .i64, .int .i64, .int .i64])] (.ret [.d (.var 8), .d (.int .i64 0)]))))))
noncomputable def t50 : R := .call none (.fn 116) [.lcons (.var 0) (.lcons (.var 1) (.lcons (.var 2) .lnil)), .var 3] [.cell (.int .i64), .cell (.int .i64)] (.ite (.o2 .ne (.var 6) (.int .i64 0)) (.ret [.d .nils, .d (.var 6)]) (.call none (.fn 116) [.lcons (.var 0) (.lcons (.var 1) (.lcons (.var 2) .lnil)), .var 4] [.cell (.int .i64), .cell (.int .i64)] (.ite (.o2 .ne (.var 8) (.int .i64 0)) (.ret [.d .nils, .d (.var 8)]) (.call none (.fn 123) [.lcons (.var 0) (.lcons (.var 1) (.lcons (.var 2) .lnil)), .var 5] [.cell (.slice [.int .i64, .int .i64, .int .i64, .int .i64])] (.call none (.fn 123) [.lcons (.var 0) (.lcons (.var 1) (.lcons (.var 2) .lnil)), .var 7] [.cell (.slice [.int .i64, .int .i64, .int .i64, .int .i64])] (.call none (.fn 122) [.var 9, .var 10] [.cell (.slice [.int .i64, .int .i64, .int .i64, .int .i64])] (.ret [.d (.var 11), .d (.int .i64 0)])))))))
theorem t50_ok : fnO Tryz.prog mdA 50 [.agg [.int .i64, .int .i64, .slice [.str, .str, .slice [.int .i64, .int .i64, .int .i64, .int .i64, .int .i64], .slice [.int .i64, .int .i64, .int .i64, .int .i64, .int .i64, .int .i64], .bool, .bool, .int .i64, .str, .int .i64]], .cell .str, .cell .str] = t50 := by kernel_rfl
theorem c50 : callable Tryz.prog 50 = true := by kernel_rfl
noncomputable def t51 : R := .call none (.fn 119) [.lcons (.var 0) (.lcons (.var 1) (.lcons (.var 2) .lnil)), .var 3] [.cell (.int .i64)] (.ite (.o2 .ne (.var 5) (.int .i64 0)) (.ret [.d .nils, .d (.var 5)]) (.call none (.fn 124) [.lcons (.var 0) (.lcons (.var 1) (.lcons (.var 2) .lnil)), .var 4] [.cell (.int .i64)] (.ite (.o2 .ne (.var 6) (.int .i64 0)) (.ret [.d .nils, .d (.var 6)]) (.call none (.fn 75) [.lcons (.var 0) (.lcons (.var 1) (.lcons (.var 2) .lnil)), .var 3] [.cell (.int .i64)] (.call none (.fn 126) [.lcons (.var 0) (.lcons (.var 1) (.lcons (.var 2) .lnil)), .var 7] [.cell (.slice [.int .i64, .int .i64, .int .i64, .int .i64])] (.call none (.fn 75) [.lcons (.var 0) (.lcons (.var 1) (.lcons (.var 2) .lnil)), .var 4] [.cell (.int .i64)] (.call none (.fn 126) [.lcons (.var 0) (.lcons (.var 1) (.lcons (.var 2) .lnil)), .var 9] [.cell (.slice [.int .i64, .int .i64, .int .i64, .int .i64])] (.call none (.fn 125) [.var 8, .var 10] [.cell (.slice [.int .i64, .int .i64, .int .i64, .int .i64])] (.ret [.d (.var 11), .d (.int .i64 0)])))))))))
noncomputable def t55 : R := .call none (.fn 25) [.lcons (.var 0) (.lcons (.var 1) (.lcons (.var 2) .lnil))] [.cell (.int .i64)] (.ite (.o2 .ne (.var 3) (.int .i64 0)) (.ret [.d .nils, .d (.var 3)]) (.call none (.fn 127) [.lcons (.var 0) (.lcons (.var 1) (.lcons (.var 2) .lnil))] [.cell (.slice [.int .i64, .int .i64])] (.ret [.d (.var 4), .d (.int .i64 0)])))
structure Ent where
 pa : Par
 va : Val
 deriving DecidableEq
def Ent.enc (e : Ent) : List D := [.int .i64 e.pa.ch, .int .i64 e.pa.at_, .int .i64 e.va.pal, .int .i64 e.va.lev]
def Ent.Ok (e : Ent) : Prop := e.pa.Ok ∧ e.va.Ok
def enKs : List K := [.int .i64, .int .i64, .int .i64, .int .i64]
theorem Ent.has {e : Ent} (h : e.Ok) : HasKs enKs e.enc := ⟨i64_has h.1.1, i64_has h.1.2, i64_has h.2.1, i64_has h.2.2, trivial⟩
def lookL (cs : List Cue) (n : Nat) : List Ent := (movedL cs).map fun p => ⟨p, valued cs p n⟩
theorem valued_ok' {l : Lis} (hR : RightT l) (p : Par) (n : Nat) : (valued l.cues p n).Ok := by
 unfold valued lastM
 cases h : (backL l.cues n).findSome? fun c => mfind c.moves p with
 | none => exact ⟨⟨by decide, by decide⟩, ⟨by decide, by decide⟩⟩
 | some m =>
   obtain ⟨c, hc, hm⟩ := List.exists_of_findSome?_eq_some h
   have hcm := backL_mem hc
   exact ((hR.ok.cues c hcm).moves m (List.mem_of_find?_eq_some hm)).2.1
theorem moved_len {l : Lis} (hR : RightT l) : (movedL l.cues).length ≤ 8192 := by
 have h1 := pars_len (cs := l.cues) fun c hc => (hR.moves c hc).len
 have h2 := length_putAll (ps := pars l.cues) (a := [])
 have h3 := hR.len
 simp only [movedL, List.length_nil] at h2 ⊢
 omega
theorem moved_par {l : Lis} (hR : RightT l) : ∀ p ∈ movedL l.cues, p.Ok ∧ param15 p = 0 := fun p hp => pars_ok hR p (mem_movedL.1 hp)
theorem lookL_ok {l : Lis} (hR : RightT l) (n : Nat) : ∀ e ∈ lookL l.cues n, e.Ok := by
 intro e he
 obtain ⟨p, hp, rfl⟩ := List.mem_map.1 he
 exact ⟨(moved_par hR p hp).1, valued_ok' hR p n⟩
theorem has_ln {l : Lis} (hl : l.Ok) {v : Int} (hv : I64 v) : HasKs (liKs ++ [.int .i64]) (l.enc ++ [.int .i64 v]) := (Lis.has hl).append (i64_one hv)
def lookGo (cs : List Cue) (n : Nat) (ps : List Par) (acc : List Ent) : List Ent := acc ++ ps.map fun p => ⟨p, valued cs p n⟩
theorem look_ok : Contract Tryz.prog 123 fun args K => ∃ (l : Lis) (n : Nat), RightT l ∧ n ≤ l.cues.length ∧ args = [.agg l.enc, .int .i64 ((n : Int) - 1)] ∧ K [.own 4 ((lookL l.cues n).map Ent.enc)] := by
 refine .of c123 t123_ok ?_
 rintro _ K ⟨l, n, hR, hn, rfl, hK⟩ hsm
 have hlen := hR.len
 have h64 : I64 ((n : Int) - 1) := ⟨by omega, by omega⟩
 refine ⟨l.enc ++ [.int .i64 ((n : Int) - 1)], rfl, by exact has_ln hR.ok h64, ?_⟩
 refine denR_call footprint_ok ⟨l, hR, by simp only [zz, RT.den, den, O1.eval, O2.eval, D.eqb, reduceCtorEq, D.sub, D.cell, D.elem, D.cells, D.padd, D.list, D.push, Lis.enc], _, rfl, ?_⟩
 have hml := moved_len hR
 have hmp := moved_par hR
 generalize hps : movedL l.cues = ps at hml hmp
 have hK' : K [.own 4 ((lookGo l.cues n ps []).map Ent.enc)] := by simpa [lookGo, lookL, hps] using hK
 simp only [zz, RT.den, den, O1.eval, O2.eval, D.eqb, reduceCtorEq, D.sub, D.cell, D.elem, D.cells, D.padd, D.list, D.push, Lis.enc, List.length_map]
 intro hcap
 refine loop_goI ps (fun _ ps (acc : List Ent) => lookGo l.cues n ps acc) (fun i acc => [.slice (acc.map Ent.enc), .int .i64 i]) (fun i acc => acc.length = i) [] (lookGo l.cues n ps []) rfl rfl 1 (fun _ _ => rfl) rfl ?_ ?_
 · intro i hi acc hI hgo
   have hpm := hmp _ (List.getElem_mem hi)
   simp only [zz, RT.den, den, O1.eval, O2.eval, D.eqb, reduceCtorEq, D.sub, D.cell, D.elem, D.cells, D.padd, D.list, D.push, List.length_map, hi, getD_map hi, Par.enc]
   refine ⟨by omega, ?_⟩
   refine denR_call tvalue_ok ⟨l, n, ps[i], hR, hn, hpm.1, hpm.2, by simp only [zz, RT.den, den, O1.eval, O2.eval, D.eqb, reduceCtorEq, D.sub, D.cell, D.elem, D.cells, D.padd, D.list, D.push, Lis.enc, getD_map hi, Par.enc], _, rfl, ?_⟩
   simp only [zz, RT.den, den, O1.eval, O2.eval, D.eqb, reduceCtorEq, D.sub, D.cell, D.elem, D.cells, D.padd, D.list, D.push, Lis.enc, getD_map hi, Par.enc, Val.enc, List.length_append, List.length_map]
   refine ⟨by simp; omega, acc ++ [⟨ps[i], valued l.cues ps[i] n⟩], ⟨by simp [Ent.enc], by rw [wr64_eq] <;> omega⟩, by simp [hI], by simp only [lookGo, List.append_assoc, List.singleton_append, List.map_cons, List.map_drop] at hgo ⊢; exact hgo⟩
 · intro acc hI hgo
   simp only [zz, RT.den, den, O1.eval, O2.eval, D.eqb, reduceCtorEq, D.sub, D.cell, D.elem, D.cells, D.padd, D.list, D.push, List.length_map, Nat.lt_irrefl]
   rw [← hgo] at hK'
   simpa [lookGo] using hK'
end Go.Sx.La
set_option maxRecDepth 100000
namespace Go.Sx.La
open Go Go.Sx Go.RowKit Go.Proofs
def diffE : List Ent → List Ent → List Ent
 | x :: a, y :: b => if x.va = y.va then diffE a b else y :: diffE a b
 | _, _ => []
def SamePs (a b : List Ent) : Prop := a.map (·.pa) = b.map (·.pa)
theorem look_same (cs : List Cue) (n k : Nat) : SamePs (lookL cs n) (lookL cs k) := by simp [SamePs, lookL]
theorem diffE_drop {a b : List Ent} {i : Nat} (ha : i < a.length) (hb : i < b.length) : diffE (a.drop i) (b.drop i) = if a[i].va = b[i].va then diffE (a.drop (i + 1)) (b.drop (i + 1)) else b[i] :: diffE (a.drop (i + 1)) (b.drop (i + 1)) := by
 rw [List.drop_eq_getElem_cons ha, List.drop_eq_getElem_cons hb]; rfl
theorem SamePs.len {a b : List Ent} (h : SamePs a b) : a.length = b.length := by
 have := congrArg List.length h
 simpa using this
theorem SamePs.get {a b : List Ent} (h : SamePs a b) {i : Nat} (ha : i < a.length) (hb : i < b.length) : a[i].pa = b[i].pa := by
 have h1 : (a.map (·.pa))[i]? = (b.map (·.pa))[i]? := by rw [h]
 simpa [ha, hb] using h1
theorem ents_has {a : List Ent} (h : ∀ e ∈ a, e.Ok) : HasK (.slice enKs) (.slice (a.map Ent.enc)) := slice_has fun e he => Ent.has (h e he)
theorem val_eq (v w : Val) : v = w ↔ v.pal = w.pal ∧ v.lev = w.lev := ⟨fun h => by rw [h]; exact ⟨rfl, rfl⟩, fun h => by cases v; cases w; simp_all⟩
theorem different_ok : Contract Tryz.prog 122 fun args K => ∃ (a b : List Ent), (∀ e ∈ a, e.Ok) ∧ (∀ e ∈ b, e.Ok) ∧ SamePs a b ∧ a.length ≤ 10000 ∧ args = [.slice (a.map Ent.enc), .slice (b.map Ent.enc)] ∧ K [.own 4 ((diffE a b).map Ent.enc)] := by
 refine .of c122 t122_ok ?_
 rintro _ K ⟨a, b, ha, hb, hab, hlen, rfl, hK⟩ hsm
 refine ⟨[.slice (a.map Ent.enc), .slice (b.map Ent.enc)], rfl, ⟨ents_has ha, ents_has hb, trivial⟩, ?_⟩
 have hl := hab.len
 simp only [zz, RT.den, den, O1.eval, O2.eval, D.eqb, reduceCtorEq, D.sub, D.cell, D.elem, D.cells, D.padd, D.list, D.push, t122, List.length_map]
 intro hcap
 refine loop_goI b (fun i _ (acc : List Ent) => acc ++ diffE (a.drop i) (b.drop i)) (fun i acc => [.slice (acc.map Ent.enc), .int .i64 i]) (fun i acc => acc.length ≤ i) [] (diffE a b) (by simp) (by simp) 1 (fun _ _ => rfl) rfl ?_ ?_
 · intro i hi acc hI hgo
   have hia : i < a.length := by omega
   rw [diffE_drop hia hi] at hgo
   have hv := val_eq a[i].va b[i].va
   simp only [zz, RT.den, den, O1.eval, O2.eval, D.eqb, reduceCtorEq, D.sub, D.cell, D.elem, D.cells, D.padd, D.list, D.push, List.length_map, hi, hia, getD_map hi, getD_map hia, Ent.enc, List.length_append]
   by_cases h : a[i].va = b[i].va
   · rw [if_pos h] at hgo
     have h' := hv.1 h
     have e1 : b[i].va.pal = a[i].va.pal := h'.1.symm
     have e2 : b[i].va.lev = a[i].va.lev := h'.2.symm
     simp only [zz, RT.den, den, O1.eval, O2.eval, D.eqb, reduceCtorEq, D.sub, D.cell, D.elem, D.cells, D.padd, D.list, D.push, e1, e2]
     refine ⟨by omega, by simp, acc, ⟨by simp, by rw [wr64_eq] <;> omega⟩, by omega, hgo⟩
   · rw [if_neg h] at hgo
     have h' : ¬ (b[i].va.pal = a[i].va.pal ∧ b[i].va.lev = a[i].va.lev) := fun e => h (hv.2 ⟨e.1.symm, e.2.symm⟩)
     have hc : (¬b[i].va.pal = a[i].va.pal ∨ ¬b[i].va.lev = a[i].va.lev ∨ False) = True := by
       rw [eq_iff_iff]
       refine ⟨fun _ => trivial, fun _ => ?_⟩
       by_cases e : b[i].va.pal = a[i].va.pal
       · exact .inr (.inl fun e2 => h' ⟨e, e2⟩)
       · exact .inl e
     simp only [hc, if_true]
     refine ⟨by omega, by simp; omega, acc ++ [b[i]], ⟨by simp [Ent.enc], by rw [wr64_eq] <;> omega⟩, by simp; omega, by simpa using hgo⟩
 · intro acc hI hgo
   simp only [List.drop_length] at hgo
   have e : diffE (a.drop b.length) [] = [] := by cases a.drop b.length <;> rfl
   rw [e, List.append_nil] at hgo
   simp only [zz, RT.den, den, O1.eval, O2.eval, D.eqb, reduceCtorEq, D.sub, D.cell, D.elem, D.cells, D.padd, D.list, D.push, List.length_map, Nat.lt_irrefl]
   rw [← hgo] at hK
   exact hK
def lookR (l : Lis) (s : List UInt8) : List Ent × Int := if cue18 l s ≠ 0 then ([], cue18 l s) else (lookL l.cues (upto l s), 0)
def stepsR (l : Lis) (s : List UInt8) : List Ent × Int := if cue18 l s ≠ 0 then ([], cue18 l s) else (diffE (lookL l.cues (upto l s - 1)) (lookL l.cues (upto l s)), 0)
def changesR (l : Lis) (s t : List UInt8) : List Ent × Int := if cue18 l s ≠ 0 then ([], cue18 l s) else if cue18 l t ≠ 0 then ([], cue18 l t) else (diffE (lookL l.cues (upto l s)) (lookL l.cues (upto l t)), 0)
def footR (l : Lis) : List Par × Int := if checkL order05 l ≠ 0 then ([], checkL order05 l) else (movedL l.cues, 0)
def entRV (r : List Ent × Int) : List RV := [.d (.slice (r.1.map Ent.enc)), .d (.int .i64 r.2)]
theorem lookC_ok : Contract Tryz.prog 57 fun args K => ∃ (l : Lis) (s : List UInt8), l.Ok ∧ args = [.agg l.enc, .str s] ∧ K (entRV (lookR l s)) := by
 refine .of c57 t57_ok ?_
 rintro _ K ⟨l, s, hl, rfl, hK⟩ hsm
 refine ⟨l.enc ++ [.str s], rfl, by exact has_s hl, ?_⟩
 refine denR_call tplace_ok ⟨l, s, hl, by simp only [zz, RT.den, den, O1.eval, O2.eval, D.eqb, reduceCtorEq, D.sub, D.cell, D.elem, D.cells, D.padd, D.list, D.push, Lis.enc], _, rfl, ?_⟩
 simp only [zz, RT.den, den, O1.eval, O2.eval, D.eqb, reduceCtorEq, D.sub, D.cell, D.elem, D.cells, D.padd, D.list, D.push, Lis.enc]
 unfold lookR at hK
 refine ⟨fun h => ?_, fun h => ?_⟩
 · have h : cue18 l s ≠ 0 := by simpa using h
   rw [if_pos h] at hK; exact hK
 have h : cue18 l s = 0 := by simpa using h
 obtain ⟨hR, h05, hpl, hup, hu0, hul⟩ := cue18_right hl h
 rw [if_neg (by simp [h])] at hK
 have hat : (if cue18 l s ≠ 0 then 0 else place l.cues s) = (upto l s : Int) - 1 := by rw [if_neg (by simp [h])]; exact hup
 refine denR_call look_ok ⟨l, upto l s, hR, hul, by simp only [zz, RT.den, den, O1.eval, O2.eval, D.eqb, reduceCtorEq, D.sub, D.cell, D.elem, D.cells, D.padd, D.list, D.push, Lis.enc, hat], _, rfl, ?_⟩
 simp only [zz, RT.den, den, O1.eval, O2.eval, D.eqb, reduceCtorEq, D.sub, D.cell, D.elem, D.cells, D.padd, D.list, D.push, Lis.enc]
 exact hK
end Go.Sx.La
set_option maxRecDepth 100000
namespace Go.Sx.La
open Go Go.Sx Go.RowKit Go.Proofs
theorem lookL_len {l : Lis} (hR : RightT l) (n : Nat) : (lookL l.cues n).length ≤ 10000 := by
 have := moved_len hR
 simp only [lookL, List.length_map]; omega
theorem stepsC_ok : Contract Tryz.prog 52 fun args K => ∃ (l : Lis) (s : List UInt8), l.Ok ∧ args = [.agg l.enc, .str s] ∧ K (entRV (stepsR l s)) := by
 refine .of c52 t52_ok ?_
 rintro _ K ⟨l, s, hl, rfl, hK⟩ hsm
 refine ⟨l.enc ++ [.str s], rfl, by exact has_s hl, ?_⟩
 refine denR_call tplace_ok ⟨l, s, hl, by simp only [zz, RT.den, den, O1.eval, O2.eval, D.eqb, reduceCtorEq, D.sub, D.cell, D.elem, D.cells, D.padd, D.list, D.push, Lis.enc], _, rfl, ?_⟩
 simp only [zz, RT.den, den, O1.eval, O2.eval, D.eqb, reduceCtorEq, D.sub, D.cell, D.elem, D.cells, D.padd, D.list, D.push, Lis.enc]
 unfold stepsR at hK
 refine ⟨fun h => ?_, fun h => ?_⟩
 · have h : cue18 l s ≠ 0 := by simpa using h
   rw [if_pos h] at hK; exact hK
 have h : cue18 l s = 0 := by simpa using h
 obtain ⟨hR, h05, hpl, hup, hu0, hul⟩ := cue18_right hl h
 have hlen := hR.len
 rw [if_neg (by simp [h])] at hK
 have hat : (if cue18 l s ≠ 0 then 0 else place l.cues s) = (upto l s : Int) - 1 := by rw [if_neg (by simp [h])]; exact hup
 have hat1 : wr64 ((upto l s : Int) - 1 - 1) = ((upto l s - 1 : Nat) : Int) - 1 := by rw [wr64_eq (by omega)]; omega
 refine denR_call look_ok ⟨l, upto l s - 1, hR, by omega, by simp only [zz, RT.den, den, O1.eval, O2.eval, D.eqb, reduceCtorEq, D.sub, D.cell, D.elem, D.cells, D.padd, D.list, D.push, Lis.enc, hat, hat1], _, rfl, ?_⟩
 refine denR_call look_ok ⟨l, upto l s, hR, hul, by simp only [zz, RT.den, den, O1.eval, O2.eval, D.eqb, reduceCtorEq, D.sub, D.cell, D.elem, D.cells, D.padd, D.list, D.push, Lis.enc, hat], _, rfl, ?_⟩
 refine denR_call different_ok ⟨_, _, lookL_ok hR (upto l s - 1), lookL_ok hR (upto l s), look_same _ _ _, lookL_len hR _, by simp only [zz, RT.den, den, O1.eval, O2.eval, D.eqb, reduceCtorEq, D.sub, D.cell, D.elem, D.cells, D.padd, D.list, D.push, Lis.enc], _, rfl, ?_⟩
 simp only [zz, RT.den, den, O1.eval, O2.eval, D.eqb, reduceCtorEq, D.sub, D.cell, D.elem, D.cells, D.padd, D.list, D.push, Lis.enc]
 exact hK
theorem has_lss {l : Lis} (hl : l.Ok) {s t : List UInt8} : HasKs (liKs ++ [.str, .str]) (l.enc ++ [.str s, .str t]) := has_ss hl
theorem changesC_ok : Contract Tryz.prog 50 fun args K => ∃ (l : Lis) (s t : List UInt8), l.Ok ∧ args = [.agg l.enc, .str s, .str t] ∧ K (entRV (changesR l s t)) := by
 refine .of c50 t50_ok ?_
 rintro _ K ⟨l, s, t, hl, rfl, hK⟩ hsm
 refine ⟨l.enc ++ [.str s, .str t], rfl, by exact has_lss hl, ?_⟩
 refine denR_call tplace_ok ⟨l, s, hl, by simp only [zz, RT.den, den, O1.eval, O2.eval, D.eqb, reduceCtorEq, D.sub, D.cell, D.elem, D.cells, D.padd, D.list, D.push, Lis.enc], _, rfl, ?_⟩
 simp only [zz, RT.den, den, O1.eval, O2.eval, D.eqb, reduceCtorEq, D.sub, D.cell, D.elem, D.cells, D.padd, D.list, D.push, Lis.enc]
 unfold changesR at hK
 refine ⟨fun h => ?_, fun h => ?_⟩
 · have h : cue18 l s ≠ 0 := by simpa using h
   rw [if_pos h] at hK; exact hK
 have h : cue18 l s = 0 := by simpa using h
 obtain ⟨hR, h05, hpl, hup, hu0, hul⟩ := cue18_right hl h
 rw [if_neg (by simp [h])] at hK
 have hat : (if cue18 l s ≠ 0 then 0 else place l.cues s) = (upto l s : Int) - 1 := by rw [if_neg (by simp [h])]; exact hup
 refine denR_call tplace_ok ⟨l, t, hl, by simp only [zz, RT.den, den, O1.eval, O2.eval, D.eqb, reduceCtorEq, D.sub, D.cell, D.elem, D.cells, D.padd, D.list, D.push, Lis.enc], _, rfl, ?_⟩
 simp only [zz, RT.den, den, O1.eval, O2.eval, D.eqb, reduceCtorEq, D.sub, D.cell, D.elem, D.cells, D.padd, D.list, D.push, Lis.enc]
 refine ⟨fun h => ?_, fun h => ?_⟩
 · have h : cue18 l t ≠ 0 := by simpa using h
   rw [if_pos h] at hK; exact hK
 have h2 : cue18 l t = 0 := by simpa using h
 obtain ⟨_, _, _, hup2, _, hul2⟩ := cue18_right hl h2
 rw [if_neg (by simp [h2])] at hK
 have hat2 : (if cue18 l t ≠ 0 then 0 else place l.cues t) = (upto l t : Int) - 1 := by rw [if_neg (by simp [h2])]; exact hup2
 refine denR_call look_ok ⟨l, upto l s, hR, hul, by simp only [zz, RT.den, den, O1.eval, O2.eval, D.eqb, reduceCtorEq, D.sub, D.cell, D.elem, D.cells, D.padd, D.list, D.push, Lis.enc, hat], _, rfl, ?_⟩
 refine denR_call look_ok ⟨l, upto l t, hR, hul2, by simp only [zz, RT.den, den, O1.eval, O2.eval, D.eqb, reduceCtorEq, D.sub, D.cell, D.elem, D.cells, D.padd, D.list, D.push, Lis.enc, hat2], _, rfl, ?_⟩
 refine denR_call different_ok ⟨_, _, lookL_ok hR (upto l s), lookL_ok hR (upto l t), look_same _ _ _, lookL_len hR _, by simp only [zz, RT.den, den, O1.eval, O2.eval, D.eqb, reduceCtorEq, D.sub, D.cell, D.elem, D.cells, D.padd, D.list, D.push, Lis.enc], _, rfl, ?_⟩
 simp only [zz, RT.den, den, O1.eval, O2.eval, D.eqb, reduceCtorEq, D.sub, D.cell, D.elem, D.cells, D.padd, D.list, D.push, Lis.enc]
 exact hK
def parRV (r : List Par × Int) : List RV := [.d (.slice (r.1.map Par.enc)), .d (.int .i64 r.2)]
end Go.Sx.La
set_option maxRecDepth 100000
namespace Go.Sx.La
open Go Go.Sx Go.RowKit Go.Proofs
noncomputable def t46 : R := .call none (.fn 17) [.lcons (.var 0) (.lcons (.var 1) (.lcons (.var 2) .lnil))] [.cell .bool] (.ite (.o1 .not (.var 3)) (.ret [.d (.bool false)]) (.fact (.o2 .le (.o1 .len (.var 2)) (.int .i64 140737488355328)) (.ite (.o2 .gt (.o1 .len (.var 2)) (.int .i64 10)) (.call none (.fn 42) [.lcons (.var 0) (.lcons (.var 1) (.lcons (.var 2) .lnil))] [.cell (.int .i64)] (.ret [.d (.o2 .ne (.var 4) (.int .i64 0))])) (.loop 0 [.int .i64 0, .int .i64 0] [.int .i64, .int .i64] (.ite (.o2 .lt (.var 5) (.o1 .len (.var 2))) (.need (.o2 .le (.int .i64 0) (.var 5)) (.fact (.o2 .le (.o1 .len (.idx (.var 2) (.var 5) 2 (.slice [.int .i64, .int .i64, .int .i64, .int .i64, .int .i64]))) (.int .i64 140737488355328)) (.ite (.ite (.o2 .gt (.o1 .len (.idx (.var 2) (.var 5) 2 (.slice [.int .i64, .int .i64, .int .i64, .int .i64, .int .i64]))) (.int .i64 20)) (.bool true) (.o2 .gt (.o2 (.add .i64) (.var 4) (.o1 .len (.idx (.var 2) (.var 5) 2 (.slice [.int .i64, .int .i64, .int .i64, .int .i64, .int .i64])))) (.int .i64 30))) (.call none (.fn 42) [.lcons (.var 0) (.lcons (.var 1) (.lcons (.var 2) .lnil))] [.cell (.int .i64)] (.ret [.d (.o2 .ne (.var 6) (.int .i64 0))])) (.again 0 [.o2 (.add .i64) (.var 4) (.o1 .len (.idx (.var 2) (.var 5) 2 (.slice [.int .i64, .int .i64, .int .i64, .int .i64, .int .i64]))), .o2 (.add .i64) (.var 5) (.int .i64 1)])))) (.ret [.d (.bool true)]))))))
theorem t46_ok : fnO Tryz.prog mdA 46 [.agg [.int .i64, .int .i64, .slice [.str, .str, .slice [.int .i64, .int .i64, .int .i64, .int .i64, .int .i64], .slice [.int .i64, .int .i64, .int .i64, .int .i64, .int .i64, .int .i64], .bool, .bool, .int .i64, .str, .int .i64]]] = t46 := by kernel_rfl
theorem c46 : callable Tryz.prog 46 = true := by kernel_rfl
noncomputable def t115 : R := .ret [.d (.lcons (.int .i64 0) (.lcons (.var 0) .lnil))]
theorem t115_ok : fnO Tryz.prog mdA 115 [.cell (.int .i64)] = t115 := by kernel_rfl
theorem c115 : callable Tryz.prog 115 = true := by kernel_rfl
noncomputable def t170 : R := .call none (.fn 115) [.var 2] [.agg [.int .i64, .int .i64]] (.ret [.d (.lcons (.var 0) (.lcons (.var 1) (.lcons (.var 3) (.lcons (.var 4) (.lcons (.int .i64 1) .lnil)))))])
theorem t170_ok : fnO Tryz.prog mdA 170 [.cell (.int .i64), .cell (.int .i64), .cell (.int .i64)] = t170 := by kernel_rfl
theorem c170 : callable Tryz.prog 170 = true := by kernel_rfl
noncomputable def t169 : R := .ret [.d (.lcons (.var 0) (.lcons (.str []) (.lcons (.var 2) (.lcons (.rep (.int .i64 1) (.lcons (.int .i64 0) (.lcons (.int .i64 0) (.lcons (.int .i64 0) (.lcons (.int .i64 0) (.lcons (.int .i64 0) (.lcons (.int .i64 0) .lnil))))))) (.lcons (.var 1) (.lcons (.bool false) (.lcons (.int .i64 (-1)) (.lcons (.str []) (.lcons (.int .i64 0) .lnil)))))))))]
theorem t169_ok : fnO Tryz.prog mdA 169 [.cell .str, .cell .bool, .cell (.slice [.int .i64, .int .i64, .int .i64, .int .i64, .int .i64])] = t169 := by kernel_rfl
theorem c169 : callable Tryz.prog 169 = true := by kernel_rfl
noncomputable def t112 : R := .call none (.fn 170) [.int .i64 1, .int .i64 0, .int .i64 100] [.agg [.int .i64, .int .i64, .int .i64, .int .i64, .int .i64]] (.call none (.fn 170) [.int .i64 1, .int .i64 1, .int .i64 7] [.agg [.int .i64, .int .i64, .int .i64, .int .i64, .int .i64]] (.call none (.fn 169) [.str [49], .bool false, .push (.push .nils (.lcons (.var 0) (.lcons (.var 1) (.lcons (.var 2) (.lcons (.var 3) (.lcons (.var 4) .lnil)))))) (.lcons (.var 5) (.lcons (.var 6) (.lcons (.var 7) (.lcons (.var 8) (.lcons (.var 9) .lnil)))))] [.agg [.str, .str, .slice [.int .i64, .int .i64, .int .i64, .int .i64, .int .i64], .slice [.int .i64, .int .i64, .int .i64, .int .i64, .int .i64, .int .i64], .bool, .bool, .int .i64, .str, .int .i64]] (.call none (.fn 170) [.int .i64 1, .int .i64 0, .int .i64 200] [.agg [.int .i64, .int .i64, .int .i64, .int .i64, .int .i64]] (.call none (.fn 169) [.str [50], .bool false, .push .nils (.lcons (.var 19) (.lcons (.var 20) (.lcons (.var 21) (.lcons (.var 22) (.lcons (.var 23) .lnil)))))] [.agg [.str, .str, .slice [.int .i64, .int .i64, .int .i64, .int .i64, .int .i64], .slice [.int .i64, .int .i64, .int .i64, .int .i64, .int .i64, .int .i64], .bool, .bool, .int .i64, .str, .int .i64]] (.call none (.fn 170) [.int .i64 1, .int .i64 1, .int .i64 9] [.agg [.int .i64, .int .i64, .int .i64, .int .i64, .int .i64]] (.call none (.fn 169) [.str [51], .bool true, .push .nils (.lcons (.var 33) (.lcons (.var 34) (.lcons (.var 35) (.lcons (.var 36) (.lcons (.var 37) .lnil)))))] [.agg [.str, .str, .slice [.int .i64, .int .i64, .int .i64, .int .i64, .int .i64], .slice [.int .i64, .int .i64, .int .i64, .int .i64, .int .i64, .int .i64], .bool, .bool, .int .i64, .str, .int .i64]] (.call none (.fn 170) [.int .i64 2, .int .i64 0, .int .i64 50] [.agg [.int .i64, .int .i64, .int .i64, .int .i64, .int .i64]] (.call none (.fn 169) [.str [52], .bool false, .push .nils (.lcons (.var 47) (.lcons (.var 48) (.lcons (.var 49) (.lcons (.var 50) (.lcons (.var 51) .lnil)))))] [.agg [.str, .str, .slice [.int .i64, .int .i64, .int .i64, .int .i64, .int .i64], .slice [.int .i64, .int .i64, .int .i64, .int .i64, .int .i64, .int .i64], .bool, .bool, .int .i64, .str, .int .i64]] (.ret [.d (.lcons (.int .i64 1) (.lcons (.int .i64 0) (.lcons (.push (.push (.push (.push .nils (.lcons (.var 10) (.lcons (.var 11) (.lcons (.var 12) (.lcons (.var 13) (.lcons (.var 14) (.lcons (.var 15) (.lcons (.var 16) (.lcons (.var 17) (.lcons (.var 18) .lnil)))))))))) (.lcons (.var 24) (.lcons (.var 25) (.lcons (.var 26) (.lcons (.var 27) (.lcons (.var 28) (.lcons (.var 29) (.lcons (.var 30) (.lcons (.var 31) (.lcons (.var 32) .lnil)))))))))) (.lcons (.var 38) (.lcons (.var 39) (.lcons (.var 40) (.lcons (.var 41) (.lcons (.var 42) (.lcons (.var 43) (.lcons (.var 44) (.lcons (.var 45) (.lcons (.var 46) .lnil)))))))))) (.lcons (.var 52) (.lcons (.var 53) (.lcons (.var 54) (.lcons (.var 55) (.lcons (.var 56) (.lcons (.var 57) (.lcons (.var 58) (.lcons (.var 59) (.lcons (.var 60) .lnil)))))))))) .lnil)))])))))))))
theorem t112_ok : fnO Tryz.prog mdA 112 [] = t112 := by kernel_rfl
theorem c112 : callable Tryz.prog 112 = true := by kernel_rfl
noncomputable def t114 : R := .fact (.o2 .le (.o1 .len (.var 0)) (.int .i64 140737488355328)) (.loop 0 [.nils, .int .i64 0] [.slice [.int .i64, .int .i64], .int .i64] (.ite (.o2 .lt (.var 2) (.o1 .len (.var 0))) (.need (.o2 .le (.int .i64 0) (.var 2)) (.need (.o2 .le (.o1 .len (.o2 .app (.var 1) (.push .nils (.lcons (.idx (.var 0) (.var 2) 2 (.int .i64)) (.lcons (.idx (.var 0) (.var 2) 3 (.int .i64)) .lnil))))) (.int .i64 8796093022208)) (.again 0 [.o2 .app (.var 1) (.push .nils (.lcons (.idx (.var 0) (.var 2) 2 (.int .i64)) (.lcons (.idx (.var 0) (.var 2) 3 (.int .i64)) .lnil))), .o2 (.add .i64) (.var 2) (.int .i64 1)]))) (.ret [.own 2 (.var 1)])))
theorem t114_ok : fnO Tryz.prog mdA 114 [.cell (.slice [.int .i64, .int .i64, .int .i64, .int .i64])] = t114 := by kernel_rfl
theorem c114 : callable Tryz.prog 114 = true := by kernel_rfl
noncomputable def t113 : R := .fact (.o2 .le (.o1 .len (.var 0)) (.int .i64 140737488355328)) (.fact (.o2 .le (.o1 .len (.var 1)) (.int .i64 140737488355328)) (.ite (.o2 .ne (.o1 .len (.var 0)) (.o1 .len (.var 1))) (.ret [.d (.bool false)]) (.loop 0 [.int .i64 0] [.int .i64] (.ite (.o2 .lt (.var 2) (.o1 .len (.var 0))) (.need (.o2 .le (.int .i64 0) (.var 2)) (.need (.o2 .lt (.var 2) (.o1 .len (.var 1))) (.ite (.o1 .not (.o2 .band (.o2 .eq (.idx (.var 0) (.var 2) 0 (.int .i64)) (.idx (.var 1) (.var 2) 0 (.int .i64))) (.o2 .band (.o2 .eq (.idx (.var 0) (.var 2) 1 (.int .i64)) (.idx (.var 1) (.var 2) 1 (.int .i64))) (.bool true)))) (.ret [.d (.bool false)]) (.again 0 [.o2 (.add .i64) (.var 2) (.int .i64 1)])))) (.ret [.d (.bool true)])))))
theorem t113_ok : fnO Tryz.prog mdA 113 [.cell (.slice [.int .i64, .int .i64]), .cell (.slice [.int .i64, .int .i64])] = t113 := by kernel_rfl
theorem c113 : callable Tryz.prog 113 = true := by kernel_rfl
theorem few18_ok : Contract Tryz.prog 46 fun args K => ∃ (l : Lis), l.Ok ∧ args = [.agg l.enc] ∧ ∀ b : Bool, K [.d (.bool b)] := by
 refine .of c46 t46_ok ?_
 rintro _ K ⟨l, hl, rfl, hK⟩ hsm
 refine ⟨l.enc, rfl, Lis.has hl, ?_⟩
 refine denR_call few17_ok ⟨l, hl, by simp only [zz, RT.den, den, O1.eval, O2.eval, D.eqb, reduceCtorEq, D.sub, D.cell, D.elem, D.cells, D.padd, D.list, D.push, Lis.enc], _, rfl, ?_⟩
 simp only [zz, RT.den, den, O1.eval, O2.eval, D.eqb, reduceCtorEq, D.sub, D.cell, D.elem, D.cells, D.padd, D.list, D.push, Lis.enc, List.length_map]
 refine ⟨fun _ => hK false, fun _ hcap => ⟨fun _ => ?_, fun h10 => ?_⟩⟩
 · refine denR_call check17_ok ⟨l, hl, by simp only [zz, RT.den, den, O1.eval, O2.eval, D.eqb, reduceCtorEq, D.sub, D.cell, D.elem, D.cells, D.padd, D.list, D.push, Lis.enc], _, rfl, ?_⟩
   simp only [zz, RT.den, den, O1.eval, O2.eval, D.eqb, reduceCtorEq, D.sub, D.cell, D.elem, D.cells, D.padd, D.list, D.push]
   exact hK _
 · rw [denR_loop]
   refine ⟨fun c ys => c = none ∧ ∃ (i : Nat) (m : Int), i ≤ l.cues.length ∧ ys = [.int .i64 m, .int .i64 i], fun ys => match ys with | [_, .int _ i] => l.cues.length - i.toNat | _ => 0, ⟨rfl, 0, 0, Nat.zero_le _, rfl⟩, ?_⟩
   rintro _ _ _ ⟨rfl, i, m, hi, rfl⟩
   simp only [zz, RT.den, den, O1.eval, O2.eval, D.eqb, reduceCtorEq, D.sub, D.cell, D.elem, D.cells, D.padd, D.list, D.push, List.length_map]
   refine ⟨fun h => ?_, fun _ => hK true⟩
   have h : i < l.cues.length := by omega
   simp only [zz, RT.den, den, O1.eval, O2.eval, D.eqb, reduceCtorEq, D.sub, D.cell, D.elem, D.cells, D.padd, D.list, D.push, getD_map h, Cue.enc, List.length_map]
   refine ⟨by omega, fun hcap2 => ⟨fun _ => ?_, fun _ => ?_⟩⟩
   · refine denR_call check17_ok ⟨l, hl, by simp only [zz, RT.den, den, O1.eval, O2.eval, D.eqb, reduceCtorEq, D.sub, D.cell, D.elem, D.cells, D.padd, D.list, D.push, Lis.enc], _, rfl, ?_⟩
     simp only [zz, RT.den, den, O1.eval, O2.eval, D.eqb, reduceCtorEq, D.sub, D.cell, D.elem, D.cells, D.padd, D.list, D.push]
     exact hK _
   · refine ⟨⟨rfl, i + 1, _, by omega, ⟨rfl, ?_⟩⟩, ?_⟩
     · rw [wr64_eq (by omega)]; rfl
     · rw [wr64_eq (by omega)]
       show l.cues.length - ((i : Int) + 1).toNat < l.cues.length - ((i : Int)).toNat
       omega
theorem vals_has {l : List Val} (h : ∀ v ∈ l, v.Ok) : HasK (.slice paKs) (.slice (l.map Val.enc)) := slice_has fun v hv => ⟨i64_has (h v hv).1, i64_has (h v hv).2, trivial⟩
theorem eqVals_ok : Contract Tryz.prog 113 fun args K => ∃ (a : List Val), (∀ e ∈ a, e.Ok) ∧ args = [.slice (a.map Val.enc), .slice (a.map Val.enc)] ∧ K [.d (.bool true)] := by
 refine .of c113 t113_ok ?_
 rintro _ K ⟨a, ha, rfl, hK⟩ hsm
 refine ⟨[.slice (a.map Val.enc), .slice (a.map Val.enc)], rfl, ⟨vals_has ha, vals_has ha, trivial⟩, ?_⟩
 simp only [zz, RT.den, den, O1.eval, O2.eval, D.eqb, reduceCtorEq, D.sub, D.cell, D.elem, D.cells, D.padd, D.list, D.push, t113, List.length_map]
 intro hcap _
 refine loop_go a (fun _ _ (_ : Unit) => ()) (fun i _ => [.int .i64 i]) () () rfl 0 (fun _ _ => rfl) rfl ?_ ?_
 · intro i hi _ _
   simp only [zz, RT.den, den, O1.eval, O2.eval, D.eqb, reduceCtorEq, D.sub, D.cell, D.elem, D.cells, D.padd, D.list, D.push, List.length_map, hi, getD_map hi, Val.enc]
   refine ⟨by omega, fun h => by simp at h, ?_⟩
   exact ⟨(), by rw [wr64_eq] <;> omega⟩
 · intro _ _
   simp only [zz, RT.den, den, O1.eval, O2.eval, D.eqb, reduceCtorEq, D.sub, D.cell, D.elem, D.cells, D.padd, D.list, D.push, List.length_map, Nat.lt_irrefl]
   exact hK
theorem at15_ok : Contract Tryz.prog 115 fun args K => ∃ v : Int, I64 v ∧ args = [.int .i64 v] ∧ K [.d (.agg (Val.enc ⟨0, v⟩))] := by
 refine .of c115 t115_ok ?_
 rintro _ K ⟨v, hv, rfl, hK⟩ hsm
 refine ⟨[.int .i64 v], rfl, ⟨i64_has hv, trivial⟩, ?_⟩
 simp only [zz, RT.den, den, O1.eval, O2.eval, D.eqb, reduceCtorEq, D.sub, D.cell, D.elem, D.cells, D.padd, D.list, D.push, t115]
 exact hK
def mv18 (c a v : Int) : Mov := ⟨⟨c, a⟩, ⟨0, v⟩, 1⟩
theorem mv18_ok : Contract Tryz.prog 170 fun args K => ∃ c a v : Int, I64 c ∧ I64 a ∧ I64 v ∧ args = [.int .i64 c, .int .i64 a, .int .i64 v] ∧ K [.d (.agg (mv18 c a v).enc)] := by
 refine .of c170 t170_ok ?_
 rintro _ K ⟨c, a, v, hc, ha, hv, rfl, hK⟩ hsm
 refine ⟨[.int .i64 c, .int .i64 a, .int .i64 v], rfl, ⟨i64_has hc, i64_has ha, i64_has hv, trivial⟩, ?_⟩
 refine denR_call at15_ok ⟨v, hv, rfl, _, rfl, ?_⟩
 simp only [zz, RT.den, den, O1.eval, O2.eval, D.eqb, reduceCtorEq, D.sub, D.cell, D.elem, D.cells, D.padd, D.list, D.push, Val.enc]
 exact hK
theorem values_ok : Contract Tryz.prog 114 fun args K => ∃ (a : List Ent), (∀ e ∈ a, e.Ok) ∧ a.length ≤ 10000 ∧ args = [.slice (a.map Ent.enc)] ∧ K [.own 2 (a.map fun e => e.va.enc)] := by
 refine .of c114 t114_ok ?_
 rintro _ K ⟨a, ha, hlen, rfl, hK⟩ hsm
 refine ⟨[.slice (a.map Ent.enc)], rfl, ⟨ents_has ha, trivial⟩, ?_⟩
 simp only [zz, RT.den, den, O1.eval, O2.eval, D.eqb, reduceCtorEq, D.sub, D.cell, D.elem, D.cells, D.padd, D.list, D.push, t114, List.length_map]
 intro hcap
 refine loop_goI a (fun _ xs (acc : List (List D)) => acc ++ xs.map fun e => e.va.enc) (fun i acc => [.slice acc, .int .i64 i]) (fun i acc => acc.length = i) [] (a.map fun e => e.va.enc) (by simp) rfl 1 (fun _ _ => rfl) rfl ?_ ?_
 · intro i hi acc hI hgo
   simp only [zz, RT.den, den, O1.eval, O2.eval, D.eqb, reduceCtorEq, D.sub, D.cell, D.elem, D.cells, D.padd, D.list, D.push, List.length_map, hi, getD_map hi, Ent.enc, List.length_append]
   refine ⟨by omega, by simp; omega, acc ++ [a[i].va.enc], ⟨by simp [Val.enc], by rw [wr64_eq] <;> omega⟩, by simp [hI], by simp only [List.append_assoc, List.singleton_append, List.map_cons, List.map_drop] at hgo ⊢; exact hgo⟩
 · intro acc hI hgo
   simp only [zz, RT.den, den, O1.eval, O2.eval, D.eqb, reduceCtorEq, D.sub, D.cell, D.elem, D.cells, D.padd, D.list, D.push, List.length_map, Nat.lt_irrefl]
   simp only [List.map_nil, List.append_nil] at hgo
   rw [← hgo] at hK
   exact hK
def zt : Tim := ⟨0, 0, 0, 0, 0, 0⟩
def cue169 (n : List UInt8) (b : Bool) (ms : List Mov) : Cue := ⟨n, [], ms, [zt], b, false, -1, [], 0⟩
theorem cue169_ok : Contract Tryz.prog 169 fun args K => ∃ (n : List UInt8) (b : Bool) (ms : List Mov), (∀ m ∈ ms, m.Ok) ∧ args = [.str n, .bool b, .slice (ms.map Mov.enc)] ∧ K [.d (.agg (cue169 n b ms).enc)] := by
 refine .of c169 t169_ok ?_
 rintro _ K ⟨n, b, ms, hm, rfl, hK⟩ hsm
 refine ⟨[.str n, .bool b, .slice (ms.map Mov.enc)], rfl, ⟨trivial, trivial, slice_has fun m h => Mov.has (hm m h), trivial⟩, ?_⟩
 simp only [zz, RT.den, den, O1.eval, O2.eval, D.eqb, reduceCtorEq, D.sub, D.cell, D.elem, D.cells, D.padd, D.list, D.push, t169]
 exact hK
def four : Lis := ⟨1, 0, [cue169 [49] false [mv18 1 0 100, mv18 1 1 7], cue169 [50] false [mv18 1 0 200], cue169 [51] true [mv18 1 1 9], cue169 [52] false [mv18 2 0 50]]⟩
theorem mv18_Ok {c a v : Int} (hc : I64 c) (ha : I64 a) (hv : I64 v) : (mv18 c a v).Ok := ⟨⟨hc, ha⟩, ⟨show I64 0 from ⟨by decide, by decide⟩, hv⟩, show I64 1 from ⟨by decide, by decide⟩⟩
theorem four_ok : Contract Tryz.prog 112 fun args K => args = [] ∧ K [.d (.agg four.enc)] := by
 refine .of c112 t112_ok ?_
 rintro _ K ⟨rfl, hK⟩ hsm
 refine ⟨[], rfl, trivial, ?_⟩
 have i : ∀ {v : Int}, -1000 ≤ v ∧ v ≤ 1000 → I64 v := fun h => ⟨by omega, by omega⟩
 refine denR_call mv18_ok ⟨1, 0, 100, i (by omega), i (by omega), i (by omega), rfl, _, rfl, ?_⟩
 refine denR_call mv18_ok ⟨1, 1, 7, i (by omega), i (by omega), i (by omega), rfl, _, rfl, ?_⟩
 refine denR_call cue169_ok ⟨[49], false, [mv18 1 0 100, mv18 1 1 7], fun m hm => by
   simp only [List.mem_cons, List.not_mem_nil, or_false] at hm
   rcases hm with rfl | rfl <;> exact mv18_Ok (i (by omega)) (i (by omega)) (i (by omega)), rfl, _, rfl, ?_⟩
 refine denR_call mv18_ok ⟨1, 0, 200, i (by omega), i (by omega), i (by omega), rfl, _, rfl, ?_⟩
 refine denR_call cue169_ok ⟨[50], false, [mv18 1 0 200], fun m hm => by
   simp only [List.mem_cons, List.not_mem_nil, or_false] at hm
   rcases hm with rfl; exact mv18_Ok (i (by omega)) (i (by omega)) (i (by omega)), rfl, _, rfl, ?_⟩
 refine denR_call mv18_ok ⟨1, 1, 9, i (by omega), i (by omega), i (by omega), rfl, _, rfl, ?_⟩
 refine denR_call cue169_ok ⟨[51], true, [mv18 1 1 9], fun m hm => by
   simp only [List.mem_cons, List.not_mem_nil, or_false] at hm
   rcases hm with rfl; exact mv18_Ok (i (by omega)) (i (by omega)) (i (by omega)), rfl, _, rfl, ?_⟩
 refine denR_call mv18_ok ⟨2, 0, 50, i (by omega), i (by omega), i (by omega), rfl, _, rfl, ?_⟩
 refine denR_call cue169_ok ⟨[52], false, [mv18 2 0 50], fun m hm => by
   simp only [List.mem_cons, List.not_mem_nil, or_false] at hm
   rcases hm with rfl; exact mv18_Ok (i (by omega)) (i (by omega)) (i (by omega)), rfl, _, rfl, ?_⟩
 exact hK
end Go.Sx.La
set_option maxRecDepth 100000
namespace Go.Sx.La
open Go Go.Sx Go.RowKit Go.Proofs
noncomputable def t47 : R := .call none (.fn 112) [] [.agg [.int .i64, .int .i64, .slice [.str, .str, .slice [.int .i64, .int .i64, .int .i64, .int .i64, .int .i64], .slice [.int .i64, .int .i64, .int .i64, .int .i64, .int .i64, .int .i64], .bool, .bool, .int .i64, .str, .int .i64]]] (.call none (.fn 57) [.lcons (.var 0) (.lcons (.var 1) (.lcons (.var 2) .lnil)), .str [50]] [.cell (.slice [.int .i64, .int .i64, .int .i64, .int .i64]), .cell (.int .i64)] (.call none (.fn 57) [.lcons (.var 0) (.lcons (.var 1) (.lcons (.var 2) .lnil)), .str [52]] [.cell (.slice [.int .i64, .int .i64, .int .i64, .int .i64]), .cell (.int .i64)] (.call none (.fn 48) [.lcons (.var 0) (.lcons (.var 1) (.lcons (.var 2) .lnil)), .str [50], .lcons (.int .i64 1) (.lcons (.int .i64 1) .lnil)] [.cell .str, .cell .bool, .cell (.int .i64)] (.call none (.fn 48) [.lcons (.var 0) (.lcons (.var 1) (.lcons (.var 2) .lnil)), .str [52], .lcons (.int .i64 1) (.lcons (.int .i64 0) .lnil)] [.cell .str, .cell .bool, .cell (.int .i64)] (.ite (.ite (.ite (.ite (.o2 .ne (.o2 (.add .i64) (.o2 (.add .i64) (.o2 (.add .i64) (.var 4) (.var 6)) (.var 9)) (.var 12)) (.int .i64 0)) (.bool true) (.o2 .ne (.var 7) (.str [49]))) (.bool true) (.o1 .not (.var 8))) (.bool true) (.var 11)) (.ret [.d (.bool false)]) (.call none (.fn 77) [] [.agg [.int .i64, .int .i64]] (.call none (.fn 114) [.var 3] [.cell (.slice [.int .i64, .int .i64])] (.call none (.fn 115) [.int .i64 200] [.agg [.int .i64, .int .i64]] (.call none (.fn 115) [.int .i64 7] [.agg [.int .i64, .int .i64]] (.call none (.fn 113) [.var 15, .push (.push (.push .nils (.lcons (.var 16) (.lcons (.var 17) .lnil))) (.lcons (.var 18) (.lcons (.var 19) .lnil))) (.lcons (.var 13) (.lcons (.var 14) .lnil))] [.cell .bool] (.call (some (.o1 .not (.o1 .not (.var 20)))) (.fn 114) [.var 5] [.cell (.slice [.int .i64, .int .i64])] (.call (some (.o1 .not (.o1 .not (.var 20)))) (.fn 115) [.int .i64 9] [.agg [.int .i64, .int .i64]] (.call (some (.o1 .not (.o1 .not (.var 20)))) (.fn 115) [.int .i64 50] [.agg [.int .i64, .int .i64]] (.ite (.o1 .not (.o1 .not (.var 20))) (.call (some (.o1 .not (.bool false))) (.fn 113) [.var 21, .push (.push (.push .nils (.lcons (.var 13) (.lcons (.var 14) .lnil))) (.lcons (.var 22) (.lcons (.var 23) .lnil))) (.lcons (.var 24) (.lcons (.var 25) .lnil))] [.cell .bool] (.ite (.o1 .not (.var 26)) (.ret [.d (.bool false)]) (.call none (.fn 52) [.lcons (.var 0) (.lcons (.var 1) (.lcons (.var 2) .lnil)), .str [51]] [.cell (.slice [.int .i64, .int .i64, .int .i64, .int .i64]), .cell (.int .i64)] (.call none (.fn 50) [.lcons (.var 0) (.lcons (.var 1) (.lcons (.var 2) .lnil)), .str [52], .str [49]] [.cell (.slice [.int .i64, .int .i64, .int .i64, .int .i64]), .cell (.int .i64)] (.call (some (.o2 .eq (.o2 (.add .i64) (.var 28) (.var 30)) (.int .i64 0))) (.fn 114) [.var 27] [.cell (.slice [.int .i64, .int .i64])] (.call (some (.o2 .eq (.o2 (.add .i64) (.var 28) (.var 30)) (.int .i64 0))) (.fn 115) [.int .i64 9] [.agg [.int .i64, .int .i64]] (.ite (.o2 .eq (.o2 (.add .i64) (.var 28) (.var 30)) (.int .i64 0)) (.call none (.fn 113) [.var 31, .push (.push .nils (.lcons (.var 13) (.lcons (.var 14) .lnil))) (.lcons (.var 32) (.lcons (.var 33) .lnil))] [.cell .bool] (.call (some (.var 34)) (.fn 114) [.var 29] [.cell (.slice [.int .i64, .int .i64])] (.call (some (.var 34)) (.fn 115) [.int .i64 100] [.agg [.int .i64, .int .i64]] (.call (some (.var 34)) (.fn 115) [.int .i64 7] [.agg [.int .i64, .int .i64]] (.ite (.var 34) (.call none (.fn 113) [.var 35, .push (.push (.push .nils (.lcons (.var 36) (.lcons (.var 37) .lnil))) (.lcons (.var 38) (.lcons (.var 39) .lnil))) (.lcons (.var 13) (.lcons (.var 14) .lnil))] [.cell .bool] (.ret [.d (.var 40)])) (.call (some (.var 34)) (.fn 113) [.var 35, .nils] [.cell .bool] (.ret [.d (.ite (.var 34) (.var 40) (.bool false))]))))))) (.call (some (.bool false)) (.fn 113) [.var 31, .nils] [.cell .bool] (.call (some (.bool false)) (.fn 114) [.var 29] [.cell (.slice [.int .i64, .int .i64])] (.call (some (.bool false)) (.fn 115) [.int .i64 100] [.agg [.int .i64, .int .i64]] (.call (some (.bool false)) (.fn 115) [.int .i64 7] [.agg [.int .i64, .int .i64]] (.call (some (.bool false)) (.fn 113) [.var 35, .nils] [.cell .bool] (.ret [.d (.bool false)]))))))))))))) (.call (some (.o1 .not (.bool true))) (.fn 113) [.var 21, .nils] [.cell .bool] (.ret [.d (.bool false)]))))))))))))))))
theorem t47_ok : fnO Tryz.prog mdA 47 [] = t47 := by kernel_rfl
theorem c47 : callable Tryz.prog 47 = true := by kernel_rfl
def e10 (v : Val) : Ent := ⟨⟨1, 0⟩, v⟩
def e11 (v : Val) : Ent := ⟨⟨1, 1⟩, v⟩
def e20 (v : Val) : Ent := ⟨⟨2, 0⟩, v⟩
theorem four_l2 : lookR four [50] = ([e10 ⟨0, 200⟩, e11 ⟨0, 7⟩, e20 hval], 0) := by kernel_rfl
theorem four_l4 : lookR four [52] = ([e10 hval, e11 ⟨0, 9⟩, e20 ⟨0, 50⟩], 0) := by kernel_rfl
theorem four_o2 : origR four [50] ⟨1, 1⟩ = ([49], true, 0) := by kernel_rfl
theorem four_o4 : origR four [52] ⟨1, 0⟩ = ([], false, 0) := by kernel_rfl
theorem four_s3 : stepsR four [51] = ([e10 hval, e11 ⟨0, 9⟩], 0) := by kernel_rfl
theorem four_c41 : changesR four [52] [49] = ([e10 ⟨0, 100⟩, e11 ⟨0, 7⟩, e20 hval], 0) := by kernel_rfl
theorem four_Ok : four.Ok := by
 have i : ∀ {v : Int}, -1000 ≤ v ∧ v ≤ 1000 → I64 v := fun h => ⟨by omega, by omega⟩
 have hc : ∀ (n : List UInt8) (b : Bool) (ms : List Mov), (∀ m ∈ ms, m.Ok) → (cue169 n b ms).Ok := fun n b ms h => ⟨h, by simp [cue169, zt, Tim.Ok, I64], by simp [cue169, I64], by simp [cue169, I64]⟩
 refine ⟨by simp [four, I64], by simp [four, I64], fun c hcm => ?_⟩
 simp only [four, List.mem_cons, List.not_mem_nil, or_false] at hcm
 rcases hcm with rfl | rfl | rfl | rfl <;> refine hc _ _ _ fun m hm => ?_ <;> simp only [List.mem_cons, List.not_mem_nil, or_false] at hm
 · rcases hm with rfl | rfl <;> exact mv18_Ok (i (by omega)) (i (by omega)) (i (by omega))
 · rcases hm with rfl; exact mv18_Ok (i (by omega)) (i (by omega)) (i (by omega))
 · rcases hm with rfl; exact mv18_Ok (i (by omega)) (i (by omega)) (i (by omega))
 · rcases hm with rfl; exact mv18_Ok (i (by omega)) (i (by omega)) (i (by omega))
def SmallV (v : Val) : Prop := -1000 ≤ v.pal ∧ v.pal ≤ 1000 ∧ -1000 ≤ v.lev ∧ v.lev ≤ 1000
theorem SmallV.ok {v : Val} (h : SmallV v) : v.Ok := ⟨⟨by have := h.1; omega, by have := h.2.1; omega⟩, ⟨by have := h.2.2.1; omega, by have := h.2.2.2; omega⟩⟩
theorem ents_small {l : List Ent} (h : ∀ e ∈ l, (e.pa = ⟨1, 0⟩ ∨ e.pa = ⟨1, 1⟩ ∨ e.pa = ⟨2, 0⟩) ∧ SmallV e.va) : ∀ e ∈ l, e.Ok := by
 intro e he
 obtain ⟨h1, h2⟩ := h e he
 refine ⟨?_, h2.ok⟩
 rcases h1 with h1 | h1 | h1 <;> rw [h1] <;> exact ⟨⟨by decide, by decide⟩, ⟨by decide, by decide⟩⟩
theorem awake18_ok : Contract Tryz.prog 47 fun args K => args = [] ∧ K [.d (.bool true)] := by
 refine .of c47 t47_ok ?_
 rintro _ K ⟨rfl, hK⟩ hsm
 refine ⟨[], rfl, trivial, ?_⟩
 have i : ∀ {v : Int}, -1000 ≤ v ∧ v ≤ 1000 → I64 v := fun h => ⟨by omega, by omega⟩
 have p11 : Par.Ok ⟨1, 1⟩ := ⟨show I64 1 from i (by omega), show I64 1 from i (by omega)⟩
 have p10 : Par.Ok ⟨1, 0⟩ := ⟨show I64 1 from i (by omega), show I64 0 from i (by omega)⟩
 have s0 : SmallV hval := by simp [SmallV, hval]
 have sv : ∀ {v : Int}, -1000 ≤ v ∧ v ≤ 1000 → SmallV ⟨0, v⟩ := fun h => ⟨by simp, by simp, h.1, h.2⟩
 have k2 : ∀ e ∈ [e10 ⟨0, 200⟩, e11 ⟨0, 7⟩, e20 hval], e.Ok := ents_small fun e he => by
   simp only [List.mem_cons, List.not_mem_nil, or_false] at he
   rcases he with rfl | rfl | rfl
   · exact ⟨.inl rfl, sv (by omega)⟩
   · exact ⟨.inr (.inl rfl), sv (by omega)⟩
   · exact ⟨.inr (.inr rfl), s0⟩
 have k4 : ∀ e ∈ [e10 hval, e11 ⟨0, 9⟩, e20 ⟨0, 50⟩], e.Ok := ents_small fun e he => by
   simp only [List.mem_cons, List.not_mem_nil, or_false] at he
   rcases he with rfl | rfl | rfl
   · exact ⟨.inl rfl, s0⟩
   · exact ⟨.inr (.inl rfl), sv (by omega)⟩
   · exact ⟨.inr (.inr rfl), sv (by omega)⟩
 have k3 : ∀ e ∈ [e10 hval, e11 ⟨0, 9⟩], e.Ok := ents_small fun e he => by
   simp only [List.mem_cons, List.not_mem_nil, or_false] at he
   rcases he with rfl | rfl
   · exact ⟨.inl rfl, s0⟩
   · exact ⟨.inr (.inl rfl), sv (by omega)⟩
 have k1 : ∀ e ∈ [e10 ⟨0, 100⟩, e11 ⟨0, 7⟩, e20 hval], e.Ok := ents_small fun e he => by
   simp only [List.mem_cons, List.not_mem_nil, or_false] at he
   rcases he with rfl | rfl | rfl
   · exact ⟨.inl rfl, sv (by omega)⟩
   · exact ⟨.inr (.inl rfl), sv (by omega)⟩
   · exact ⟨.inr (.inr rfl), s0⟩
 refine denR_call four_ok ⟨rfl, _, rfl, ?_⟩
 refine denR_call lookC_ok ⟨four, [50], four_Ok, rfl, ?_⟩
 rw [four_l2]
 refine ⟨_, rfl, ?_⟩
 refine denR_call lookC_ok ⟨four, [52], four_Ok, rfl, ?_⟩
 rw [four_l4]
 refine ⟨_, rfl, ?_⟩
 refine denR_call torigin_ok ⟨four, [50], ⟨1, 1⟩, four_Ok, p11, rfl, ?_⟩
 rw [four_o2]
 refine ⟨_, rfl, ?_⟩
 refine denR_call torigin_ok ⟨four, [52], ⟨1, 0⟩, four_Ok, p10, rfl, ?_⟩
 rw [four_o4]
 refine ⟨_, rfl, ?_⟩
 refine denR_iteF (by kernel_rfl) ?_
 refine denR_call home15_ok ⟨rfl, _, rfl, ?_⟩
 refine denR_call values_ok ⟨[e10 ⟨0, 200⟩, e11 ⟨0, 7⟩, e20 hval], k2, by simp, rfl, _, rfl, ?_⟩
 refine denR_call at15_ok ⟨200, i (by omega), rfl, _, rfl, ?_⟩
 refine denR_call at15_ok ⟨7, i (by omega), rfl, _, rfl, ?_⟩
 refine denR_call eqVals_ok ⟨[⟨0, 200⟩, ⟨0, 7⟩, hval], fun v hv => by
   simp only [List.mem_cons, List.not_mem_nil, or_false] at hv
   rcases hv with rfl | rfl | rfl
   · exact (sv (by omega)).ok
   · exact (sv (by omega)).ok
   · exact s0.ok, rfl, _, rfl, ?_⟩
 refine denR_gcall values_ok true [.slice ([e10 hval, e11 ⟨0, 9⟩, e20 ⟨0, 50⟩].map fun e => e.va.enc)] (by kernel_rfl) (fun _ => ⟨_, k4, by simp, rfl, rfl⟩) (fun h => by cases h) ?_
 refine denR_gcall at15_ok true (Val.enc ⟨0, 9⟩) (by kernel_rfl) (fun _ => ⟨9, i (by omega), rfl, rfl⟩) (fun h => by cases h) ?_
 refine denR_gcall at15_ok true (Val.enc ⟨0, 50⟩) (by kernel_rfl) (fun _ => ⟨50, i (by omega), rfl, rfl⟩) (fun h => by cases h) ?_
 refine denR_iteT (by kernel_rfl) ?_
 refine denR_gcall eqVals_ok true [.bool true] (by kernel_rfl) (fun _ => ⟨[hval, ⟨0, 9⟩, ⟨0, 50⟩], fun v hv => by
   simp only [List.mem_cons, List.not_mem_nil, or_false] at hv
   rcases hv with rfl | rfl | rfl
   · exact s0.ok
   · exact (sv (by omega)).ok
   · exact (sv (by omega)).ok, rfl, rfl⟩) (fun h => by cases h) ?_
 refine denR_iteF (by kernel_rfl) ?_
 refine denR_call stepsC_ok ⟨four, [51], four_Ok, rfl, ?_⟩
 rw [four_s3]
 refine ⟨_, rfl, ?_⟩
 refine denR_call changesC_ok ⟨four, [52], [49], four_Ok, rfl, ?_⟩
 rw [four_c41]
 refine ⟨_, rfl, ?_⟩
 refine denR_gcall values_ok true [.slice ([e10 hval, e11 ⟨0, 9⟩].map fun e => e.va.enc)] (by kernel_rfl) (fun _ => ⟨_, k3, by simp, rfl, rfl⟩) (fun h => by cases h) ?_
 refine denR_gcall at15_ok true (Val.enc ⟨0, 9⟩) (by kernel_rfl) (fun _ => ⟨9, i (by omega), rfl, rfl⟩) (fun h => by cases h) ?_
 refine denR_iteT (by kernel_rfl) ?_
 refine denR_call eqVals_ok ⟨[hval, ⟨0, 9⟩], fun v hv => by
   simp only [List.mem_cons, List.not_mem_nil, or_false] at hv
   rcases hv with rfl | rfl
   · exact s0.ok
   · exact (sv (by omega)).ok, rfl, _, rfl, ?_⟩
 refine denR_gcall values_ok true [.slice ([e10 ⟨0, 100⟩, e11 ⟨0, 7⟩, e20 hval].map fun e => e.va.enc)] (by kernel_rfl) (fun _ => ⟨_, k1, by simp, rfl, rfl⟩) (fun h => by cases h) ?_
 refine denR_gcall at15_ok true (Val.enc ⟨0, 100⟩) (by kernel_rfl) (fun _ => ⟨100, i (by omega), rfl, rfl⟩) (fun h => by cases h) ?_
 refine denR_gcall at15_ok true (Val.enc ⟨0, 7⟩) (by kernel_rfl) (fun _ => ⟨7, i (by omega), rfl, rfl⟩) (fun h => by cases h) ?_
 refine denR_iteT (by kernel_rfl) ?_
 refine denR_call eqVals_ok ⟨[⟨0, 100⟩, ⟨0, 7⟩, hval], fun v hv => by
   simp only [List.mem_cons, List.not_mem_nil, or_false] at hv
   rcases hv with rfl | rfl | rfl
   · exact (sv (by omega)).ok
   · exact (sv (by omega)).ok
   · exact s0.ok, rfl, _, rfl, ?_⟩
 exact hK
end Go.Sx.La
