/-
 Part 6 of the proof: the executor over the kit's code with its soundness, or contracts of functions.
-/
import Derived.Test.YtihpfldadiiinaaGreatDoorGAe
import Derived.Test.YtihpfldadiiinaaGreatDoorProg
import Derived.Shelf.Strings.FuncGrows
import Derived.Shelf.SlSortCmp.WholeK
import Derived.Test.YtihpfldadiiinaaGreatDoorShelf
import Derived.Laws.RangeAny
set_option linter.unusedSimpArgs false
set_option linter.unusedVariables false
set_option linter.unusedSectionVars false
set_option linter.defProp false
set_option maxRecDepth 100000
namespace Go.Sx.La
open Go Go.Sx
end Go.Sx.La
namespace Go.Sx.La
open Go Go.Sx Go.Proofs
abbrev mvKs:List K:=[.int .i64,.int .i64,.int .i64,.int .i64,.int .i64]
abbrev tmKs:List K:=[.int .i64,.int .i64,.int .i64,.int .i64,.int .i64,.int .i64]
abbrev J9:List K:=[.str,.str,.slice mvKs,.slice tmKs,.bool,.bool,.int .i64,.str,.int .i64]
abbrev paKs:List K:=[.int .i64,.int .i64]
abbrev liKs:List K:=[.int .i64,.int .i64,.slice J9]
abbrev chKs:List K:=[.int .u64,.int .u64,.int .u64,.int .u64,.int .u64,.int .u64,.int .u64,.int .u64,.int .u64,.int .u64,.int .u64,.int .u64,.int .u64,.int .u64,.int .u64,.int .u64]
def mdA:Go.Sx.Mode:= {own:=[137,177,88,94,126,136,230,192,191,172,140],x:=[(172,[.own paKs,.cell (.int .i64)],false),(140,[.own [.int .i64,.int .i64,.int .i64,.int .i64],.cell (.int .i64)],false),(194,[.own J9,.cell .fn],true),(199,[.own paKs,.cell .fn],true),(127,[.agg liKs,.own J9],false),(136,[.own J9,.cell (.int .i64),.cell (.int .i64)],false),(230,[.own mvKs,.cell .fn],false),(192,[.own J9,.cell .fn],false),(125,[.box J9],true),(191,[.own mvKs,.cell (.int .i64),.own mvKs],false),(229,[.box chKs,.cell (.int .i64)],true)]}
def mdJ:Go.Sx.Mode:= {mdA with jn:=true}
theorem Z8w {P:Program} {F:Option Nat→List RV→Prop}:∀(r:R) {a a':Ags} {ρ:List D},(∀n c ys,a.inv n c ys→a'.inv n c ys)→(a.exp=a'.exp∧a.lim=a'.lim)→a.cnt=a'.cnt→denR P F noK r a ρ→denR P F noK r a' ρ:=by
 intro r;induction r with
 |fail=>intro a a' ρ _ _ _ h;exact h
 |need t r ih=>intro a a' ρ h1 h2 h3 h;exact⟨h.1,ih h1 h2 h3 h.2⟩
 |fact t r ih=>intro a a' ρ h1 h2 h3 h ht;exact ih h1 h2 h3 (h ht)
 |ite t x y ihx ihy=>intro a a' ρ h1 h2 h3 h;exact⟨fun ht=>ihx h1 h2 h3 (h.1 ht),fun ht=>ihy h1 h2 h3 (h.2 ht)⟩
 |lets ts r ih=>intro a a' ρ h1 h2 h3 h;exact ih h1 h2 h3 h
 | call g f args res r ih=>
   intro a a' ρ h1 h2 h3 h;cases g with
   |none=>exact YW h fun rs hr=>ih h1 h2 h3 hr
   |some c=>obtain⟨J,g1,g2,g3⟩:=h;exact⟨J,g1,g2,fun rs hk hj=>ih h1 h2 h3 (g3 rs hk hj)⟩
 | loop l i ks b ih=>
   intro a a' ρ h1 h2 h3 h;obtain⟨Inv,μ,g1,g2⟩:=h;refine⟨Inv,μ,by rw [←h3];exact g1,fun c xs hk hi=>ih (a:=Jh (a.wc c) l fun c' ys=>Inv c' ys∧μ c' ys < μ c xs) ?_ ?_ rfl (g2 c xs hk hi)⟩
   · intro n c' ys;simp only [Jh,Ags.wc];split
     · exact id
     · exact h1 n c' ys
   · exact h2
 |again l ts=>intro a a' ρ h1 h2 h3 h;simp only [denR]at h ⊢;rw [←h3];exact h1 _ _ _ h
 |leaf e xs=>intro a a' ρ h1 h2 h3 h;exact h.elim
 |ret rs=>intro a a' ρ h1 h2 h3 h;simp only [denR]at h ⊢;rw [←h3];exact h
 | callX u f args res r ih=>
   intro a a' ρ h1 h2 h3 h;obtain⟨pk,s,g1,g2,g3,g4⟩:=h;exact⟨pk,s.up,g1.up,g2,g3,_,g4,fun rvs ⟨rs,q1,q2⟩=>⟨rs,q1,ih h1 h2 h3 q2⟩⟩
 | yield args r ih=>
   intro a a' ρ h1 h2 h3 h;obtain⟨c,g1,g2,g3⟩:=h;exact⟨c,by rw [←h3];exact g1,by rw [←h2.1];exact g2,fun b hb=>ih (a:=a.wc (if b=true then some (c+1)else none)) (a':=a'.wc (if b=true then some (c+1)else none)) h1 h2 rfl (g3 b fun hbt=>by rw [h2.2];exact hb hbt)⟩
 |guess t r ih=>intro a a' ρ h1 h2 h3 h b hb;exact ih h1 h2 h3 (h b hb)
 |mix f sz sh r ih=>intro a a' ρ h1 h2 h3 h;exact⟨h.1,ih h1 h2 h3 h.2⟩
 | join l ks b c ihb ihc=>
   intro a a' ρ h1 h2 h3 h;obtain⟨Inv,g1,g2⟩:=h;refine⟨Inv,ihb (a:=Jh a l Inv) (a':=Jh a' l Inv) ?_ h2 h3 g1,fun c xs a1 a2=>ihc (a:=a.wc c) (a':=a'.wc c) h1 h2 rfl (g2 c xs a1 a2)⟩;intro n c' ys';simp only [Jh];split
   · exact id
   · exact h1 n c' ys'
 | iter l t i ks pk b d ihb ihd=>
   intro a a' ρ h1 h2 h3 h;obtain⟨xs,Inv,g1,g2,g3,g4,g5⟩:=h;refine⟨xs,Inv,g1,g2,by rw [←h3];exact g3,fun i x fx c ys a1 a2 a3 a4 a5=>ihb (a:=Jh (a.wc c) l fun c' zs=>Inv (i+1) c' zs) (a':=Jh (a'.wc c) l fun c' zs=>Inv (i+1) c' zs) ?_ h2 rfl (g4 i x fx c ys a1 a2 a3 a4 a5),fun c ys a1 a2=>ihd (a:=a.wc c) (a':=a'.wc c) h1 h2 rfl (g5 c ys a1 a2)⟩;intro n c' ys';simp only [Jh,Ags.wc];split
   · exact id
   · exact h1 n c' ys'
theorem JP {P:Program} {F:Option Nat→List RV→Prop} {l:Nat} {inits:List T} {ks:List K} {body:R} {ags:Ags} {ρ:List D}:denR P F noK (.loop l inits ks body) ags ρ=
   (∃(Inv:Option Nat→List D→Prop) (μ:Option Nat→List D→Nat),Inv ags.cnt (inits.map (den ρ))∧∀c xs,HasKs ks xs→Inv c xs→denR P F noK body (Jh (ags.wc c) l fun c' ys=>Inv c' ys∧μ c' ys < μ c xs) (ρ++xs)):=rfl
section
variable {P:Program} {F:Option Nat→List RV→Prop}
theorem D.cond_bool (b:Bool) (x y:D):D.cond (.bool b) x y=if b then x else y:=by cases b <;> rfl
theorem Z8V (ags:Ags) (l:Nat) (p:Option Nat→List D→Prop):(Jh ags l p).inv l=p:=by simp [Jh]
theorem ZbT (ags:Ags) {l l':Nat} (p:Option Nat→List D→Prop) (h:l'≠l):(Jh ags l p).inv l'=ags.inv l':=by simp [Jh,h]
theorem Za6 (ags:Ags) (l:Nat) (p:Option Nat→List D→Prop):(Jh ags l p).cnt=ags.cnt:=rfl
theorem Z7a (ags:Ags):ags.wc ags.cnt=ags:=rfl
theorem wrap_i64 {n:Int} (h: -9223372036854775808≤n∧n≤9223372036854775807):IntKind.i64.wrap n=n:=
 Z0B .i64 n (by simp [IntKind.min,IntKind.signed,IntKind.bits];omega) (by simp [IntKind.max,IntKind.signed,IntKind.bits];omega)
theorem Zde {n:Int} (h:0≤n∧n≤255):IntKind.u8.wrap n=n:=
 Z0B .u8 n (by simp [IntKind.min,IntKind.signed];omega) (by simp [IntKind.max,IntKind.signed,IntKind.bits];omega)
@[irreducible] def wr64 (n:Int):Int:=IntKind.i64.wrap n
@[irreducible] def wr8 (n:Int):Int:=IntKind.u8.wrap n
theorem ZcS (n:Int):IntKind.i64.wrap n=wr64 n:=by unfold wr64;rfl
theorem ZfJ (n:Int):IntKind.u8.wrap n=wr8 n:=by unfold wr8;rfl
theorem Z1 {n:Int} (h: -9223372036854775808≤n∧n≤9223372036854775807):wr64 n=n:=by rw [←ZcS];exact wrap_i64 h
theorem ZfK {n:Int} (h:0≤n∧n≤255):wr8 n=n:=by rw [←ZfJ];exact Zde h
@[irreducible] def byt (c:UInt8):Nat:=c.toNat
theorem Yi (c:UInt8):c.toNat=byt c:=by unfold byt;rfl
@[irreducible] def at8 (s:List UInt8) (i:Nat):Nat:=byt (s.getD i 0)
theorem Zhg (s:List UInt8) (i:Nat):(s.getD i 0).toNat=at8 s i:=by unfold at8 byt;rfl
theorem WR {s:List UInt8} {i:Nat} (h:i < s.length):at8 s i=byt s[i]:=by unfold at8;simp [List.getD_eq_getElem?_getD,h]
theorem Zfn (a b:Int):(a==b)=decide (a=b):=by rw [Bool.eq_iff_iff];simp
theorem Zfe (a b:Nat):(a==b)=decide (a=b):=by rw [Bool.eq_iff_iff];simp
theorem Zcn (p:Prop) [Decidable p] (x y:Bool):(if p then D.bool x else D.bool y)=D.bool (if p then x else y):=by split <;> rfl
theorem Zfl (p:Prop) [Decidable p] (k:IntKind) (x y:Int):(if p then D.int k x else D.int k y)=D.int k (if p then x else y):=by split <;> rfl
theorem Zfk (p:Prop) [Decidable p] (x y:List UInt8):(if p then D.str x else D.str y)=D.str (if p then x else y):=by split <;> rfl
theorem Zb9 (w:String) (ags:Ags) (ρ:List D):denR P F noK (.fail w) ags ρ=False:=rfl
theorem Zb7 (t:T) (r:R) (ags:Ags) (ρ:List D):denR P F noK (.need t r) ags ρ=(den ρ t=.bool true∧denR P F noK r ags ρ):=rfl
theorem Zba (t:T) (r:R) (ags:Ags) (ρ:List D):denR P F noK (.fact t r) ags ρ=(den ρ t=.bool true→denR P F noK r ags ρ):=rfl
theorem ZcH (t:T) (a b:R) (ags:Ags) (ρ:List D):denR P F noK (.ite t a b) ags ρ=((den ρ t=.bool true→denR P F noK a ags ρ)∧(den ρ t=.bool false→denR P F noK b ags ρ)):=rfl
theorem Zb8 (ts:List T) (r:R) (ags:Ags) (ρ:List D):denR P F noK (.lets ts r) ags ρ=denR P F noK r ags (ρ++ts.map (den ρ)):=rfl
theorem Z9s (l:Nat) (ts:List T) (ags:Ags) (ρ:List D):denR P F noK (.again l ts) ags ρ=ags.inv l ags.cnt (ts.map (den ρ)):=rfl
theorem ZcG (rs:List RT) (ags:Ags) (ρ:List D):denR P F noK (.ret rs) ags ρ=F ags.cnt (rs.map (RT.den ρ)):=rfl
theorem Z0 {f:FuncId} {s:Spec} {args:List T} {res:List RK} {r:R} {ags:Ags} {ρ:List D} (hc:Contract P f s) (h:s (args.map (den ρ)) fun rvs=>∃rs,RV.all res rvs=some rs∧denR P F noK r ags (ρ++rs)):
   denR P F noK (.call none (.fn f) args res r) ags ρ:=⟨s,hc,h⟩
theorem Z5 {f:FuncId} {s:Spec} {args:List T} {res:List RK} {r:R} {ags:Ags} {ρ:List D} {c:T} (hc:Contract P f s) (b:Bool) (v:List D) (hb:den ρ c=.bool b) (h1:b=true→s (args.map (den ρ)) fun rvs=>RV.all res rvs=some v) (h2:b=false→Go.Sx.K.zeros (RK.all res)=v)
   (h3:denR P F noK r ags (ρ++v)):denR P F noK (.call (some c) (.fn f) args res r) ags ρ:=
 ⟨fun rs=>rs=v,fun h=>⟨s.up,hc.up,_,h1 (by rw [hb]at h;exact D.bool.inj h),fun rvs h=>⟨v,h,rfl⟩⟩,fun h=>h2 (by rw [hb]at h;exact D.bool.inj h),fun rs _ h=>by rw [h];exact h3⟩
theorem Jb {X A B:Type} {l:Nat} {inits:List T} {ks:List Go.Sx.K} {body:R} {ags:Ags} {ρ:List D} (xs:List X) (go:Nat→List X→A→B) (enc:Nat→A→List D) (a0:A) (R0:B) (hR:go 0 xs a0=R0) (p:Nat)
   (hp:∀i a,(enc i a)[p]? =some (.int .i64 (i:Nat))) (h0:inits.map (den ρ)=enc 0 a0)
   (round:∀i (hi:i < xs.length) a,go i (xs[i]::xs.drop (i+1)) a=R0→
     denR P F noK body (Jh ags l fun c ys=>c=ags.cnt∧∃a',ys=enc (i+1) a'∧go (i+1) (xs.drop (i+1)) a'=R0) (ρ++enc i a))
   (fin:∀a,go xs.length [] a=R0→denR P F noK body (Jh ags l fun c ys=>False) (ρ++enc xs.length a)):denR P F noK (.loop l inits ks body) ags ρ:=by
 simp only [denR];refine⟨fun c ys=>c=ags.cnt∧∃i a,i≤xs.length∧ys=enc i a∧go i (xs.drop i) a=R0,fun _ ys=>match ys[p]? with|some (.int _ i)=>xs.length - i.toNat|_=>0,⟨rfl,0,a0,Nat.zero_le _,h0,by simpa using hR⟩,?_⟩;rintro _ _ _ ⟨rfl,i,a,hi,rfl,hgo⟩;rw [Z7a];have mono:∀ {q q':Option Nat→List D→Prop},(∀c ys,q c ys→q' c ys)→denR P F noK body (Jh ags l q) (ρ++enc i a)→denR P F noK body (Jh ags l q') (ρ++enc i a):=fun {q q'} h hd=>Z8w _ (a:=Jh ags l q) (a':=Jh ags l q') (fun n c ys=>by
   simp only [Jh];split
   · exact h c ys
   · exact id) ⟨rfl,rfl⟩ rfl hd
 rcases Nat.lt_or_ge i xs.length with hlt|hge
 · rw [List.drop_eq_getElem_cons hlt]at hgo;refine mono ?_ (round i hlt a hgo);rintro c ys ⟨rfl,a',rfl,h'⟩;refine⟨⟨rfl,i+1,a',hlt,rfl,h'⟩,?_⟩;simp only [hp];omega
 · have:i=xs.length:=by omega
   subst this;rw [List.drop_length]at hgo;exact mono (fun _ _ h=>h.elim) (fin a hgo)
end
theorem ZcQ:Ags.none=⟨fun _ _ _=>False,[],Option.none,fun _=>True⟩:=rfl
abbrev Va := T.var
abbrev Vl := T.lcons
abbrev Vn := T.int .i64
def zz:=And.intro Va.eq_1 (And.intro Vl.eq_1 (And.intro Vn.eq_1 (And.intro @RT.den.eq_1 (And.intro @RT.den.eq_2 (And.intro @RT.den.eq_3 (And.intro @den.eq_1 (And.intro @den.eq_2 (And.intro @den.eq_3 (And.intro @den.eq_4 (And.intro @den.eq_5 (And.intro @den.eq_6 (And.intro @den.eq_7 (And.intro @den.eq_8 (And.intro @den.eq_9 (And.intro @den.eq_10 (And.intro @den.eq_11 (And.intro @den.eq_12 (And.intro @den.eq_13 (And.intro @den.eq_14 (And.intro @den.eq_15 (And.intro @den.eq_16 (And.intro @den.eq_17 (And.intro @den.eq_18 (And.intro @den.eq_19 (And.intro @den.eq_20 (And.intro @den.eq_21 (And.intro @O1.eval.eq_1 (And.intro @O1.eval.eq_2 (And.intro @O1.eval.eq_3 (And.intro @O1.eval.eq_4 (And.intro @O1.eval.eq_5 (And.intro @O1.eval.eq_6 (And.intro @O1.eval.eq_7 (And.intro @O1.eval.eq_8 (And.intro @O1.eval.eq_9 (And.intro @O1.eval.eq_10 (And.intro @O1.eval.eq_11 (And.intro @O1.eval.eq_12 (And.intro @O1.eval.eq_13 (And.intro @O1.eval.eq_14 (And.intro @O1.eval.eq_15 (And.intro @O1.eval.eq_16 (And.intro @O1.eval.eq_17 (And.intro @O2.eval.eq_1 (And.intro @O2.eval.eq_2 (And.intro @O2.eval.eq_3 (And.intro @O2.eval.eq_4 (And.intro @O2.eval.eq_5 (And.intro @O2.eval.eq_6 (And.intro @O2.eval.eq_7 (And.intro @O2.eval.eq_8 (And.intro @O2.eval.eq_9 (And.intro @O2.eval.eq_10 (And.intro @O2.eval.eq_11 (And.intro @O2.eval.eq_12 (And.intro @O2.eval.eq_13 (And.intro @O2.eval.eq_14 (And.intro @O2.eval.eq_15 (And.intro @O2.eval.eq_16 (And.intro @O2.eval.eq_17 (And.intro @O2.eval.eq_18 (And.intro @O2.eval.eq_19 (And.intro @O2.eval.eq_20 (And.intro @O2.eval.eq_21 (And.intro @O2.eval.eq_22 (And.intro @O2.eval.eq_23 (And.intro @O2.eval.eq_24 (And.intro @O2.eval.eq_25 (And.intro @O2.eval.eq_26 (And.intro @O2.eval.eq_27 (And.intro @O2.eval.eq_28 (And.intro @O2.eval.eq_29 (And.intro @O2.eval.eq_30 (And.intro @O2.eval.eq_31 (And.intro @O2.eval.eq_32 (And.intro @O2.eval.eq_33 (And.intro @O2.eval.eq_34 (And.intro @O2.eval.eq_35 (And.intro @O2.eval.eq_36 (And.intro @O2.eval.eq_37 (And.intro @O2.eval.eq_38 (And.intro @O2.eval.eq_39 (And.intro @O2.eval.eq_40 (And.intro @O2.eval.eq_41 (And.intro @O2.eval.eq_42 (And.intro @O2.eval.eq_43 (And.intro @O2.eval.eq_44 (And.intro @O2.eval.eq_45 (And.intro @O2.eval.eq_46 (And.intro @O2.eval.eq_47 (And.intro @O2.eval.eq_48 (And.intro @O2.eval.eq_49 (And.intro @D.eqb.eq_1 (And.intro @D.eqb.eq_2 (And.intro @D.eqb.eq_3 (And.intro @D.eqb.eq_4 (And.intro @D.sub.eq_1 (And.intro @D.sub.eq_2 (And.intro @D.sub.eq_3 (And.intro @D.cell.eq_1 (And.intro @D.elem.eq_1 (And.intro @D.elem.eq_2 (And.intro @D.cells.eq_1 (And.intro @D.cells.eq_2 (And.intro @D.padd.eq_1 (And.intro @D.padd.eq_2 (And.intro @D.list.eq_1 (And.intro @D.list.eq_2 (And.intro @D.push.eq_1 (And.intro @D.push.eq_2 (And.intro (@if_true.{1}) (And.intro (@if_true.{0}) (And.intro (@if_false.{1}) (And.intro (@if_false.{0}) (And.intro (@forall_const.{1}) (And.intro (@forall_const.{0}) (And.intro (ZcQ) (And.intro (@Zb9) (And.intro (@Zb7) (And.intro (@Zba) (And.intro (@ZcH) (And.intro (@Zb8) (And.intro (@Z9s) (And.intro (@ZcG) (And.intro (@List.map_cons.{0,0}) (And.intro (@List.map_nil.{0,0}) (And.intro (@List.cons_append.{0}) (And.intro (@List.nil_append.{0}) (And.intro (@List.append_nil.{0}) (And.intro (@D.cond_bool) (And.intro (@Z8V) (And.intro (@Za6) (And.intro (@Z7a) (And.intro (@List.getD_cons_zero.{0}) (And.intro (@List.getD_cons_succ.{0}) (And.intro (@List.getD_nil.{0}) (And.intro (@decide_eq_true_eq) (And.intro (@decide_eq_false_iff_not) (And.intro (@D.bool.injEq) (And.intro (@D.int.injEq) (And.intro (@D.str.injEq) (And.intro (@D.slice.injEq) (And.intro (@List.cons.injEq.{0}) (And.intro (@and_true) (And.intro (@true_and) (And.intro (@Bool.true_eq_false) (And.intro (@Bool.false_eq_true) (And.intro (@false_implies) (And.intro (@imp_self) (And.intro (@Zcn) (And.intro (@Zfl) (And.intro (@Zfk) (And.intro (@Int.toNat_natCast) (And.intro (@Bool.if_true_left) (And.intro (@Bool.if_false_right) (And.intro (@Bool.or_eq_true) (And.intro (@Bool.and_eq_true) (And.intro (@Bool.not_eq_true') (And.intro (@Bool.or_eq_false_iff) (And.intro (@Bool.and_eq_false_iff) (And.intro (@Bool.not_eq_false') (And.intro (@Int.ofNat_lt) (And.intro (@Int.ofNat_le) (And.intro (@gt_iff_lt.{0}) (And.intro (@ge_iff_le.{0}) (And.intro (@Int.natCast_pos) (And.intro (@Nat.lt_irrefl) (And.intro (@not_false_eq_true) (And.intro (@not_true_eq_false) (And.intro (@Bool.not_true) (And.intro (@Bool.not_false) (And.intro (@List.drop_succ_cons.{0}) (And.intro (@Int.toNat_zero) (And.intro (@List.drop_zero.{0}) (And.intro (@List.take_length.{0}) (And.intro (@ZcS) (And.intro (@ZfJ) (And.intro (@Zhg) (And.intro (@Zfn) (And.intro (@Zfe) (@ne_eq.{1})))))))))))))))))))))))))))))))))))))))))))))))))))))))))))))))))))))))))))))))))))))))))))))))))))))))))))))))))))))))))))))))))))))))))))))))))))))))))))))))))))))))))))))))))))))
end Go.Sx.La
set_option maxRecDepth 1000000
set_option maxHeartbeats 2000000
namespace Go.Proofs
open Go Go.Sx Go.RowKit Go.Lib
theorem Z9A (B:Nat) (w:World):BelowD B w w:=⟨Below.refl _ _,Nat.le_refl _⟩
theorem Z3W {B:Nat} {a b c:World} (h:BelowD B a b) (k:BelowD B b c):BelowD B a c:=⟨h.toBelow.trans k.toBelow,Nat.le_trans h.drawn k.drawn⟩
theorem Z55 {A B:Nat} {a b:World} (h:BelowD B a b) (hA:A≤B):BelowD A a b:=⟨h.toBelow.mono hA,h.drawn⟩
theorem Z46 (g:Nat) (lb:Array Value) (eg:∀args w,(callFunc g args).run Tryz.prog w=.ok (.enter g args) w) (p:Nat→Bool) (s:ByteArray) (w:World)
   (hp:∀(W:World) (x:Nat),x≤1114111→BelowD w.heap.size w W→Calls Tryz.prog g (#[.int .i32 x]++lb) W fun e w'=>e=.returned (.bool (p x))∧BelowD W.heap.size W w'):
   Calls Tryz.prog 236 #[.string s,.func (.func g) #[] lb,.bool true] w fun e w'=>e=.returned (.int .i64 (Lib.idxFunc p true s))∧BelowD w.heap.size w w':=by
 go_enter Tryz.func236,Tryz.ntmps236
 go_wp2
 go_loopg [] s.size (fun left wx=>∃pos:Nat,wx.heap[w.heap.size]? =some (.stringIter s pos)∧BelowD w.heap.size w wx∧Lib.idxFuncFrom p true s left pos=Lib.idxFunc p true s∧s.size≤pos+left)
 case atStart=>exact⟨0,World.iter_heap w s 0,⟨(Below.refl _ w).alloc (Nat.le_refl _) _,Nat.le_refl _⟩,rfl,by omega⟩
 case round=>
   obtain⟨pos,hit,hbw,hleft,hfu⟩:=hrel;rcases Nat.lt_or_ge pos s.size with hps|hps
   · obtain⟨left,rfl⟩:∃left,gk=left+1:=⟨gk - 1,by omega⟩
     have step:∀ty,(Instr.next (.pointer (some ⟨w.heap.size,0,none⟩)) true ty).run Tryz.prog wr=_:=fun ty=>Lib.run_next_any_at wr w.heap.size s pos ty hit hps
     have wide:=Lib.width_pos s pos;have small:=Lib.rune_le s pos;simp only [Lib.idxFuncFrom,hps,if_true]at hleft;generalize (Utf8.decode s pos).1=rune at *;generalize (Utf8.decode s pos).2=width at *;have hit2:=Lib.iterAt_heap wr w.heap.size s pos (pos+width) hit;have hbw2:BelowD w.heap.size w (wr.iterAt w.heap.size s (pos+width)):=⟨Lib.below_iterAt hbw.toBelow (k:=w.heap.size) (Nat.le_refl _) s (pos+width),hbw.drawn⟩
     generalize wr.iterAt w.heap.size s (pos+width)=W at *;have inW:w.heap.size < W.heap.size:=(Array.getElem?_eq_some_iff.1 hit2).1;have ask:=hp W rune small hbw2;cases hsays:p rune with
     | false=>
       rw [hsays]at ask;simp only [hsays,Bool.false_eq_true,if_false]at hleft
       go_wp2_with (go_at_fn g;refine ask.mono ?_;rintro e W' ⟨rfl,later⟩)
       go_roundg left
       case measure=>omega
       case rel=>exact⟨pos+width,(later.block _ inW).trans hit2,Z3W hbw2 (Z55 later hbw2.size),hleft,by omega⟩
     | true=>
       rw [hsays]at ask;simp only [hsays,if_true]at hleft
       go_wp2_with (go_at_fn g;refine ask.mono ?_;rintro e W' ⟨rfl,later⟩)
       go_ret
       exact⟨by rw [←hleft] <;> rfl,Z3W hbw2 (Z55 later hbw2.size)⟩
   · have over:∀ty,(Instr.next (.pointer (some ⟨w.heap.size,0,none⟩)) true ty).run Tryz.prog wr=_:=fun ty=>Lib.run_next_end_at wr w.heap.size s pos ty hit (by omega)
     rw [Lib.idxFuncFrom_end p true s gk pos (by omega)]at hleft
     go_wp2
     go_ret
     exact⟨by rw [←hleft] <;> rfl,hbw⟩
end Go.Proofs
namespace Go.Sx.La
open Go Go.Sx Go.RowKit Go.Proofs
theorem Z0h {P:Program} {f:FuncId} (h:J2 P f=true):∀args w,(callFunc f args).run P w=.ok (.enter f args) w:=by
 intro args w;unfold J2 at h;split at h <;> try contradiction
 rename_i fn hfn;simp only [Bool.and_eq_true,Bool.not_eq_true',Option.isSome_iff_exists]at h;obtain⟨⟨body,hb⟩,hname⟩:=h;have h1:fn.name≠ "runtime.NumGoroutine" :=by simpa using hname
 simp [callFunc,hfn,h1,hb]
theorem Z0K {m:Mem} {w W:World} (h:MemOk m w) (hb:BelowD w.heap.size w W):MemOk m W:=fun b o hm=>by
 rw [hb.block b (h.lt hm)];exact h b o hm
theorem Z8u {P:Program} {g:FuncId} {caps:List D} {sf:Spec} (hf:FvC P (.clo g caps) sf) {w:World} {m:Mem} (hm:MemOk m w) {lb:Array Value} (hsz:lb.size=caps.length) (hlb:∀(i:Nat) d v,caps[i]? =some d→lb[i]? =some v→RepD m d v)
   {as_:List D} {vs:Array Value} (hvs:vs.size=as_.length) (hrep:∀(i:Nat) d v,as_[i]? =some d→vs[i]? =some v→RepD m d v) {x:D} (hx:sf as_ fun rs=>rs=[.d x]):
   Calls P g (vs++lb) w fun e w'=>∃v m',e=.returned v∧RepD m' x v∧BelowD w.heap.size w w':=by
 obtain⟨hcl,s',hs',hcon⟩:=hf;obtain⟨g1,g2⟩:=hcon _ _ hx;refine(hs'.2 _ _ g1 g2 w m (vs++lb) hm (by simp [hvs,hsz]) ?_).mono ?_
 · intro i d v hd hv;rw [List.getElem?_append]at hd;rw [Array.getElem?_append]at hv;rw [hvs]at hv;split at hd
   · rename_i h;rw [if_pos h]at hv;exact hrep i d v hd hv
   · rename_i h;rw [if_neg h]at hv;exact hlb _ d v hd hv
 · rintro e w' ⟨rs,v,m',rfl,_,rfl,⟨us,rfl,hr⟩,_,_,_,hb⟩;have hl:us.length=1:=hr.len
   match us,hl with
   | [u],_=>
     have:=hr.rep 0 _ _ rfl rfl;cases this with
     |d h=>exact⟨_,m',rfl,by simpa [Z2A]using h,hb⟩
theorem RepD.clo_inv {m:Mem} {f:FuncId} {caps:List D} {v:Value} (h:RepD m (.clo f caps) v):∃arr,v=.func (.func f) #[] arr∧arr.size=caps.length∧∀(i:Nat) d u,caps[i]? =some d→arr[i]? =some u→RepD m d u:=by
 cases h with
 |clo _ _ arr hsz hv=>exact⟨arr,rfl,hsz,hv⟩
theorem Contract.plain {P:Program} {f:FuncId} {s:Spec} (hcl:J2 P f=true)
   (h:∀args K,s args K→Zr P f args→∀(w:World) (m:Mem) (vs:Array Value),MemOk m w→vs.size=args.length→(∀(i:Nat) d v,args[i]? =some d→vs[i]? =some v→RepD m d v)→
     ∃out:List D,K (out.map .d)∧JW P f [] (out.map .d)∧Calls P f vs w fun e w'=>∃us,e=.returned (Z2A us)∧us.length=out.length∧(∀(i:Nat) d u,out[i]? =some d→us[i]? =some u→RepD m d u)∧BelowD w.heap.size w w'):Contract P f s:=by
 refine⟨hcl,fun args K hs ht w m vs hm hsz hv=>?_⟩;obtain⟨out,hK,hty,hc⟩:=h args K hs ht w m vs hm hsz hv;refine hc.mono ?_;rintro e w' ⟨us,rfl,hl,hr,hb⟩;refine⟨_,_,m,hK,hty,rfl,⟨us,rfl,by simp [hl],?_,?_⟩,Mem.le_refl m,Z0K hm hb,fun _ _=>rfl,hb⟩
 · intro i r u h1 h2;simp only [List.getElem?_map,Option.map_eq_some_iff]at h1;obtain⟨d,h1,rfl⟩:=h1;exact .d (hr i d u h1 h2)
 · intro i j r r' u u' b _ h1 _ _ _ ho;simp only [List.getElem?_map,Option.map_eq_some_iff]at h1;obtain⟨d,h1,rfl⟩:=h1;cases ho
theorem WT {P:Program} {f:FuncId} {rk:List RK} {rs:List RV} (hk:Z8 P false (Zs P f)=some rk) {ds:List D} (h1:RV.all rk rs=some ds) (h2:HasKs (RK.all rk) ds):JW P f [] rs:=by
 intro rk' h;rw [hk]at h;cases h;exact⟨ds,by simpa using h1,by simpa using h2⟩
theorem arr2 {vs:Array Value} {a b:D} {m:Mem} (hsz:vs.size=[a,b].length) (h:∀(i:Nat) d v,[a,b][i]? =some d→vs[i]? =some v→RepD m d v):∃x y,vs= #[x,y]∧RepD m a x∧RepD m b y:=by
 match vs,hsz with
 |⟨[x,y]⟩,_=>exact⟨x,y,rfl,h 0 _ _ rfl rfl,h 1 _ _ rfl rfl⟩
theorem arr3 {vs:Array Value} {a b c:D} {m:Mem} (hsz:vs.size=[a,b,c].length) (h:∀(i:Nat) d v,[a,b,c][i]? =some d→vs[i]? =some v→RepD m d v):∃x y z,vs= #[x,y,z]∧RepD m a x∧RepD m b y∧RepD m c z:=by
 match vs,hsz with
 |⟨[x,y,z]⟩,_=>exact⟨x,y,z,rfl,h 0 _ _ rfl rfl,h 1 _ _ rfl rfl,h 2 _ _ rfl rfl⟩
def Says (P:Program) (fv:D) (p:Nat→Bool):Prop:=∃sf,FvC P fv sf∧∀x:Nat,x≤1114111→sf [.int .i32 x] fun rs=>rs=[.d (.bool (p x))]
theorem Z6P:Contract Tryz.prog 236 fun args K=>∃s g caps p,args=[.str s,.clo g caps,.bool true]∧Says Tryz.prog (.clo g caps) p∧K [.d (.int .i64 (Lib.idxFunc p true ⟨s.toArray⟩))]:=by
 refine Contract.plain (by kernel_rfl) ?_;rintro _ K ⟨s,g,caps,p,rfl,⟨sf,hsf,hsays⟩,hK⟩ _ w m vs hm hsz hrep;obtain⟨x,y,z,rfl,hx,hy,hz⟩:=arr3 hsz hrep;obtain⟨rfl,hcap⟩:=hx.str_inv;obtain⟨lb,rfl,hlsz,hlb⟩:=RepD.clo_inv hy;have:=hz.bool_inv;subst this;have hr:=Lib.idxFunc_range p true ⟨s.toArray⟩;have hsize:((⟨s.toArray⟩:ByteArray).size:Int)≤140737488355328:=by
   simp only [cap]at hcap;rw [Wu];omega
 refine⟨[.int .i64 (Lib.idxFunc p true ⟨s.toArray⟩)],hK,WT (rk:=[.cell (.int .i64)]) (by kernel_rfl) rfl ?_,?_⟩
 · simp only [RK.all,RK.kinds,List.map_cons,List.map_nil,List.flatten_cons,List.flatten_nil,List.append_nil,HasKs,HasK,and_true,true_and];simp only [IntKind.min,IntKind.max,IntKind.signed,IntKind.bits];constructor <;> (simp;omega)
 · refine(Z46 g lb (Z0h hsf.1) p ⟨s.toArray⟩ w ?_).mono ?_
   · intro W x hxle hb;refine(Z8u hsf (Z0K hm hb) hlsz hlb (as_:=[.int .i32 x]) (vs:= #[.int .i32 x]) rfl ?_ (hsays x hxle)).mono ?_
     · intro i d v h1 h2;cases i with
       |zero=>simp at h1 h2;subst h1 h2;exact .int _ _
       |succ i=>simp at h1
     · rintro e w' ⟨v,m',rfl,hv,hb'⟩;exact⟨by rw [hv.bool_inv],hb'⟩
   · rintro e w' ⟨rfl,hb⟩;exact⟨[.int .i64 (Lib.idxFunc p true ⟨s.toArray⟩)],rfl,rfl,fun i d u h1 h2=>by
       cases i with
       |zero=>simp at h1 h2;subst h1 h2;exact .int _ _
       |succ i=>simp at h1,hb⟩
end Go.Sx.La
namespace Go.Sx.La
open Go Go.Sx Go.RowKit Go.Proofs Go.Sort Go.Shelf
theorem Z5I {W w':World} (h:BelowD W.heap.size W w'):∃q os',w'=Sort.grow (W.drewN q) os':=by
 refine⟨w'.drawn - W.drawn,w'.heap.extract W.heap.size w'.heap.size,?_⟩;have hh:W.heap++w'.heap.extract W.heap.size w'.heap.size=w'.heap:=by
   apply Array.ext_getElem?;intro i;rw [Array.getElem?_append];split
   · rename_i hi;exact(h.block i hi).symm
   · rename_i hi;rw [Array.getElem?_extract];have hs:=h.size;split
     · congr 1;omega
     · rw [Array.getElem?_eq_none (by omega)]
 have hd:W.drawn+(w'.drawn - W.drawn)=w'.drawn:=by have:=h.drawn;omega
 have e1:=h.os;have e2:=h.tape;have e3:=h.output;obtain⟨hp,tp,dr,o,out⟩:=w';obtain⟨hp0,tp0,dr0,o0,out0⟩:=W;simp only at hh hd e1 e2 e3;simp only [Sort.grow,World.drewN,hh,hd,e1,e2,e3]
structure El (m:Mem) (X:Type) (enc:X→List D) (k:Nat) (l:List X) where
 x:X
 mem:x∈l
 vs:List Value
 len:vs.length=k
 rep:∀(i:Nat) d v,(enc x)[i]? =some d→vs[i]? =some v→RepD m d v
def D.flat:D→Bool
 | .agg _=>false
 |_=>true
theorem RepD.one {m:Mem} {d:D} {v:Value} (h:RepD m d v) (hf:D.flat d=true):v.oneCell'=true:=by
 cases h <;> first|rfl|cases hf
theorem Zas {m:Mem} {w:World} {B:Nat→Prop} {e:Nat} {xs:List (List D)} {v:Value} (h:RepR m w B (.own e xs) v) (hne:xs≠[]):
   ∃ b c arr t,v=.slice (some ⟨b,0,none⟩) xs.length c∧B b∧m b=none∧w.heap[b]? =some (.cells arr t (0,0))∧0 < c∧xs.length≤c∧c≤maxLen∧xs.length≤cap∧arr.size=c * e∧(∀x∈xs,x.length=e)∧
     ∀(i j:Nat) x d v,xs[i]? =some x→x[j]? =some d→arr[i * e+j]? =some v→RepD m d v:=by
 cases h with
 |none=>exact absurd rfl hne
 |own hB hm hb h0 hc hcc hcap hsz he hv=>exact⟨_,_,_,_,rfl,hB,hm,hb,h0,hc,hcc,hcap,hsz,he,hv⟩
section
variable {α:Type} [Inhabited α]
theorem ZX (enc:α→List Value) (k:Nat) (w:World) (blk off n:Nat) (d:Array α) (os:Array Obj) {b:Nat} (hb:b < w.heap.size) (hne:b≠blk):(sortWorldK enc k w blk off n d os).heap[b]? =w.heap[b]?:=by
 have hsz:(putRowK enc k (Sort.ahead w n) blk off d).heap.size=w.heap.size:=by simp [putRowK,putRow,mapBlock,Sort.ahead]
 unfold sortWorldK;simp only [Sort.grow];rw [Array.getElem?_append,if_pos (by omega)];simp only [putRowK,putRow,mapBlock,Sort.ahead,Array.getElem?_modify];rw [if_neg (by omega)]
theorem Z40 (enc:α→List Value) (k:Nat) (w:World) (blk off n:Nat) (d:Array α) (os:Array Obj) {c:Array Value} {t:TypeId} {fz:Nat×Nat} (hb:w.heap[blk]? =some (.cells c t fz)):
   (sortWorldK enc k w blk off n d os).heap[blk]? =some (.cells (Go.Sort.putCells id off (flatK enc k d) c) t fz):=by
 have hlt:blk < w.heap.size:=by
   rcases Nat.lt_or_ge blk w.heap.size with h|h
   · exact h
   · rw [Array.getElem?_eq_none h]at hb;cases hb
 have hsz:(putRowK enc k (Sort.ahead w n) blk off d).heap.size=w.heap.size:=by simp [putRowK,putRow,mapBlock,Sort.ahead]
 unfold sortWorldK;simp only [Sort.grow];rw [Array.getElem?_append,if_pos (by omega)];simp only [putRowK,putRow,mapBlock,Sort.ahead,Array.getElem?_modify,hb];simp [onCells]
end
theorem Za2 {P:Program} {f:FuncId} {ρ:Ren} (L:SlLaysF0.n6 P ρ) (hf:ρ.f 6=f) (hcl:J2 P f=true) {X:Type} {enc:X→List D} {ks:List K} {k:Nat} (hkk:ks.length=k) (h0:0 < k) (hflat:∀x,∀d∈enc x,D.flat d=true) (hlen:∀x,(enc x).length=k)
   (aE:∀w,(isAgg (ρ.t 24)).run P w=.ok true w) (zE:∀w,(Go.sizeOf (ρ.t 24)).run P w=.ok k w) (hres:Z8 P false (Zs P f)=some []):
   ContractX P f [.own ks,.cell .fn] true fun args K=>∃(l:List X) (g:FuncId) (caps:List D) (key:X→Int) (cf:X→X→Int) (sf:Spec),l≠[]∧(∀x∈l,HasKs ks (enc x))∧args=[.own k (l.map enc),.d (.clo g caps)]∧FvC P (.clo g caps) sf∧
     (∀x∈l,∀y∈l,(cf x y < 0↔key x < key y)∧sf [.agg (enc x),.agg (enc y)] fun rs=>rs=[.d (.int .i64 (cf x y))])∧∀l':List X,l'.Perm l→l'.Pairwise (fun a b=>key a≤key b)→K [.own k (l'.map enc)]:=by
 refine⟨hcl,?_⟩;rintro _ K ⟨l,g,caps,key,cf,sf,hne,hks,rfl,hfv,hcf,hK⟩ _ w m vs hm hr;have hlen2:vs.length=2:=hr.len
 match vs,hlen2 with
 | [v,u],_=>
 have r0:=hr.rep 0 _ v rfl rfl;have r1:=hr.rep 1 _ u rfl rfl;cases r1 with
 |d h1=>
 obtain⟨cb,rfl,hcsz,hcb⟩:=RepD.clo_inv h1;obtain⟨b,c,arr,t,rfl,_,hmb,hb,hc0,hc,hcm,hcap,hasz,he,hv⟩:=Zas r0 (by simpa using hne);have hblt:b < w.heap.size:=by
   rcases Nat.lt_or_ge b w.heap.size with h|h
   · exact h
   · rw [Array.getElem?_eq_none h]at hb;cases hb
 simp only [List.length_map]at hc hcap;have hin:∀i j,i < l.length→j < k→i * k+j < arr.size:=by
   intro i j hi hj;have h1:(i+1) * k≤c * k:=Nat.mul_le_mul_right _ (by omega);rw [Nat.succ_mul]at h1;omega
 let d :Array (El m X enc k l):=Array.ofFn fun i:Fin l.length=>⟨l[i],List.getElem_mem _,(arr.toList.drop (i * k)).take k,by
     have h1:(i.val+1) * k≤c * k:=Nat.mul_le_mul_right _ (by omega);rw [Nat.succ_mul]at h1;simp only [List.length_take,List.length_drop,Array.length_toList];omega,fun j dd u h2 h3=>by
     have hj:j < k:=by
       have:=(List.getElem?_eq_some_iff.1 h2).1;rw [hlen]at this;exact this
     rw [List.getElem?_take,if_pos hj,List.getElem?_drop]at h3;exact hv i j (enc l[i]) dd u (by simp) h2 (by simpa using h3)⟩
 have hds:d.size=l.length:=by simp [d]
 have hpos:0 < l.length:=List.length_pos_iff.2 hne
 letI:Inhabited (El m X enc k l):=⟨d[0]'(by omega)⟩
 have hdi:∀i (hi:i < l.length),d[i]! =d[i]'(by omega):=fun i hi=>getElem!_pos d i (by omega)
 have hdx:∀i (hi:i < l.length),(d[i]!).x=l[i]:=fun i hi=>by rw [hdi i hi];simp [d]
 have hdv:∀i j (hi:i < l.length) (hj:j < k),(d[i]!).vs[j]! =arr[i * k+j]'(hin i j hi hj):=fun i j hi hj=>by
   rw [hdi i hi];have:(d[i]'(by omega)).vs=(arr.toList.drop (i * k)).take k:=by simp [d]
   rw [this,List.getElem!_eq_getElem?_getD,List.getElem?_take,if_pos hj,List.getElem?_drop];simp [hin i j hi hj]
 have hH:HoldsK El.vs k w b 0 d:=by
   intro j hj;rw [size_flatK,hds]at hj;have hq:j / k < l.length:=Nat.div_lt_of_lt_mul (by rw [Nat.mul_comm];exact hj);have hrm:j % k < k:=Nat.mod_lt _ h0;have e:j / k * k+j % k=j:=by rw [Nat.mul_comm];exact Nat.div_add_mod j k
   constructor
   · rw [get_flatK _ _ _ _ (by rw [hds];exact hj),id_eq,hdv _ _ hq hrm];simp only [World.cell?,hb,e];have:=hin _ _ hq hrm;rw [e]at this;simp [this]
   · simp [World.frozen?,hb]
 have hmem:∀n os dk,MemOk m (sortWorldK El.vs k w b 0 n (dk:Array (El m X enc k l)) os):=by
   intro n os dk b' o ho;have hne':b'≠b:=by rintro rfl;rw [hmb]at ho;cases ho
   rw [ZX _ _ _ _ _ _ _ _ (hm.lt ho) hne'];exact hm b' o ho
 have hcmp:CmpLays P g cb (El.vs (m:=m) (X:=X) (enc:=enc) (k:=k) (l:=l)) k (fun x y=>cf x.x y.x) b 0 d.size w:=by
   intro n os dk _ x y;refine(Z8u hfv (hmem n os dk) hcsz hcb (as_:=[.agg (enc x.x),.agg (enc y.x)]) (vs:= #[.agg x.vs.toArray,.agg y.vs.toArray]) rfl ?_ (hcf x.x x.mem y.x y.mem).2).mono ?_
   · intro i dd u h2 h3
     match i,h2,h3 with
     | 0,h2,h3=>
       simp at h2 h3;subst h2 h3;exact .agg _ _ (by simp [x.len,hlen]) fun j e u a1 a2=>x.rep j e u a1 (by simpa using a2)
     | 1,h2,h3=>
       simp at h2 h3;subst h2 h3;exact .agg _ _ (by simp [y.len,hlen]) fun j e u a1 a2=>y.rep j e u a1 (by simpa using a2)
   · rintro e w' ⟨u,m',rfl,hu,hbw⟩;rw [hu.int_inv];exact⟨rfl,Z5I hbw⟩
 have hO:SWO (ltOf fun x y:El m X enc k l=>cf x.x y.x):=by
   have key':∀x y:El m X enc k l,ltOf (fun x y:El m X enc k l=>cf x.x y.x) x y=decide (key x.x < key y.x):=fun x y=>by
     simp only [ltOf];rw [Bool.eq_iff_iff];simpa using(hcf x.x x.mem y.x y.mem).1
   refine⟨fun x=>?_,fun x y z h1 h2=>?_,fun x y z h1 h2=>?_⟩
   · rw [key'];simp
   · rw [key']at *;simp at *;omega
   · rw [key']at *;simp at *;omega
 have hargs:([Value.slice (some ⟨b,0,none⟩) (l.map enc).length c,Value.func (.func g) #[] cb]:List Value).toArray= #[.slice (some ⟨b,0,none⟩) d.size c,.func (.func g) #[] cb]:=by rw [hds,List.length_map]
 rw [hargs, ←hf];refine(AnyQ.slices_SortFunc L k aE zE El.vs El.len ?_ (fun x y=>cf x.x y.x) hO g cb b 0 c d w (Z0h hfv.1) hcmp hH hblt (by rw [hds];simp only [cap]at hcap;omega)).mono ?_
 · intro x u hu;obtain⟨j,hj⟩:=List.mem_iff_getElem?.1 hu;have hjk:j < (enc x.x).length:=by
     have:=(List.getElem?_eq_some_iff.1 hj).1;rw [x.len]at this;rw [hlen];exact this
   exact RepD.one (x.rep j _ u (List.getElem?_eq_getElem hjk) hj) (hflat x.x _ (List.getElem_mem hjk))
 · rintro e w' ⟨rfl,d',n,os,⟨hs',_,hperm⟩,hsort,rfl⟩;rw [hds]at hs';have hd'i:∀i (hi:i < l.length),d'[i]! =d'[i]'(by omega):=fun i hi=>getElem!_pos d' i (by omega)
   have hfull:∀(a:Array (El m X enc k l)),a.size=l.length→(a.extract 0 d.size).toList=a.toList:=by
     intro a ha;rw [hds, ←ha];simp
   rw [hfull d' hs',hfull d hds]at hperm
   let l':List X:=d'.toList.map El.x
   have hl':l'.length=l.length:=by simp [l',hs']
   have hpl:l'.Perm l:=by
     have h1:=hperm.map El.x;have h2:d.toList.map El.x=l:=by
       apply List.ext_getElem
       · simp [hds]
       · intro i h1 h2;simp [d]
     rw [h2]at h1;exact h1
   have hgx:∀i (hi:i < l.length),l'[i]'(by omega)=(d'[i]!).x:=fun i hi=>by rw [hd'i i hi];simp [l']
   have hpw:l'.Pairwise (fun a b=>key a≤key b):=by
     rw [List.pairwise_iff_getElem];intro i j hi hj hij;rw [hgx i (by omega),hgx j (by omega)];have:=hsort i j (Nat.zero_le _) hij (by rw [hds];omega);simp only [ltOf]at this;have h2:=(hcf _ (d'[j]!).mem _ (d'[i]!).mem).1;have h3:¬cf (d'[j]!).x (d'[i]!).x < 0:=by simpa using this
     rw [h2]at h3;omega
   have hrow:=Z40 El.vs k w b 0 n d' os hb;have hflt:∀i j,i < l.length→j < k→(flatK El.vs k d')[i * k+j]! =(d'[i]!).vs[j]!:=by
     intro i j hi hj;have h1:(i+1) * k≤l.length * k:=Nat.mul_le_mul_right _ (by omega);rw [Nat.succ_mul]at h1;rw [get_flatK _ _ _ _ (by rw [hs'];omega)];have e1:(i * k+j) / k=i:=by rw [Nat.mul_comm,Nat.mul_add_div h0,Nat.div_eq_of_lt hj,Nat.add_zero]
     have e2:(i * k+j) % k=j:=by rw [Nat.mul_comm,Nat.mul_add_mod,Nat.mod_eq_of_lt hj]
     rw [e1,e2]
   have hown:Zi [.own k (l.map enc),.d (.clo g caps)] [.slice (some ⟨b,0,none⟩) (l.map enc).length c,.func (.func g) #[] cb] b:=⟨0,_,_,rfl,rfl,rfl,by simp [blk];omega⟩
   refine⟨[.own k (l'.map enc)],[],_,m,hK l' hpl hpw,?_,rfl,rfl,⟨rfl,?_,?_⟩,Mem.le_refl m,hmem n os d',fun _ _ _=>rfl,⟨rfl,rfl,rfl,?_,?_,?_⟩⟩
   · intro rk hrk;rw [hf,hres]at hrk;cases hrk;refine⟨[.slice (l'.map enc)],?_,?_⟩
     · simp [Ya,RV.all,RV.cells,hkk]
     · simp only [Ya,if_true,List.nil_append,RK.all,List.map_cons,List.map_nil,RK.kinds,List.flatten_cons,List.flatten_nil,List.append_nil,HasKs,HasK,and_true];intro x hx;obtain⟨y,hy,rfl⟩:=List.mem_map.1 hx;exact hks y (hpl.mem_iff.1 hy)
   · intro i r u h2 h3;cases i with
     |succ i=>simp at h2
     | zero=>
       simp [W5]at h2 h3;subst h2 h3;have hll:(l'.map enc).length=l.length:=by simp [hl']
       have:=RepR.own (m:=m) (w:=sortWorldK El.vs k w b 0 n d' os) (B:=fun b'=>w.heap.size≤b'∨Zi [.own k (l.map enc),.d (.clo g caps)] [.slice (some ⟨b,0,none⟩) (l.map enc).length c,.func (.func g) #[] cb] b') (e:=k) (xs:=l'.map enc) (.inr hown) hmb hrow hc0 (by omega) hcm (by omega) (by simp [Go.Sort.putCells,hasz]) (by
         intro x hx;obtain⟨y,hy,rfl⟩:=List.mem_map.1 hx;exact hlen y) (by
         intro i j x dd u hx hd hu;have hi:i < l.length:=by rw [←hll];exact(List.getElem?_eq_some_iff.1 hx).1
         simp only [List.getElem?_map,Option.map_eq_some_iff]at hx;obtain⟨y,hy,rfl⟩:=hx;have hj:j < k:=by have:=(List.getElem?_eq_some_iff.1 hd).1;rw [hlen]at this;exact this
         have hyx:y=(d'[i]!).x:=by
           rw [←hgx i hi];exact((List.getElem?_eq_some_iff.1 hy).2).symm
         subst hyx;have hlt:i * k+j < l.length * k:=by
           have h1:(i+1) * k≤l.length * k:=Nat.mul_le_mul_right _ (by omega);rw [Nat.succ_mul]at h1;omega
         simp only [Go.Sort.putCells,Array.getElem?_mapIdx,size_flatK,hs',Option.map_eq_some_iff]at hu;obtain⟨z,hz,hu⟩:=hu;rw [if_pos ⟨Nat.zero_le _,by omega⟩,id_eq,Nat.sub_zero,hflt i j hi hj]at hu;refine(d'[i]!).rep j dd u hd ?_;rw [←hu,List.getElem!_eq_getElem?_getD,List.getElem?_eq_getElem (by rw [(d'[i]!).len];exact hj)];rfl)
       rw [hll]at this;exact this
   · intro i j r r' u u' b' hij h2 h3;exfalso;have h4:=(List.getElem?_eq_some_iff.1 h2).1;have h5:=(List.getElem?_eq_some_iff.1 h3).1;simp at h4 h5;omega
   · simp [sortWorldK,Sort.grow,putRowK,putRow,mapBlock,Sort.ahead]
   · simp [sortWorldK,Sort.grow,putRowK,putRow,mapBlock,Sort.ahead]
   · intro b' hb' hnb;refine ZX _ _ _ _ _ _ _ _ hb' ?_;rintro rfl;exact hnb hown
end Go.Sx.La
namespace Go.Sx.La
open Go Go.Sx Go.Proofs
noncomputable def t46:R:=let x0:T:=.o2 (.add .i64) (Va 1) (Vn 1);let x1:T:=.o1 .len (Va 0);.loop 0 [Vn 0] [.int .i64] (.fact (.o2 .le x1 (Vn 140737488355328)) (.ite (.o2 .lt (Va 1) x1) (.need (.o2 .le (Vn 0) (Va 1)) (.ite (.o2 .eq (.o2 .sidx (Va 0) (Va 1)) (.int .u8 46)) (.need (.o2 .le (Va 1) x1) (.need (.o2 .le (Vn 0) x0) (.need (.o2 .le x0 x1) (.ret [.d (.sub (Va 0) (Vn 0) (Va 1)),.d (.sub (Va 0) x0 x1),.d (.bool true)])))) (.again 0 [.o2 (.add .i64) (Va 1) (Vn 1)]))) (.ret [.d (Va 0),.d (.str []),.d (.bool false)])))
theorem Zgw:fnO Tryz.prog mdA 46 [.cell .str]=t46:=by kernel_rfl
noncomputable def t47:R:=let x0:T:=.o1 .len (Va 0);let x1:T:=.o2 .sidx (Va 0) (Va 1);.loop 0 [Vn 0] [.int .i64] (.fact (.o2 .le x0 (Vn 140737488355328)) (.ite (.o2 .lt (Va 1) x0) (.need (.o2 .le (Vn 0) (Va 1)) (.ite (.ite (.o2 .lt x1 (.int .u8 48)) (.bool true) (.o2 .gt x1 (.int .u8 57))) (.ret [.d (.bool false)]) (.again 0 [.o2 (.add .i64) (Va 1) (Vn 1)]))) (.ret [.d (.o2 .gt x0 (Vn 0))])))
theorem Zgv:fnO Tryz.prog mdA 47 [.cell .str]=t47:=by kernel_rfl
noncomputable def t13:R:=let x1:T:=.o1 .len (Va 1);let x2:T:=.o1 .len (Va 2);let x3:T:=.o2 (.sub .i64) x2 (Vn 1);let x4:T:=.o2 .eq (.o2 .sidx (Va 1) (Vn 0)) (.int .u8 48);let x5:T:=.o2 .gt x1 (Vn 1);let x6:T:=.o2 .le x2 (Vn 140737488355328);let x7:T:=.o2 .eq (Va 0) (.str [48]);let x0:T:=.o2 .band (.o1 .not (.ite x5 x4 (.bool false))) (Va 3);.call none (.fn 46) [Va 0] [.cell .str,.cell .str,.cell .bool] (.call none (.fn 47) [Va 1] [.cell .bool] (.call (some (.o2 .band (.o1 .not (.o1 .not (Va 4))) (Va 3))) (.fn 47) [Va 2] [.cell .bool] (.ite (.ite (.o1 .not (Va 4)) (.bool true) (.ite (Va 3) (.o1 .not (Va 5)) (.bool false))) (.ret [.d (Vn 3)]) (.fact (.o2 .le x1 (Vn 140737488355328)) (.need (.ite x5 (.o2 .lt (Vn 0) x1) (.bool true)) (.fact (.ite x0 x6 (.bool true)) (.need (.ite x0 (.o2 .le (Vn 0) x3) (.bool true)) (.need (.ite x0 (.o2 .lt x3 x2) (.bool true)) (.ite (.ite (.ite x5 x4 (.bool false)) (.bool true) (.ite (Va 3) (.o2 .eq (.o2 .sidx (Va 2) x3) (.int .u8 48)) (.bool false))) (.ret [.d (Vn 3)]) (.fact (.ite (.o1 .not (.ite x7 (.bool true) (.o2 .gt x1 (Vn 4)))) x6 (.bool true)) (.ite (.ite (.ite x7 (.bool true) (.o2 .gt x1 (Vn 4))) (.bool true) (.o2 .gt x2 (Vn 3))) (.ret [.d (Vn 2)]) (.ret [.d (Vn 0)]))))))))))))
theorem ZgP:fnO Tryz.prog mdA 13 [.cell .str]=t13:=by kernel_rfl
noncomputable def t185:R:=let x0:T:=.o2 (.mul .i64) (Vn 10) (Va 6);let x1:T:=.o2 .lt (Va 7) (.o1 .len (Va 2));.call none (.fn 46) [Va 0] [.cell .str,.cell .str,.cell .bool] (.loop 0 [Vn 0,Vn 0] [.int .i64,.int .i64] (.fact (.o2 .le (.o1 .len (Va 1)) (Vn 140737488355328)) (.ite (.o2 .lt (Va 5) (.o1 .len (Va 1))) (.need (.o2 .le (Vn 0) (Va 5)) (.again 0 [.o2 (.add .i64) (.o2 (.mul .i64) (Vn 10) (Va 4)) (.o1 (.conv .i64) (.o2 (.sub .u8) (.o2 .sidx (Va 1) (Va 5)) (.int .u8 48))),.o2 (.add .i64) (Va 5) (Vn 1)])) (.loop 1 [Va 4,Vn 0] [.int .i64,.int .i64] (.ite (.o2 .lt (Va 7) (Vn 3)) (.fact (.o2 .le (.o1 .len (Va 2)) (Vn 140737488355328)) (.need (.ite x1 (.o2 .le (Vn 0) (Va 7)) (.bool true)) (.lets [.ite x1 (.o2 (.add .i64) x0 (.o1 (.conv .i64) (.o2 (.sub .u8) (.o2 .sidx (Va 2) (Va 7)) (.int .u8 48)))) x0] (.again 1 [Va 8,.o2 (.add .i64) (Va 7) (Vn 1)])))) (.ret [.d (Va 6)]))))))
theorem ZdS:fnO Tryz.prog mdA 185 [.cell .str]=t185:=by kernel_rfl
noncomputable def t109:R:=.call none (.fn 185) [Va 0] [.cell (.int .i64)] (.call none (.fn 185) [Va 1] [.cell (.int .i64)] (.ite (.o2 .lt (Va 2) (Va 3)) (.ret [.d (Vn (-1))]) (.ite (.o2 .gt (Va 2) (Va 3)) (.ret [.d (Vn 1)]) (.ret [.d (Vn 0)]))))
theorem ZeQ:fnO Tryz.prog mdA 109 [.cell .str,.cell .str]=t109:=by kernel_rfl
def Wz (c:UInt8):Bool:=decide (48≤byt c)&&decide (byt c≤57)
def Za:List UInt8→Bool
 | []=>true
 |c::cs=>if Wz c then Za cs else false
def Zc (s:List UInt8):Bool:=Za s&&decide (0 < s.length)
theorem Z6Y:Contract Tryz.prog 47 fun args K=>∃s,args=[.str s]∧K [.d (.bool (Zc s))]:=by
 refine .of (by kernel_rfl) Zgv ?_;rintro _ K ⟨s,rfl,hK⟩ hsm;refine⟨[.str s],rfl,by simp [Y1,PK.kinds,HasKs,HasK],?_⟩;refine Jb s (fun _ l (_:Unit)=>Za l) (fun i _=>[.int .i64 i]) () _ rfl 0 (fun _ _=>rfl) rfl ?_ ?_
 · intro i hi _ hgo;simp only [zz,reduceCtorEq,hi,WR hi];simp only [Za,Wz]at hgo;grind [Z1,Zc]
 · intro _ hgo;simp only [zz,reduceCtorEq];grind [Zc,Za]
def Jl:Nat→List UInt8→Option Nat
 |_,[]=>none
 |i,c::cs=>if byt c=46 then some i else Jl (i+1) cs
def split (s:List UInt8):List UInt8×List UInt8×Bool:=match Jl 0 s with
 |some i=>(s.take i,s.drop (i+1),true)
 |none=>(s,[],false)
theorem Z8c:Contract Tryz.prog 46 fun args K=>∃s,args=[.str s]∧K [.d (.str (split s).1),.d (.str (split s).2.1),.d (.bool (split s).2.2)]:=by
 refine .of (by kernel_rfl) Zgw ?_;rintro _ K ⟨s,rfl,hK⟩ hsm;refine⟨[.str s],rfl,by simp [Y1,PK.kinds,HasKs,HasK],?_⟩;refine Jb s (fun i l (_:Unit)=>Jl i l) (fun i _=>[.int .i64 i]) () _ rfl 0 (fun _ _=>rfl) rfl ?_ ?_
 · intro i hi _ hgo;simp only [zz,reduceCtorEq,hi,WR hi];simp only [Jl]at hgo;intro hcap;have hw:wr64 (↑i+1)=((i+1:Nat):Int):=by rw [Z1] <;> omega
   simp only [hw,Int.toNat_natCast];grind [split]
 · intro _ hgo;simp only [zz,reduceCtorEq];grind [split,Jl]
def Z4 (s:List UInt8):Int:=
 if !Zc (split s).1||((split s).2.2&&!Zc (split s).2.1)then 3
 else if(decide (1 < (split s).1.length)&&at8 (split s).1 0==48)||((split s).2.2&&at8 (split s).2.1 ((split s).2.1.length - 1)==48)then 3
 else if s==[48]||decide (4 < (split s).1.length)||decide (3 < (split s).2.1.length)then 2 else 0
theorem Z20:Contract Tryz.prog 13 fun args K=>∃s,args=[.str s]∧K [.d (.int .i64 (Z4 s))]:=by
 refine .of (by kernel_rfl) ZgP ?_;rintro _ K ⟨s,rfl,hK⟩ hsm;refine⟨[.str s],rfl,by simp [Y1,PK.kinds,HasKs,HasK],?_⟩;refine Z0 Z8c ⟨s,rfl,_,rfl,?_⟩;refine Z0 Z6Y ⟨_,rfl,_,rfl,?_⟩;have hK':∀v,Z4 s=v→K [.d (.int .i64 v)]:=by rintro _ rfl;exact hK
 clear hK;simp only [Z4]at hK';generalize hw:(split s).1=w at *;generalize hr:(split s).2.1=r at *;generalize hp:(split s).2.2=p at *;refine Z5 Z6Y (Zc w&&p) [.bool ((Zc w&&p)&&Zc r)] (by simp only [zz,reduceCtorEq];cases Zc w <;> rfl) (fun h=>⟨_,rfl,by rw [h];rfl⟩) (fun h=>by rw [h];rfl) ?_;have hd:Zc r=true→0 < r.length:=by simp [Zc]
 simp only [zz,reduceCtorEq];generalize (s==[48])=z at hK' ⊢;refine⟨fun h=>hK' _ ?_,fun h hcap=>⟨?_,fun hc2=>⟨?_,?_,fun h2=>hK' _ ?_,fun h2 _=>⟨fun h3=>hK' _ ?_,fun h3=>hK' _ ?_⟩⟩⟩⟩ <;> clear hK' <;> (try simp) <;> grind [Z1]
def Z1D (n:Int) (c:Int):Int:=wr64 (wr64 (10 * n)+wr64 (wr8 (c - 48)))
def val1:List UInt8→Int→Int
 | [],n=>n
 |c::cs,n=>val1 cs (Z1D n (byt c))
def val2 (r:List UInt8):List Nat→Int→Int
 | [],n=>n
 |i::is,n=>val2 r is (if i < r.length then Z1D n (at8 r i)else wr64 (10 * n))
def Zg (s:List UInt8):Int:=val2 (split s).2.1 (List.range 3) (val1 (split s).1 0)
theorem Z4c:Contract Tryz.prog 185 fun args K=>∃s,args=[.str s]∧K [.d (.int .i64 (Zg s))]:=by
 refine .of (by kernel_rfl) ZdS ?_;rintro _ K ⟨s,rfl,hK⟩ hsm;refine⟨[.str s],rfl,by simp [Y1,PK.kinds,HasKs,HasK],?_⟩;refine Z0 Z8c ⟨s,rfl,_,rfl,?_⟩;simp only [Zg]at hK;generalize (split s).1=w at *;generalize (split s).2.1=r at *;refine Jb w (fun _ l (n:Int)=>val1 l n) (fun i n=>[.int .i64 n,.int .i64 i]) 0 _ rfl 1 (fun _ _=>rfl) rfl ?_ ?_
 · intro i hi n hgo;simp only [zz,reduceCtorEq,hi,WR hi];simp only [val1,Z1D]at hgo;grind [Z1]
 · intro n hgo;simp only [val1]at hgo;simp only [zz,reduceCtorEq];intro hcap;rw [hgo];refine Jb (List.range 3) (fun _ l (n:Int)=>val2 r l n) (fun i n=>[.int .i64 n,.int .i64 i]) _ _ rfl 1 (fun _ _=>rfl) rfl ?_ ?_
   · intro i hi n hgo;simp only [List.length_range]at hi;simp only [zz,reduceCtorEq];simp only [val2,List.getElem_range,Z1D]at hgo;grind [Z1]
   · intro n hgo;simp only [val2]at hgo;simp only [zz,reduceCtorEq];grind
def W4 (a b:List UInt8):Int:=if Zg a < Zg b then -1 else if Zg b < Zg a then 1 else 0
theorem Z95:Contract Tryz.prog 109 fun args K=>∃a b,args=[.str a,.str b]∧K [.d (.int .i64 (W4 a b))]:=by
 refine .of (by kernel_rfl) ZeQ ?_;rintro _ K ⟨a,b,rfl,hK⟩ hsm;refine⟨[.str a,.str b],rfl,by simp [Y1,PK.kinds,HasKs,HasK],?_⟩;refine Z0 Z4c ⟨a,rfl,_,rfl,?_⟩;refine Z0 Z4c ⟨b,rfl,_,rfl,?_⟩;simp only [zz,reduceCtorEq];simp only [W4]at hK;grind
end Go.Sx.La
namespace Go.Sx.La
open Go Go.Sx Go.RowKit Go.Proofs
noncomputable def t186:R:=let x0:T:=.o2 (.add .i64) (Va 2) (.o1 .len (Va 1));let x1:T:=.o1 .len (Va 0);.call none (.fn 220) [Va 0,Va 1] [.cell (.int .i64)] (.ite (.o2 .ge (Va 2) (Vn 0)) (.need (.o2 .le (Vn 0) (Va 2)) (.need (.o2 .le (Va 2) x1) (.fact (.o2 .le (.o1 .len (Va 1)) (Vn 140737488355328)) (.need (.o2 .le (Vn 0) x0) (.need (.o2 .le x0 x1) (.ret [.d (.sub (Va 0) (Vn 0) (Va 2)),.d (.sub (Va 0) x0 x1),.d (.bool true)])))))) (.ret [.d (Va 0),.d (.str []),.d (.bool false)]))
theorem ZdR:fnO Tryz.prog mdA 186 [.cell .str,.cell .str]=t186:=by kernel_rfl
noncomputable def t111:R:=.call none (.fn 186) [Va 0,Va 1] [.cell .str,.cell .str,.cell .bool] (.ret [.d (Va 2),.d (Va 3),.d (Va 4)])
theorem ZeO:fnO Tryz.prog mdA 111 [.cell .str,.cell .str]=t111:=by kernel_rfl
noncomputable def t189:R:=let x0:T:=.o1 .len (Va 0);let x1:T:=.o1 .len (Va 1);let x2:T:=.o2 (.sub .i64) x0 x1;let x3:T:=.o2 .ge x0 x1;.fact (.o2 .le x0 (Vn 140737488355328)) (.fact (.o2 .le x1 (Vn 140737488355328)) (.need (.ite x3 (.o2 .le (Vn 0) x2) (.bool true)) (.need (.ite x3 (.o2 .le x2 x0) (.bool true)) (.ret [.d (.ite x3 (.o2 .eq (.sub (Va 0) x2 x0) (Va 1)) (.bool false))]))))
theorem ZdO:fnO Tryz.prog mdA 189 [.cell .str,.cell .str]=t189:=by kernel_rfl
noncomputable def t115:R:=.call none (.fn 189) [Va 0,Va 1] [.cell .bool] (.ret [.d (Va 2)])
theorem ZeK:fnO Tryz.prog mdA 115 [.cell .str,.cell .str]=t115:=by kernel_rfl
noncomputable def t221:R:=.call none (.fn 236) [Va 0,Va 1,.bool true] [.cell (.int .i64)] (.ret [.d (Va 2)])
theorem Zdr:fnO Tryz.prog mdA 221 [.cell .str,.cell .fn]=t221:=by kernel_rfl
noncomputable def t187:R:=.call none (.fn 221) [Va 0,Va 1] [.cell (.int .i64)] (.ret [.d (.o2 .ge (Va 2) (Vn 0))])
theorem ZdQ:fnO Tryz.prog mdA 187 [.cell .str,.cell .fn]=t187:=by kernel_rfl
theorem ZU:∀(s:List UInt8) (i:Nat),Jl i s=(Jl 0 s).map (· +i)
 | [],_=>rfl
 | c ::cs,i=>by
   simp only [Jl];split
   · simp
   · rw [ZU cs (i+1),ZU cs 1,Option.map_map];congr 1;funext x;simp;omega
theorem Z08:∀(s:List UInt8),Lib.indexByte s 46=match Jl 0 s with|some i=>(i:Int)|none=> -1
 | []=>rfl
 | c ::cs=>by
   simp only [Lib.indexByte,Jl];have hc:(c==46)=decide (byt c=46):=by
     rw [Bool.eq_iff_iff];simp only [beq_iff_eq,decide_eq_true_eq, ←Yi];constructor
     · rintro rfl;rfl
     · intro h;exact UInt8.toNat_inj.1 h
   rw [hc,Z08 cs,ZU cs 1];by_cases h:byt c=46
   · simp [h]
   · simp only [h,decide_false,Bool.false_eq_true,if_false];cases Jl 0 cs with
     |none=>simp
     | some i=>
       have:((i:Int)== -1)=false:=by simp
       simp [this]
theorem Z4u:∀(s:List UInt8) (i k:Nat),Jl i s=some k→i≤k∧k < i+s.length
 | [],_,_,h=>by simp [Jl]at h
 | c ::cs,i,k,h=>by
   simp only [Jl]at h;split at h
   · cases h;simp
   · have:=Z4u cs (i+1) k h;simp only [List.length_cons];omega
theorem Z07:∀(s:List UInt8) (c:UInt8), -1≤Lib.indexByte s c∧Lib.indexByte s c≤s.length
 | [],_=>by simp [Lib.indexByte]
 | b ::l,c=>by
   have:=Z07 l c;simp only [Lib.indexByte,List.length_cons];split
   · omega
   · split
     · omega
     · omega
theorem ZaS:Contract Tryz.prog 220 fun args K=>∃s c,args=[.str s,.str [c]]∧K [.d (.int .i64 (Lib.indexByte s c))]:=by
 refine Contract.plain (by kernel_rfl) ?_;rintro _ K ⟨s,c,rfl,hK⟩ _ w m vs hm hsz hrep;obtain⟨x,y,rfl,hx,hy⟩:=arr2 hsz hrep;obtain⟨rfl,hcap⟩:=hx.str_inv;obtain⟨rfl,_⟩:=hy.str_inv;have hr: -1≤Lib.indexByte s c∧Lib.indexByte s c≤s.length:=Z07 s c;simp only [cap]at hcap;refine⟨[.int .i64 (Lib.indexByte s c)],hK,WT (rk:=[.cell (.int .i64)]) (by kernel_rfl) rfl ?_,?_⟩
 · simp only [RK.all,RK.kinds,List.map_cons,List.map_nil,List.flatten_cons,List.flatten_nil,List.append_nil,HasKs,HasK,and_true,true_and];simp only [IntKind.min,IntKind.max,IntKind.signed,IntKind.bits];constructor <;> (simp;omega)
 · refine(Tryz.stringslite_Index_one ⟨s.toArray⟩ c w).mono ?_;rintro e w' ⟨rfl,rfl⟩;exact⟨[.int .i64 (Lib.indexByte s c)],rfl,rfl,fun i d u h1 h2=>by
       cases i with
       |zero=>simp at h1 h2;subst h1 h2;exact .int _ _
       |succ i=>simp at h1,Z9A _ _⟩
theorem Zbh:Contract Tryz.prog 186 fun args K=>∃s,args=[.str s,.str [46]]∧K [.d (.str (split s).1),.d (.str (split s).2.1),.d (.bool (split s).2.2)]:=by
 refine .of (by kernel_rfl) ZdR ?_;rintro _ K ⟨s,rfl,hK⟩ hsm;refine⟨[.str s,.str [46]],rfl,by simp [Y1,PK.kinds,HasKs,HasK],?_⟩;refine Z0 ZaS ⟨s,46,rfl,_,rfl,?_⟩;rw [Z08];have hlt:=Z4u s 0;simp only [split]at hK;cases hp:Jl 0 s with
 | none=>
   rw [hp]at hK;simp only [zz,reduceCtorEq];exact⟨fun h=>by simp at h,fun _=>hK⟩
 | some i=>
   rw [hp]at hK;have:=hlt i hp;simp only [zz,reduceCtorEq];simp only [List.length_cons,List.length_nil,Nat.zero_add,Int.cast_ofNat_Int];simp only [List.mem_cons,List.not_mem_nil,or_false,forall_eq_or_imp,forall_eq,Small.str_iff]at hsm;have hw:wr64 ((i:Int)+1)=((i+1:Nat):Int):=by rw [Z1] <;> omega
   simp only [hw,Int.toNat_natCast];grind
theorem Zda:Contract Tryz.prog 111 fun args K=>∃s,args=[.str s,.str [46]]∧K [.d (.str (split s).1),.d (.str (split s).2.1),.d (.bool (split s).2.2)]:=by
 refine .of (by kernel_rfl) ZeO ?_;rintro _ K ⟨s,rfl,hK⟩ hsm;refine⟨[.str s,.str [46]],rfl,by simp [Y1,PK.kinds,HasKs,HasK],?_⟩;refine Z0 Zbh ⟨s,rfl,_,rfl,?_⟩;simp only [zz,reduceCtorEq];exact hK
theorem Z62:Contract Tryz.prog 189 fun args K=>∃s t,args=[.str s,.str t]∧K [.d (.bool (decide (t.length≤s.length)&&s.drop (s.length - t.length)==t))]:=by
 refine .of (by kernel_rfl) ZdO ?_;rintro _ K ⟨s,t,rfl,hK⟩ hsm;refine⟨[.str s,.str t],rfl,by simp [Y1,PK.kinds,HasKs,HasK],?_⟩;simp only [List.mem_cons,List.not_mem_nil,or_false,forall_eq_or_imp,forall_eq,Small.str_iff]at hsm;simp only [zz,reduceCtorEq,t189];intro _ _;have hw:t.length≤s.length→wr64 (↑s.length - ↑t.length)=((s.length - t.length:Nat):Int):=fun h=>by rw [Z1] <;> omega
 by_cases h:t.length≤s.length
 · simp only [hw h,Int.toNat_natCast,h,decide_true,Bool.true_and,if_true]at hK ⊢;exact⟨by simp,by simp,hK⟩
 · simp only [h,decide_false,Bool.false_and,if_false]at hK ⊢;exact⟨trivial,trivial,hK⟩
theorem Z9Z:Contract Tryz.prog 115 fun args K=>∃s t,args=[.str s,.str t]∧K [.d (.bool (decide (t.length≤s.length)&&s.drop (s.length - t.length)==t))]:=by
 refine .of (by kernel_rfl) ZeK ?_;rintro _ K ⟨s,t,rfl,hK⟩ hsm;refine⟨[.str s,.str t],rfl,by simp [Y1,PK.kinds,HasKs,HasK],?_⟩;refine Z0 Z62 ⟨s,t,rfl,_,rfl,?_⟩;simp only [zz,reduceCtorEq];exact hK
theorem Z5H:Contract Tryz.prog 221 fun args K=>∃s g caps p,args=[.str s,.clo g caps]∧Says Tryz.prog (.clo g caps) p∧K [.d (.int .i64 (Lib.idxFunc p true ⟨s.toArray⟩))]:=by
 refine .of (by kernel_rfl) Zdr ?_;rintro _ K ⟨s,g,caps,p,rfl,hp,hK⟩ hsm;refine⟨[.str s,.clo g caps],rfl,by simp [Y1,PK.kinds,HasKs,HasK],?_⟩;refine Z0 Z6P ⟨s,g,caps,p,rfl,hp,_,rfl,?_⟩;simp only [zz,reduceCtorEq];exact hK
theorem Z3P:Contract Tryz.prog 187 fun args K=>∃s g caps p,args=[.str s,.clo g caps]∧Says Tryz.prog (.clo g caps) p∧K [.d (.bool (decide (0≤Lib.idxFunc p true ⟨s.toArray⟩)))]:=by
 refine .of (by kernel_rfl) ZdQ ?_;rintro _ K ⟨s,g,caps,p,rfl,hp,hK⟩ hsm;refine⟨[.str s,.clo g caps],rfl,by simp [Y1,PK.kinds,HasKs,HasK],?_⟩;refine Z0 Z5H ⟨s,g,caps,p,rfl,hp,_,rfl,?_⟩;simp only [zz,reduceCtorEq];exact hK
noncomputable def t188:R:=.ret [.d (.ite (.o2 .lt (Va 0) (.int .i32 48)) (.bool true) (.o2 .gt (Va 0) (.int .i32 57)))]
theorem ZdP:fnO Tryz.prog mdA 188 [.cell (.int .i32)]=t188:=by kernel_rfl
theorem c188:J2 Tryz.prog 188=true:=by kernel_rfl
noncomputable def t113:R:=let x0:T:=.o2 .ne (Va 0) (.str []);.call (some x0) (.fn 187) [Va 0,.fn 188] [.cell .bool] (.ret [.d (.ite x0 (.o1 .not (Va 1)) (.bool false))])
theorem ZeM:fnO Tryz.prog mdA 113 [.cell .str]=t113:=by kernel_rfl
noncomputable def t112:R:=.call none (.fn 113) [.fld (.padd (Va 0) 0) 0 .str] [.cell .bool] (.ret [.d (Va 1)])
theorem ZeN:fnO Tryz.prog mdA 112 [.cell (.ptr [.str,.str,.bool])]=t112:=by kernel_rfl
theorem c112:J2 Tryz.prog 112=true:=by kernel_rfl
noncomputable def t114:R:=let x0:T:=.o1 .not (.fld (.padd (Va 0) 2) 0 .bool);.call (some (.o1 .not x0)) (.fn 113) [.fld (.padd (Va 0) 1) 0 .str] [.cell .bool] (.call (some (.o2 .band (.o1 .not x0) (Va 1))) (.fn 115) [.fld (.padd (Va 0) 1) 0 .str,.str [48]] [.cell .bool] (.ret [.d (.ite x0 (.bool true) (.ite (Va 1) (.o1 .not (Va 2)) (.bool false)))]))
theorem ZeL:fnO Tryz.prog mdA 114 [.cell (.ptr [.str,.str,.bool])]=t114:=by kernel_rfl
theorem c114:J2 Tryz.prog 114=true:=by kernel_rfl
noncomputable def t116:R:=let x1:T:=.fld (.padd (Va 0) 0) 0 .str;let x0:T:=.o1 .len x1;.fact (.o2 .le x0 (Vn 140737488355328)) (.need (.ite (.o1 .not (.o2 .eq x0 (Vn 1))) (.o2 .lt (Vn 0) x0) (.bool true)) (.ret [.d (.ite (.o2 .eq x0 (Vn 1)) (.bool true) (.o2 .ne (.o2 .sidx x1 (Vn 0)) (.int .u8 48)))]))
theorem ZeJ:fnO Tryz.prog mdA 116 [.cell (.ptr [.str,.str,.bool])]=t116:=by kernel_rfl
theorem c116:J2 Tryz.prog 116=true:=by kernel_rfl
noncomputable def t51:R:=let x1:T:=Vl (.ptr (Vl (Va 1) (Vl (Va 2) (Vl (Va 3) .lnil)))) .lnil;let x2:T:=.o2 .eq (Va 0) (.str [48]);let x3:T:=.o2 .gt (.o1 .len (Va 1)) (Vn 4);let x0:T:=.push (.push (.push .nils (Vl (.clo 112 x1) .lnil)) (Vl (.clo 114 x1) .lnil)) (Vl (.clo 116 x1) .lnil);.call none (.fn 111) [Va 0,.str [46]] [.cell .str,.cell .str,.cell .bool] (.fact (.o2 .le (.o1 .len x0) (Vn 140737488355328)) (.loop 0 [Vn 0] [.int .i64] (.ite (.o2 .lt (Va 4) (.o1 .len x0)) (.need (.o2 .le (Vn 0) (Va 4)) (.call none (.val (.idx x0 (Va 4) 0 .fn)) [] [.cell .bool] (.ite (.o1 .not (Va 5)) (.ret [.d (Vn 3)]) (.again 0 [.o2 (.add .i64) (Va 4) (Vn 1)])))) (.fact (.ite (.o1 .not x2) (.o2 .le (.o1 .len (Va 1)) (Vn 140737488355328)) (.bool true)) (.fact (.ite (.o1 .not (.ite x2 (.bool true) x3)) (.o2 .le (.o1 .len (Va 2)) (Vn 140737488355328)) (.bool true)) (.ite (.ite (.ite x2 (.bool true) x3) (.bool true) (.o2 .gt (.o1 .len (Va 2)) (Vn 3))) (.ret [.d (Vn 2)]) (.ret [.d (Vn 0)])))))))
theorem Zgr:fnO Tryz.prog mdA 51 [.cell .str]=t51:=by kernel_rfl
noncomputable def t256:R:=let x0:T:=.o2 .scat (Va 2) (.str [48,48,48]);let x1:T:=.sub x0 (Vn 0) (Vn 3);.call none (.fn 111) [Va 0,.str [46]] [.cell .str,.cell .str,.cell .bool] (.need (.o2 .le (.o1 .len x0) (Vn 140737488355328)) (.need (.o2 .le (Vn 3) (.o1 .len x0)) (.need (.o2 .le (.o1 .len (.o2 .scat (Va 1) x1)) (Vn 140737488355328)) (.call none (.fn 268) [.o2 .scat (Va 1) x1] [.cell (.int .i64),.any] (.ret [.d (Va 4)])))))
theorem Zdm:fnO Tryz.prog mdA 256 [.cell .str]=t256:=by kernel_rfl
noncomputable def t228:R:=.call none (.fn 51) [Va 0] [.cell (.int .i64)] (.ite (.o2 .ne (Va 1) (Vn 0)) (.ret [.d (Vn 0),.d (Va 1)]) (.call none (.fn 256) [Va 0] [.cell (.int .i64)] (.ret [.d (Va 2),.d (Vn 0)])))
theorem Zdo:fnO Tryz.prog mdA 228 [.cell .str]=t228:=by kernel_rfl
noncomputable def t213:R:=.call none (.fn 228) [Va 0] [.cell (.int .i64),.cell (.int .i64)] (.ite (.o2 .ne (Va 3) (Vn 0)) (.ret [.d (Vn 0),.d (Vn 0),.d (Va 3)]) (.call none (.fn 228) [Va 1] [.cell (.int .i64),.cell (.int .i64)] (.ite (.o2 .ne (Va 5) (Vn 0)) (.ret [.d (Vn 0),.d (Vn 0),.d (Va 5)]) (.ret [.d (Va 2),.d (Va 4),.d (Vn 0)]))))
theorem Zdu:fnO Tryz.prog mdA 213 [.cell .str,.cell .str]=t213:=by kernel_rfl
noncomputable def t168:R:=.call none (.fn 213) [Va 0,Va 1] [.cell (.int .i64),.cell (.int .i64),.cell (.int .i64)] (.ite (.o2 .lt (Va 2) (Va 3)) (.ret [.d (Vn (-1)),.d (Va 4)]) (.ite (.o2 .gt (Va 2) (Va 3)) (.ret [.d (Vn 1),.d (Va 4)]) (.ret [.d (Vn 0),.d (Va 4)])))
theorem Ze3:fnO Tryz.prog mdA 168 [.cell .str,.cell .str]=t168:=by kernel_rfl
noncomputable def t92:R:=.call none (.fn 168) [Va 0,Va 1] [.cell (.int .i64),.cell (.int .i64)] (.ret [.d (Va 2)])
theorem ZfR:fnO Tryz.prog mdA 92 [.cell .str,.cell .str]=t92:=by kernel_rfl
def Z1R (x:Nat):Bool:=decide (x < 48)||decide (57 < x)
theorem Z7t:Contract Tryz.prog 188 fun args K=>∃x:Nat,x≤1114111∧args=[.int .i32 x]∧K [.d (.bool (Z1R x))]:=by
 refine .of c188 ZdP ?_;rintro _ K ⟨x,hx,rfl,hK⟩ hsm;refine⟨[.int .i32 x],rfl,by simp [Y1,PK.kinds,HasKs,HasK,IntKind.min,IntKind.max,IntKind.signed,IntKind.bits];omega,?_⟩;simp only [zz,reduceCtorEq,t188];have e:(if(x:Int) < 48 then true else decide (57 < (x:Int)))=Z1R x:=by
   rw [Bool.eq_iff_iff];simp [Z1R];omega
 grind [Z1R]
theorem J4 {P:Program} {f:FuncId} {args:List D} (rks:List (Option RK)) (h:(P.funcs[f]?).map (fun fn=>fn.params.toList.map (rkOf P))=some rks) (ha:∀(i:Nat) rk d,rks[i]? =some (some rk)→args[i]? =some d→HasK rk.kind d):Zr P f args:=by
 intro fn hfn;rw [hfn]at h;simp only [Option.map_some,Option.some.injEq]at h;subst h;have key:∀(tys:List TypeId) (args:List D),(∀(i:Nat) rk d,(tys.map (rkOf P))[i]? =some (some rk)→args[i]? =some d→HasK rk.kind d)→YM P tys args:=by
   intro tys;induction tys with
   |nil=>intro args _;cases args <;> simp [YM]
   | cons t tys ih=>
     intro args h;cases args with
     |nil=>simp [YM]
     | cons d args=>
       refine⟨fun rk hrk=>h 0 rk d (by simp [hrk]) rfl,ih args fun i rk d a b=>h (i+1) rk d (by simpa using a) (by simpa using b)⟩
 exact key _ _ ha
theorem Z9a:Says Tryz.prog (.clo 188 []) Z1R:=by
 refine⟨fun as_ K=>∃x:Nat,x≤1114111∧as_=[.int .i32 x]∧K [.d (.bool (Z1R x))],⟨c188,_,Z7t,?_⟩,fun x hx=>⟨x,hx,rfl,rfl⟩⟩;rintro _ K ⟨x,hx,rfl,hK⟩;refine⟨⟨x,hx,by simp,hK⟩,J4 [some (.cell (.int .i32))] (by kernel_rfl) ?_⟩;intro i rk d h1 h2;cases i with
 | zero=>
   simp at h1 h2;subst h1 h2;simp [RK.kind,HasK,IntKind.min,IntKind.max,IntKind.signed,IntKind.bits];omega
 |succ i=>simp at h1
theorem Z6Q (s:List UInt8):decide (0≤Lib.idxFunc Z1R true ⟨s.toArray⟩)=!Za s:=by
 have key:∀(fuel pos:Nat),pos≤s.length→s.length≤pos+fuel→decide (0≤Lib.idxFuncFrom Z1R true ⟨s.toArray⟩ fuel pos)=!Za (s.drop pos):=by
   intro fuel;induction fuel with
   | zero=>
     intro pos h1 h2;have:pos=s.length:=by omega
     subst this;simp [Lib.idxFuncFrom,Za]
   | succ fuel ih=>
     intro pos h1 h2;have hsz:(⟨s.toArray⟩:ByteArray).size=s.length:=by simp [ByteArray.size]
     by_cases hlt:pos < s.length
     · have hlt':pos < (⟨s.toArray⟩:ByteArray).size:=by rw [hsz];exact hlt
       have hget:(⟨s.toArray⟩:ByteArray)[pos]'hlt'=s[pos]:=by
         show(s.toArray)[pos]=s[pos];simp
       simp only [Lib.idxFuncFrom,hlt',if_true];rw [List.drop_eq_getElem_cons hlt];simp only [Za];by_cases hb:(s[pos]).toNat < 128
       · rw [decode_ascii _ pos hlt' (by rw [hget];exact hb),hget];have hd:Z1R (s[pos]).toNat=!Wz s[pos]:=by
           rw [Bool.eq_iff_iff];simp [Z1R,Wz, ←Yi]
         simp only [hd];cases hi:Wz s[pos]with
         |true=>simp only [Bool.not_true,Bool.false_eq_true,if_false,if_true];exact ih (pos+1) (by omega) (by omega)
         |false=>simp
       · have hh:=(decode_high _ pos hlt' (by rw [hget];omega)).1;have hn:Z1R (Utf8.decode ⟨s.toArray⟩ pos).1=true:=by simp [Z1R];omega
         have hi:Wz s[pos]=false:=by simp [Wz, ←Yi];omega
         simp [hn,hi]
     · have:pos=s.length:=by omega
       subst this;simp [Lib.idxFuncFrom,hsz,Za]
 have:=key s.length 0 (Nat.zero_le _) (by omega);simpa [Lib.idxFunc,ByteArray.size]using this
theorem Z2v:Contract Tryz.prog 113 fun args K=>∃s,args=[.str s]∧K [.d (.bool (Zc s))]:=by
 refine .of (by kernel_rfl) ZeM ?_;rintro _ K ⟨s,rfl,hK⟩ hsm;refine⟨[.str s],rfl,by simp [Y1,PK.kinds,HasKs,HasK],?_⟩;refine Z5 Z3P (s !=[]) [.bool (if s !=[]then !Za s else false)] ?_ (fun h=>⟨s,188,[],Z1R,rfl,Z9a,?_⟩) (fun h=>by rw [h];rfl) ?_
 · simp only [zz,reduceCtorEq];rfl
 · rw [Z6Q,h];rfl
 · simp only [zz,reduceCtorEq];cases s with
   |nil=>simpa [Zc]using hK
   |cons c s=>simpa [Zc]using hK
abbrev txt (w r:List UInt8) (p:Bool):D:=.ptr [.str w,.str r,.bool p]
theorem Zcs:Contract Tryz.prog 112 fun args K=>∃w r p,args=[txt w r p]∧K [.d (.bool (Zc w))]:=by
 refine .of c112 ZeN ?_;rintro _ K ⟨w,r,p,rfl,hK⟩ hsm;refine⟨[txt w r p],rfl,by simp [Y1,PK.kinds,HasKs,HasK],?_⟩;refine Z0 Z2v ⟨w,rfl,_,rfl,?_⟩;simp only [zz,reduceCtorEq];exact hK
def Z7I (r:List UInt8) (p:Bool):Bool:=!p||(Zc r&&!(decide (1≤r.length)&&r.drop (r.length - 1)==[48]))
theorem Zcr:Contract Tryz.prog 114 fun args K=>∃w r p,args=[txt w r p]∧K [.d (.bool (Z7I r p))]:=by
 refine .of c114 ZeL ?_;rintro _ K ⟨w,r,p,rfl,hK⟩ hsm;refine⟨[txt w r p],rfl,by simp [Y1,PK.kinds,HasKs,HasK],?_⟩;refine Z5 Z2v p [.bool (p&&Zc r)] ?_ (fun h=>⟨r,rfl,by rw [h];rfl⟩) (fun h=>by rw [h];rfl) ?_
 · simp only [zz,reduceCtorEq];cases p <;> rfl
 · refine Z5 Z9Z (p&&Zc r) [.bool ((p&&Zc r)&&(decide (1≤r.length)&&r.drop (r.length - 1)==[48]))] ?_ (fun h=>⟨r,[48],rfl,by rw [h];rfl⟩) (fun h=>by rw [h];rfl) ?_
   · simp only [zz,reduceCtorEq];cases p <;> cases Zc r <;> rfl
   · simp only [zz,reduceCtorEq];have e:Z7I r p=(decide (p=false)||decide (p=true∧Zc r=true)&&!(p&&Zc r&&(decide (1≤r.length)&&List.drop (r.length - 1) r==[48]))):=by
       cases p <;> cases hd:Zc r <;> simp [Z7I,hd]
     rw [←e];exact hK
def Z7H (w:List UInt8):Bool:=w.length==1||at8 w 0 !=48
theorem Zcq:Contract Tryz.prog 116 fun args K=>∃w r p,args=[txt w r p]∧0 < w.length∧K [.d (.bool (Z7H w))]:=by
 refine .of c116 ZeJ ?_;rintro _ K ⟨w,r,p,rfl,h0,hK⟩ hsm;refine⟨[txt w r p],rfl,by simp [Y1,PK.kinds,HasKs,HasK],?_⟩;simp only [zz,reduceCtorEq,t116];have e:Z7H w=(decide ((w.length:Int)=1)||!decide ((at8 w 0:Int)=48)):=by
   rw [Bool.eq_iff_iff];simp [Z7H];omega
 rw [←e];exact fun _=>⟨by simp [h0],hK⟩
theorem FvC.of {P:Program} {f:FuncId} {caps:List D} {s s':Spec} (hcl:J2 P f=true) (hc:Contract P f s') (h:∀as_ K,s as_ K→s' (as_++caps) K∧Zr P f (as_++caps)):FvC P (.clo f caps) s:=⟨hcl,s',hc,h⟩
theorem Z7 {P:Program} {F:Option Nat→List RV→Prop} {t:T} {s:Spec} {args:List T} {res:List RK} {r:R} {ags:Ags} {ρ:List D} (hc:FvC P (den ρ t) s) (h:s (args.map (den ρ)) fun rvs=>∃rs,RV.all res rvs=some rs∧HasKs (RK.all res) rs∧denR P F noK r ags (ρ++rs)):
   denR P F noK (.call none (.val t) args res r) ags ρ:=⟨s,hc,h⟩
def allB:List Bool→Bool
 | []=>true
 |b::bs=>if b then allB bs else false
def Z5O (s:List UInt8):Int:=
 if !allB [Zc (split s).1,Z7I (split s).2.1 (split s).2.2,Z7H (split s).1]then 3
 else if s==[48]||decide (4 < (split s).1.length)||decide (3 < (split s).2.1.length)then 2 else 0
theorem check150_ok:Contract Tryz.prog 51 fun args K=>∃s,args=[.str s]∧K [.d (.int .i64 (Z5O s))]:=by
 refine .of (by kernel_rfl) Zgr ?_;rintro _ K ⟨s,rfl,hK⟩ hsm;refine⟨[.str s],rfl,by simp [Y1,PK.kinds,HasKs,HasK],?_⟩;refine Z0 Zda ⟨s,rfl,_,rfl,?_⟩;simp only [Z5O]at hK;generalize (split s).1=w at *;generalize (split s).2.1=r at *;generalize (split s).2.2=p at *;have f1:FvC Tryz.prog (.clo 112 [txt w r p]) fun as_ K=>as_=[]∧K [.d (.bool (Zc w))]:=FvC.of c112 Zcs (by
   rintro _ K ⟨rfl,hK⟩;exact⟨⟨w,r,p,rfl,hK⟩,J4 [] (by kernel_rfl) (by simp)⟩)
 have f2:FvC Tryz.prog (.clo 114 [txt w r p]) fun as_ K=>as_=[]∧K [.d (.bool (Z7I r p))]:=FvC.of c114 Zcr (by
   rintro _ K ⟨rfl,hK⟩;exact⟨⟨w,r,p,rfl,hK⟩,J4 [] (by kernel_rfl) (by simp)⟩)
 have f3:0 < w.length→FvC Tryz.prog (.clo 116 [txt w r p]) fun as_ K=>as_=[]∧K [.d (.bool (Z7H w))]:=fun h0=>FvC.of c116 Zcq (by
   rintro _ K ⟨rfl,hK⟩;exact⟨⟨w,r,p,rfl,h0,hK⟩,J4 [] (by kernel_rfl) (by simp)⟩)
 have hd:Zc w=true→0 < w.length:=by simp [Zc]
 simp only [zz,reduceCtorEq];intro _;refine Jb [Zc w,Z7I r p,Z7H w] (fun i l (_:Unit)=>if Zc w=false∧1≤i then none else some (allB l)) (fun i _=>[.int .i64 i]) () _ rfl 0 (fun _ _=>rfl) rfl ?_ ?_
 · intro i hi _ hgo;simp only [zz,reduceCtorEq];simp only [List.length_cons,List.length_nil]at hi ⊢
   match i,hi with
   | 0,_=>
     refine⟨fun _=>⟨by simp,Z7 f1 ⟨rfl,_,rfl,by simp [RK.all,RK.kinds,HasKs,HasK],?_⟩⟩,fun h=>by simp at h⟩;simp only [zz,reduceCtorEq];simp [allB]at hgo hK ⊢;clear f1 f2 f3;grind [Z1]
   | 1,_=>
     refine⟨fun _=>⟨by simp,Z7 f2 ⟨rfl,_,rfl,by simp [RK.all,RK.kinds,HasKs,HasK],?_⟩⟩,fun h=>by simp at h⟩;simp only [zz,reduceCtorEq];simp [allB]at hgo hK ⊢;clear f1 f2 f3;grind [Z1]
   | 2,_=>
     simp [allB]at hgo;refine⟨fun _=>⟨by simp,Z7 (f3 (hd (by grind))) ⟨rfl,_,rfl,by simp [RK.all,RK.kinds,HasKs,HasK],?_⟩⟩,fun h=>by simp at h⟩;simp only [zz,reduceCtorEq];simp [allB]at hgo hK ⊢;clear f1 f2 f3;grind [Z1]
 · intro _ hgo;simp only [zz,reduceCtorEq];simp only [List.length_cons,List.length_nil]at hgo ⊢;simp [allB]at hgo hK ⊢;clear f1 f2 f3;grind [Z1]
theorem Z2G (w:World) (e:TypeId) (t:ByteArray):BelowD w.heap.size w (Go.Lib.bytesWorld w e t):=by
 have hfr:∀(w1:World) (a:Addr) (n:Nat),(w1.freeze a n).os=w1.os∧(w1.freeze a n).tape=w1.tape∧(w1.freeze a n).output=w1.output∧(w1.freeze a n).heap.size=w1.heap.size∧(w1.freeze a n).drawn=w1.drawn:=by
   intro w1 a n;unfold World.freeze;split <;> simp
 obtain⟨q1,q2,q3,q4,q5⟩:=hfr (w.drew.alloc (.cells (Go.Lib.bytesCells w e t) e)) ⟨w.heap.size,(Go.Lib.bytesCells w e t).size,none⟩ 1;refine⟨⟨q1,q2,q3,?_,fun k hk=>Go.Lib.bytesWorld_at_old w e _ k hk⟩,?_⟩
 · show w.heap.size≤((w.drew.alloc (.cells (Go.Lib.bytesCells w e t) e)).freeze _ 1).heap.size;rw [q4];simp [show(w.drew.alloc (Obj.cells (Go.Lib.bytesCells w e t) e)).heap=w.heap.push (.cells (Go.Lib.bytesCells w e t) e)from rfl]
 · show w.drawn≤((w.drew.alloc (.cells (Go.Lib.bytesCells w e t) e)).freeze _ 1).drawn;rw [q5];exact Nat.le_succ _
theorem ZfG:Contract Tryz.prog 268 fun args K=>∃(s:List UInt8) (n:Int),args=[.str s]∧s.length≤18∧Lib.atoi s=some n∧ -9223372036854775808≤n∧n≤9223372036854775807∧K [.d (.int .i64 n),.any]:=by
 refine⟨by kernel_rfl,?_⟩;rintro _ K ⟨s,n,rfl,hl,ha,n1,n2,hK⟩ _ w m vs hm hsz hrep;obtain⟨x,rfl,hx⟩:∃x,vs= #[x]∧RepD m (.str s) x:=by
   match vs,hsz with
   |⟨[x]⟩,_=>exact⟨x,rfl,hrep 0 _ _ rfl rfl⟩
 obtain⟨rfl,_⟩:=hx.str_inv;refine(Tryz.strconv_Atoi ⟨s.toArray⟩ n (by simpa [ByteArray.size]using hl) (by simpa using ha) w).mono ?_;rintro e w' ⟨rfl,t,rfl⟩;have hb:=Z2G w 5 t;refine⟨[.d (.int .i64 n),.any],_,m,hK,WT (rk:=[.cell (.int .i64),.any]) (by kernel_rfl) rfl ?_,rfl,⟨[.int .i64 n,.nilIface],rfl,rfl,?_,?_⟩,Mem.le_refl m,Z0K hm hb,fun _ _=>rfl,hb⟩
 · simp only [RK.all,RK.kinds,List.map_cons,List.map_nil,List.flatten_cons,List.flatten_nil,List.append_nil,HasKs,HasK,and_true,true_and];simp only [IntKind.min,IntKind.max,IntKind.signed,IntKind.bits];constructor <;> (simp;omega)
 · intro i r u h1 h2
   match i with
   |0=>simp at h1 h2;subst h1 h2;exact .d (.int _ _)
   |1=>simp at h1 h2;subst h1 h2;exact .any
   |i+2=>simp at h1
 · intro i j r r' u u' b _ h1 _ _ _ ho
   match i with
   |0=>simp at h1;subst h1;cases ho
   |1=>simp at h1;subst h1;cases ho
   |i+2=>simp at h1
@[irreducible] def dig (a:Nat) (c:UInt8):Nat:=a * 10+(byt c - 48)
theorem Z0z (a:Nat) (c:UInt8):dig a c=a * 10+(byt c - 48):=by unfold dig;rfl
def dv (a:Nat):List UInt8→Nat
 | []=>a
 |c::cs=>dv (dig a c) cs
theorem Z6Z {c:UInt8} (h:Wz c=true):Lib.digitVal c=some (byt c - 48):=by
 simp only [Wz, ←Yi,Bool.and_eq_true,decide_eq_true_eq]at h;unfold Lib.digitVal;rw [if_pos h,Yi]
theorem Z4Z:∀(l:List UInt8) (a:Nat),Za l=true→Lib.decFrom a l=some (dv a l)
 | [],a,_=>rfl
 | c ::cs,a,h=>by
   simp only [Za]at h;split at h
   · rename_i hc;simp only [Lib.decFrom,Z6Z hc,dv, ←Z0z];exact Z4Z cs _ h
   · cases h
theorem Yr {n:Nat} {c:UInt8} (hn:n < 100000000000) (h:Wz c=true):Z1D n (byt c)=((dig n c:Nat):Int):=by
 rw [Z0z];simp [Wz]at h;have e1:wr8 ((byt c:Int) - 48)=((byt c - 48:Nat):Int):=by rw [ZfK] <;> omega
 have e2:wr64 (10 * (n:Int))=10 * (n:Int):=by rw [Z1];omega
 unfold Z1D;rw [e1,e2,Z1 (n:=((byt c - 48:Nat):Int)) (by omega),Z1] <;> omega
theorem Z7d:∀(l:List UInt8) (n k:Nat),Za l=true→n < 10 ^ k→k+l.length≤10→val1 l n=(dv n l:Int)∧dv n l < 10 ^ (k+l.length)
 | [],n,k,_,hn,_=>⟨rfl,by simpa [dv]using hn⟩
 | c ::cs,n,k,h,hn,hk=>by
   simp only [Za]at h;split at h
   · rename_i hc;simp only [List.length_cons]at hk;have h10:10 ^ k≤10 ^ 10:=Nat.pow_le_pow_right (by omega) (by omega);have hlt:dig n c < 10 ^ (k+1):=by
       simp [Wz]at hc;rw [Nat.pow_succ,Z0z];omega
     obtain⟨e1,e2⟩:=Z7d cs (dig n c) (k+1) h hlt (by omega);simp only [val1,dv,List.length_cons];rw [Yr (by omega) hc];exact⟨e1,by rw [show k+(cs.length+1)=k+1+cs.length by omega];exact e2⟩
   · cases h
theorem Yw:∀(a b:List UInt8),Za (a++b)=(Za a&&Za b)
 | [],b=>by simp [Za]
 | c::cs,b=>by
   simp only [List.cons_append,Za,Yw cs b];split <;> simp
theorem Z6X:∀(a b:List UInt8) (n:Nat),dv n (a++b)=dv (dv n a) b
 | [],b,n=>rfl
 |c::cs,b,n=>by simp only [List.cons_append,dv,Z6X cs b]
theorem Z0N:Wz 48=true:=by simp [Wz, ←Yi]
def Jo (r:List UInt8):List UInt8:=(r++[48,48,48]).take 3
theorem Z0m {r:List UInt8} (h:Za r=true):Za (Jo r)=true:=by
 match r,h with
 | [],_=>simp [Jo,Za,Z0N]
 | [a],h=>simp [Jo,Za,Z0N]at h ⊢;exact h
 | [a,b],h=>simp [Jo,Za,Z0N]at h ⊢;exact h
 |a::b::c::l,h=>simp [Jo,Za,Z0N]at h ⊢;grind
theorem Zdi {r:List UInt8} (h:Za r=true) (hl:r.length≤3) {n:Nat} (hn:n < 10000):val2 r (List.range 3) n=(dv n (Jo r):Int):=by
 have z:∀ {m:Nat},m < 100000000000→wr64 (10 * (m:Int))=(dig m 48:Int):=fun h=>by
   have:byt 48=48:=by rw [←Yi];rfl
   rw [Z1 (by omega),Z0z,this];simp;omega
 have b9:∀ {m:Nat} {c:UInt8},Wz c=true→dig m c≤m * 10+9:=fun h=>by rw [Z0z];simp [Wz]at h;omega
 have r3:List.range 3=[0,1,2]:=rfl;rw [r3]
 match r,h,hl with
 | [],_,_=>
   simp only [val2,List.length_nil,Nat.not_lt_zero,if_false,Jo,List.nil_append,List.take,dv];have h1:=b9 (m:=n) Z0N;have h2:=b9 (m:=dig n 48) Z0N;rw [z (by omega),z (by omega),z (by omega)]
 | [a],h,_=>
   have ha:Wz a=true:=by simp only [Za]at h;split at h <;> simp_all
   have e0:at8 [a] 0=byt a:=WR (by simp);simp only [val2,List.length_cons,List.length_nil,Nat.zero_add,Nat.lt_irrefl,Nat.zero_lt_one,Nat.not_lt.2 (show 1≤2 by omega),if_false,if_true,Jo,List.nil_append,List.cons_append,List.take,dv,e0];have h1:=b9 (m:=n) ha;have h2:=b9 (m:=dig n a) Z0N;rw [Yr (by omega) ha,z (by omega),z (by omega)]
 | [a,b],h,_=>
   have ha:Wz a=true∧Wz b=true:=by simp only [Za]at h;split at h <;> (try split at h) <;> simp_all
   have e0:at8 [a,b] 0=byt a:=WR (by simp);have e1:at8 [a,b] 1=byt b:=WR (by simp);simp only [val2,List.length_cons,List.length_nil,Nat.zero_add,Nat.lt_irrefl,show(0 < 1+1)=True by simp,show(1 < 1+1)=True by simp,show(2 < 1+1)=False by simp,if_false,if_true,Jo,List.nil_append,List.cons_append,List.take,dv,e0,e1];have h1:=b9 (m:=n) ha.1;have h2:=b9 (m:=dig n a) ha.2;rw [Yr (by omega) ha.1,Yr (by omega) ha.2,z (by omega)]
 | [a,b,c],h,_=>
   have ha:Wz a=true∧Wz b=true∧Wz c=true:=by simp only [Za]at h;split at h <;> (try split at h) <;> (try split at h) <;> simp_all
   have e0:at8 [a,b,c] 0=byt a:=WR (by simp);have e1:at8 [a,b,c] 1=byt b:=WR (by simp);have e2:at8 [a,b,c] 2=byt c:=WR (by simp);simp only [val2,List.length_cons,List.length_nil,Nat.zero_add,Nat.lt_irrefl,show(0 < 1+1+1)=True by simp,show(1 < 1+1+1)=True by simp,show(2 < 1+1+1)=True by simp,if_false,if_true,Jo,List.nil_append,List.cons_append,List.take,dv,e0,e1,e2];have h1:=b9 (m:=n) ha.1;have h2:=b9 (m:=dig n a) ha.2.1;rw [Yr (by omega) ha.1,Yr (by omega) ha.2.1,Yr (by omega) ha.2.2]
structure Right (s:List UInt8):Prop where
 w:Zc (split s).1=true
 r:Za (split s).2.1=true
 lw:(split s).1.length≤4
 lr:(split s).2.1.length≤3
theorem Z8h {s:List UInt8} (h:Z4 s=0):Right s:=by
 have h0:Za []=true:=rfl;have hs:(split s).2.2=false→(split s).2.1=[]:=by
   simp only [split];split <;> simp
 simp only [Z4]at h;split at h
 · cases h
 · rename_i h1;split at h
   · cases h
   · split at h
     · cases h
     · rename_i h3;simp only [Bool.or_eq_true,Bool.and_eq_true,Bool.not_eq_true',not_or,not_and,Bool.not_eq_false,decide_eq_true_eq]at h1 h3;refine⟨h1.1,?_,by omega,by omega⟩;cases hp:(split s).2.2 with
       |false=>rw [hs hp];rfl
       |true=>have:=h1.2 hp;simp only [Zc,Bool.and_eq_true]at this;exact this.1
theorem Z1C {s:List UInt8} (h:Right s):Zg s=(dv 0 ((split s).1++Jo (split s).2.1):Int):=by
 have hw:=h.w;simp only [Zc,Bool.and_eq_true]at hw;obtain⟨e1,e2⟩:=Z7d (split s).1 0 0 hw.1 (by simp) (by have:=h.lw;omega);have h10:10 ^ (0+(split s).1.length)≤10 ^ 4:=Nat.pow_le_pow_right (by omega) (by have:=h.lw;omega);simp only [Zg];rw [show(0:Int)=((0:Nat):Int)from rfl,e1,Zdi h.r h.lr (by omega),Z6X]
theorem Z13 (r:List UInt8):(Jo r).length=3:=by simp [Jo]
theorem dv_lt {s:List UInt8} (h:Right s):dv 0 ((split s).1++Jo (split s).2.1) < 10 ^ 7:=by
 have hw:=h.w;simp only [Zc,Bool.and_eq_true]at hw;have hd:Za ((split s).1++Jo (split s).2.1)=true:=by rw [Yw,hw.1,Z0m h.r];rfl
 have hlen:((split s).1++Jo (split s).2.1).length≤7:=by have:=h.lw;rw [List.length_append,Z13];omega
 have:=(Z7d ((split s).1++Jo (split s).2.1) 0 0 hd (by simp) (by omega)).2;exact Nat.lt_of_lt_of_le this (Nat.pow_le_pow_right (by omega) (by omega))
theorem ZbC {l:List UInt8} (h:Za l=true) (h0:0 < l.length):Lib.atoi l=some (dv 0 l:Int):=by
 match l,h,h0 with
 | c ::cs,h,_=>
   have hc:Wz c=true:=by simp only [Za]at h;split at h <;> simp_all
   have hn:(c==45)=false∧(c==43)=false:=by
     simp only [Wz, ←Yi,Bool.and_eq_true,decide_eq_true_eq]at hc;constructor <;> (rw [beq_eq_false_iff_ne];rintro rfl;simp at hc)
   simp only [Lib.atoi,hn.1,hn.2,Bool.false_eq_true,if_false,Lib.decNat,List.isEmpty_cons,Z4Z _ 0 h];rfl
theorem Z7c:Contract Tryz.prog 256 fun args K=>∃s,args=[.str s]∧Right s∧K [.d (.int .i64 (Zg s))]:=by
 refine .of (by kernel_rfl) Zdm ?_;rintro _ K ⟨s,rfl,hr,hK⟩ hsm;refine⟨[.str s],rfl,by simp [Y1,PK.kinds,HasKs,HasK],?_⟩;refine Z0 Zda ⟨s,rfl,_,rfl,?_⟩;have hw:=hr.w;simp only [Zc,Bool.and_eq_true,decide_eq_true_eq]at hw;have hlw:=hr.lw;have hlr:=hr.lr;have hlt:=dv_lt hr;rw [Z1C hr]at hK;have hd:Za ((split s).1++Jo (split s).2.1)=true:=by rw [Yw,hw.1,Z0m hr.r];rfl
 have hat:=ZbC hd (by rw [List.length_append];omega);have hlen:((split s).1++Jo (split s).2.1).length≤7:=by rw [List.length_append,Z13];omega
 generalize (split s).1=w at *;generalize (split s).2.1=r at *;simp only [zz,reduceCtorEq];have e:((r++[48,48,48]).take (Int.toNat 3)).drop (Int.toNat 0)=Jo r:=rfl;refine⟨by simp only [List.length_append,List.length_cons,List.length_nil];omega,by simp only [List.length_append,List.length_cons,List.length_nil];omega,?_,?_⟩
 · have e':List.take (Int.toNat 3) (r++[48,48,48])=Jo r:=rfl;rw [e'];omega
 · refine Z0 ZfG ⟨w++Jo r,_,rfl,by omega,hat,by omega,by omega,_,rfl,?_⟩;simp only [zz,reduceCtorEq];exact hK
theorem Zbq (s:List UInt8):Z5O s=Z4 s:=by
 have hs:(split s).2.2=false→(split s).2.1=[]:=by
   simp only [split];split <;> simp
 simp only [Z5O,Z4];generalize (s==[48])=z;have hd:∀x,Zc x=true→0 < x.length:=fun x h=>by simp [Zc]at h;omega
 have hd1:=hd (split s).1;have hd2:=hd (split s).2.1;generalize (split s).1=w at *;generalize (split s).2.1=r at *;generalize (split s).2.2=p at *;have hlast:0 < r.length→(r.drop (r.length - 1)==[48])=(at8 r (r.length - 1)==48):=by
   intro h0;rw [List.drop_eq_getElem_cons (by omega),WR (by omega),show r.length - 1+1=r.length by omega,List.drop_length];rw [Bool.eq_iff_iff];simp only [beq_iff_eq,List.cons.injEq,and_true, ←Yi];constructor
   · intro h;rw [h];rfl
   · intro h;exact UInt8.toNat_inj.1 h
 simp only [allB,Z7I,Z7H];cases hw:Zc w with
 |false=>simp
 | true=>
   have h1:=hd1 hw;cases p with
   | false=>
     simp only [Bool.not_false,Bool.true_or,Bool.false_and,Bool.or_false,if_true,Bool.not_true,Bool.false_or];by_cases h3:w.length=1
     · simp [h3]
     · have:decide (1 < w.length)=true:=by simp;omega
       simp only [this,Bool.true_and];cases h4:(at8 w 0==48) <;> simp [h3,h4,bne]
   | true=>
     rcases Bool.eq_false_or_eq_true (Zc r)with hr|hr
     rotate_left
     · simp [hr]
     · have h2:=hd2 hr;simp only [hr,hlast h2,Bool.not_true,Bool.false_or,Bool.true_and,show decide (1≤r.length)=true by simp;omega,if_true];by_cases h3:w.length=1
       · cases (at8 r (r.length - 1)==48) <;> simp [h3]
       · have:decide (1 < w.length)=true:=by simp;omega
         simp only [this,Bool.true_and];cases h4:(at8 w 0==48) <;> cases (at8 r (r.length - 1)==48) <;> simp [h3,h4,bne]
theorem Z02:Contract Tryz.prog 51 fun args K=>∃s,args=[.str s]∧K [.d (.int .i64 (Z4 s))]:=
 check150_ok.weaken fun args K _ ⟨s,h1,h2⟩=>⟨s,h1,by rw [Zbq];exact h2⟩
def thou (s:List UInt8):Int×Int:=if Z4 s≠0 then(0,Z4 s)else(Zg s,0)
theorem Z9Q:Contract Tryz.prog 228 fun args K=>∃s,args=[.str s]∧K [.d (.int .i64 (thou s).1),.d (.int .i64 (thou s).2)]:=by
 refine .of (by kernel_rfl) Zdo ?_;rintro _ K ⟨s,rfl,hK⟩ hsm;refine⟨[.str s],rfl,by simp [Y1,PK.kinds,HasKs,HasK],?_⟩;refine Z0 Z02 ⟨s,rfl,_,rfl,?_⟩;simp only [zz,reduceCtorEq];simp only [thou]at hK;refine⟨fun h=>?_,fun h=>?_⟩
 · rw [if_pos (by simpa using h)]at hK;exact hK
 · have h:Z4 s=0:=by simpa using h
   rw [if_neg (by simpa using h)]at hK;refine Z0 Z7c ⟨s,rfl,Z8h h,_,rfl,?_⟩;simp only [zz,reduceCtorEq];exact hK
def vals (a b:List UInt8):Int×Int×Int:=if Z4 a≠0 then(0,0,Z4 a)else if Z4 b≠0 then(0,0,Z4 b)else(Zg a,Zg b,0)
theorem Zdh:Contract Tryz.prog 213 fun args K=>∃a b,args=[.str a,.str b]∧K [.d (.int .i64 (vals a b).1),.d (.int .i64 (vals a b).2.1),.d (.int .i64 (vals a b).2.2)]:=by
 refine .of (by kernel_rfl) Zdu ?_;rintro _ K ⟨a,b,rfl,hK⟩ hsm;refine⟨[.str a,.str b],rfl,by simp [Y1,PK.kinds,HasKs,HasK],?_⟩;refine Z0 Z9Q ⟨a,rfl,_,rfl,?_⟩;simp only [vals]at hK;simp only [zz,reduceCtorEq];simp only [thou];by_cases ha:Z4 a=0
 · simp only [ha,ne_eq,not_true_eq_false,if_false]at hK ⊢;refine⟨fun h=>by simp at h,fun _=>?_⟩;refine Z0 Z9Q ⟨b,rfl,_,rfl,?_⟩;simp only [zz,reduceCtorEq];simp only [thou];by_cases hb:Z4 b=0
   · simp only [hb,ne_eq,not_true_eq_false,if_false]at hK ⊢;exact⟨fun h=>by simp at h,fun _=>hK⟩
   · simp only [hb,ne_eq,not_false_eq_true,if_true]at hK ⊢;exact⟨fun _=>hK,fun h=>by simp [hb]at h⟩
 · simp only [ha,ne_eq,not_false_eq_true,if_true]at hK ⊢;exact⟨fun _=>hK,fun h=>by simp [ha]at h⟩
def comp (a b:List UInt8):Int:=if(vals a b).1 < (vals a b).2.1 then -1 else if(vals a b).2.1 < (vals a b).1 then 1 else 0
theorem Zfy:Contract Tryz.prog 168 fun args K=>∃a b,args=[.str a,.str b]∧K [.d (.int .i64 (comp a b)),.d (.int .i64 (vals a b).2.2)]:=by
 refine .of (by kernel_rfl) Ze3 ?_;rintro _ K ⟨a,b,rfl,hK⟩ hsm;refine⟨[.str a,.str b],rfl,by simp [Y1,PK.kinds,HasKs,HasK],?_⟩;refine Z0 Zdh ⟨a,b,rfl,_,rfl,?_⟩;simp only [zz,reduceCtorEq];simp only [comp]at hK;grind
theorem Z1X:Contract Tryz.prog 92 fun args K=>∃a b,args=[.str a,.str b]∧K [.d (.int .i64 (comp a b))]:=by
 refine .of (by kernel_rfl) ZfR ?_;rintro _ K ⟨a,b,rfl,hK⟩ hsm;refine⟨[.str a,.str b],rfl,by simp [Y1,PK.kinds,HasKs,HasK],?_⟩;refine Z0 Zfy ⟨a,b,rfl,_,rfl,?_⟩;simp only [zz,reduceCtorEq];exact hK
theorem Z1Y {a b:List UInt8} (ha:Z4 a=0) (hb:Z4 b=0):comp a b=W4 a b:=by simp [comp,vals,ha,hb,W4]
noncomputable def t48:R:=.ite (.ite (.ite (.ite (.o2 .lt (Va 0) (Vn 1)) (.bool true) (.o2 .gt (Va 0) (Vn 999))) (.bool true) (.o2 .lt (Va 1) (Vn 0))) (.bool true) (.o2 .ge (Va 1) (Vn 15))) (.ret [.d (Vn 2)]) (.ret [.d (Vn 0)])
theorem Zgu:fnO Tryz.prog mdA 48 [.agg [.int .i64,.int .i64]]=t48:=by kernel_rfl
noncomputable def t49:R:=let x0:T:=.o2 .eq (Va 0) (Vn 0);.call (some x0) (.fn 110) [Va 1] [.cell .bool] (.ite (.ite (.ite x0 (Va 2) (.bool false)) (.bool true) (.ite (.ite (.ite (.o2 .ge (Va 0) (Vn (-1))) (.o2 .le (Va 0) (Vn 1048576)) (.bool false)) (.o2 .ne (Va 0) (Vn 0)) (.bool false)) (.o2 .eq (Va 1) (Vn 0)) (.bool false))) (.ret [.d (Vn 0)]) (.ret [.d (Vn 2)]))
theorem Zgt:fnO Tryz.prog mdA 49 [.agg [.int .i64,.int .i64]]=t49:=by kernel_rfl
noncomputable def t110:R:=.ret [.d (.ite (.o2 .ge (Va 0) (Vn 0)) (.o2 .le (Va 0) (Vn 65535)) (.bool false))]
theorem ZeP:fnO Tryz.prog mdA 110 [.cell (.int .i64)]=t110:=by kernel_rfl
noncomputable def t50:R:=.ret [.d (.ite (.o2 .lt (Va 0) (Va 2)) (.bool true) (.ite (.o2 .eq (Va 0) (Va 2)) (.o2 .lt (Va 1) (Va 3)) (.bool false)))]
theorem Zgs:fnO Tryz.prog mdA 50 [.agg [.int .i64,.int .i64],.agg [.int .i64,.int .i64]]=t50:=by kernel_rfl
noncomputable def t181:R:=let x0:T:=.o2 .sidx (Va 0) (Va 1);let x1:T:=.o1 .len (Va 0);.fact (.o2 .le x1 (Vn 140737488355328)) (.ite (.o2 .gt x1 (Vn 24)) (.ret [.d (Vn 13)]) (.loop 0 [Vn 0] [.int .i64] (.ite (.o2 .lt (Va 1) x1) (.need (.o2 .le (Vn 0) (Va 1)) (.ite (.ite (.ite (.o2 .lt x0 (.int .u8 32)) (.bool true) (.o2 .gt x0 (.int .u8 126))) (.bool true) (.o2 .eq x0 (.int .u8 34))) (.ret [.d (Vn 3)]) (.again 0 [.o2 (.add .i64) (Va 1) (Vn 1)]))) (.ret [.d (Vn 0)]))))
theorem ZdW:fnO Tryz.prog mdA 181 [.cell .str]=t181:=by kernel_rfl
noncomputable def t219:R:=.ret [.d (.ite (.o2 .ge (Va 0) (Vn 0)) (.o2 .le (Va 0) (Vn 10000000)) (.bool false))]
theorem Zds:fnO Tryz.prog mdA 219 [.cell (.int .i64)]=t219:=by kernel_rfl
noncomputable def t218:R:=.fact (.o2 .le (.o1 .len (Va 0)) (Vn 140737488355328)) (.ret [.d (.o2 .le (.o1 .len (Va 0)) (Vn 300))])
theorem Zdt:fnO Tryz.prog mdA 218 [.cell (.slice mvKs)]=t218:=by kernel_rfl
def I64 (n:Int):Prop:= -9223372036854775808≤n∧n≤9223372036854775807
theorem Y2 {n:Int} (h:I64 n):HasK (.int .i64) (.int .i64 n):=by
 simp only [HasK,IntKind.min,IntKind.max,IntKind.signed,IntKind.bits,true_and];obtain⟨h1,h2⟩:=h;constructor <;> (simp;omega)
theorem Jt {d:D} (h:HasK (.int .i64) d):∃n,d=.int .i64 n∧I64 n:=by
 cases d <;> simp only [HasK]at h
 obtain⟨rfl,h1,h2⟩:=h;refine⟨_,rfl,?_,?_⟩
 · simpa [IntKind.min,IntKind.signed,IntKind.bits]using h1
 · simpa [IntKind.max,IntKind.signed,IntKind.bits]using h2
structure Par where
 ch:Int
 at_:Int
 deriving DecidableEq
structure Val where
 pal:Int
 lev:Int
 deriving DecidableEq
structure Mov where
 pa:Par
 va:Val
 part:Int
 deriving DecidableEq
structure Tim where
 up:Int
 down:Int
 pos:Int
 col:Int
 beam:Int
 delay:Int
 deriving DecidableEq
structure Cue where
 num:List UInt8
 label:List UInt8
 moves:List Mov
 parts:List Tim
 block:Bool
 mark:Bool
 follow:Int
 link:List UInt8
 loops:Int
structure Lis where
 num:Int
 prio:Int
 cues:List Cue
def Par.enc (p:Par):List D:=[.int .i64 p.ch,.int .i64 p.at_]
def Val.enc (v:Val):List D:=[.int .i64 v.pal,.int .i64 v.lev]
def Mov.enc (m:Mov):List D:=[.int .i64 m.pa.ch,.int .i64 m.pa.at_,.int .i64 m.va.pal,.int .i64 m.va.lev,.int .i64 m.part]
def Tim.enc (t:Tim):List D:=[.int .i64 t.up,.int .i64 t.down,.int .i64 t.pos,.int .i64 t.col,.int .i64 t.beam,.int .i64 t.delay]
def Cue.enc (c:Cue):List D:=[.str c.num,.str c.label,.slice (c.moves.map Mov.enc),.slice (c.parts.map Tim.enc),.bool c.block,.bool c.mark,.int .i64 c.follow,.str c.link,.int .i64 c.loops]
def Lis.enc (l:Lis):List D:=[.int .i64 l.num,.int .i64 l.prio,.slice (l.cues.map Cue.enc)]
def Par.Ok (p:Par):Prop:=I64 p.ch∧I64 p.at_
def Val.Ok (v:Val):Prop:=I64 v.pal∧I64 v.lev
def Mov.Ok (m:Mov):Prop:=m.pa.Ok∧m.va.Ok∧I64 m.part
def Tim.Ok (t:Tim):Prop:=I64 t.up∧I64 t.down∧I64 t.pos∧I64 t.col∧I64 t.beam∧I64 t.delay
structure Cue.Ok (c:Cue):Prop where
 moves:∀m∈c.moves,m.Ok
 parts:∀t∈c.parts,t.Ok
 follow:I64 c.follow
 loops:I64 c.loops
structure Lis.Ok (l:Lis):Prop where
 num:I64 l.num
 prio:I64 l.prio
 cues:∀c∈l.cues,c.Ok
theorem Par.has {p:Par} (h:p.Ok):HasKs paKs p.enc:=⟨Y2 h.1,Y2 h.2,trivial⟩
theorem Val.has {v:Val} (h:v.Ok):HasKs [.int .i64,.int .i64] v.enc:=⟨Y2 h.1,Y2 h.2,trivial⟩
theorem Mov.has {m:Mov} (h:m.Ok):HasKs mvKs m.enc:=⟨Y2 h.1.1,Y2 h.1.2,Y2 h.2.1.1,Y2 h.2.1.2,Y2 h.2.2,trivial⟩
theorem Tim.has {t:Tim} (h:t.Ok):HasKs tmKs t.enc:=⟨Y2 h.1,Y2 h.2.1,Y2 h.2.2.1,Y2 h.2.2.2.1,Y2 h.2.2.2.2.1,Y2 h.2.2.2.2.2,trivial⟩
theorem Y6 {X:Type} {l:List X} {enc:X→List D} {ks:List K} (h:∀x∈l,HasKs ks (enc x)):HasK (.slice ks) (.slice (l.map enc)):=by
 simp only [HasK];intro x hx;obtain⟨y,hy,rfl⟩:=List.mem_map.1 hx;exact h y hy
theorem Cue.has {c:Cue} (h:c.Ok):HasKs J9 c.enc:=
 ⟨trivial,trivial,Y6 fun m hm=>Mov.has (h.moves m hm),Y6 fun t ht=>Tim.has (h.parts t ht),trivial,trivial,Y2 h.follow,trivial,Y2 h.loops,trivial⟩
theorem Lis.has {l:Lis} (h:l.Ok):HasKs liKs l.enc:=⟨Y2 h.num,Y2 h.prio,Y6 fun c hc=>Cue.has (h.cues c hc),trivial⟩
def Z3 (p:Par):Int:=if p.ch < 1∨999 < p.ch∨p.at_ < 0∨15≤p.at_ then 2 else 0
theorem Z4w:Contract Tryz.prog 48 fun args K=>∃p:Par,p.Ok∧args=[.agg p.enc]∧K [.d (.int .i64 (Z3 p))]:=by
 refine .of (by kernel_rfl) Zgu ?_;rintro _ K ⟨p,hp,rfl,hK⟩ hsm;refine⟨p.enc,rfl,by simpa [Y1,PK.kinds]using Par.has hp,?_⟩;simp only [Z3]at hK;simp only [zz,reduceCtorEq,t48,Par.enc];grind
def Z0M (v:Int):Bool:=decide (0≤v)&&decide (v≤65535)
theorem Z9n:Contract Tryz.prog 110 fun args K=>∃v:Int,I64 v∧args=[.int .i64 v]∧K [.d (.bool (Z0M v))]:=by
 refine .of (by kernel_rfl) ZeP ?_;rintro _ K ⟨v,hv,rfl,hK⟩ hsm;refine⟨[.int .i64 v],rfl,by simp [Y1,PK.kinds,HasKs,Y2 hv],?_⟩;simp only [Z0M]at hK;simp only [zz,reduceCtorEq,t110];grind
def J8 (v:Val):Int:=if(v.pal=0∧Z0M v.lev=true)∨(-1≤v.pal∧v.pal≤1048576∧v.pal≠0∧v.lev=0)then 0 else 2
theorem Z4b:Contract Tryz.prog 49 fun args K=>∃v:Val,v.Ok∧args=[.agg v.enc]∧K [.d (.int .i64 (J8 v))]:=by
 refine .of (by kernel_rfl) Zgt ?_;rintro _ K ⟨v,hv,rfl,hK⟩ hsm;refine⟨v.enc,rfl,by simpa [Y1,PK.kinds]using Val.has hv,?_⟩;refine Z5 Z9n (v.pal==0) [.bool ((v.pal==0)&&Z0M v.lev)] (by simp only [zz,reduceCtorEq,Val.enc]) (fun h=>⟨v.lev,hv.2,rfl,by rw [h];rfl⟩) (fun h=>by rw [h];rfl) ?_;simp only [J8]at hK;simp only [zz,reduceCtorEq,Val.enc];grind
def W3 (p q:Par):Bool:=decide (p.ch < q.ch)||(decide (p.ch=q.ch)&&decide (p.at_ < q.at_))
theorem Z0R:Contract Tryz.prog 50 fun args K=>∃p q:Par,p.Ok∧q.Ok∧args=[.agg p.enc,.agg q.enc]∧K [.d (.bool (W3 p q))]:=by
 refine .of (by kernel_rfl) Zgs ?_;rintro _ K ⟨p,q,hp,hq,rfl,hK⟩ hsm;refine⟨p.enc++q.enc,rfl,by simpa [Y1,PK.kinds]using(Par.has hp).append (Par.has hq),?_⟩;simp only [W3]at hK;simp only [zz,reduceCtorEq,t50,Par.enc];grind
noncomputable def t182:R:=let x0:T:=.o2 (.sub .i64) (Va 1) (Vn 1);let x1:T:=.o2 .gt (Va 1) (Vn 0);let x2:T:=.o1 .len (Va 0);let x3:T:=Vl (.idx (Va 0) (Va 1) 1 (.int .i64)) .lnil;let x4:T:=.idx (Va 0) (Va 1) 0 (.int .i64);let x5:T:=.idx (Va 0) (Va 1) 4 (.int .i64);.fact (.o2 .le x2 (Vn 140737488355328)) (.ite (.o2 .gt x2 (Vn 128)) (.ret [.d (Vn 5)]) (.loop 0 [Vn 0] [.int .i64] (.ite (.o2 .lt (Va 1) x2) (.need (.o2 .le (Vn 0) (Va 1)) (.call none (.fn 48) [Vl x4 x3] [.cell (.int .i64)] (.ite (.o2 .ne (Va 2) (Vn 0)) (.ret [.d (Va 2)]) (.call none (.fn 49) [Vl (.idx (Va 0) (Va 1) 2 (.int .i64)) (Vl (.idx (Va 0) (Va 1) 3 (.int .i64)) .lnil)] [.cell (.int .i64)] (.ite (.o2 .ne (Va 3) (Vn 0)) (.ret [.d (Va 3)]) (.ite (.ite (.o2 .lt x5 (Vn 1)) (.bool true) (.o2 .gt x5 (Vn 4))) (.ret [.d (Vn 2)]) (.need (.ite x1 (.o2 .le (Vn 0) x0) (.bool true)) (.need (.ite x1 (.o2 .lt x0 x2) (.bool true)) (.call (some x1) (.fn 50) [Vl (.idx (Va 0) x0 0 (.int .i64)) (Vl (.idx (Va 0) x0 1 (.int .i64)) .lnil),Vl x4 x3] [.cell .bool] (.ite (.ite x1 (.o1 .not (Va 4)) (.bool false)) (.ret [.d (Vn 9)]) (.again 0 [.o2 (.add .i64) (Va 1) (Vn 1)]))))))))))) (.ret [.d (Vn 0)]))))
theorem ZdV:fnO Tryz.prog mdA 182 [.cell (.slice mvKs)]=t182:=by kernel_rfl
noncomputable def t183:R:=let x0:T:=.o1 .not (Va 2);let x1:T:=.o1 .not (Va 3);let x2:T:=.o1 .len (Va 0);let x3:T:=.o1 .not (Va 4);let x4:T:=.o1 .not (Va 5);.fact (.o2 .le x2 (Vn 140737488355328)) (.ite (.o2 .eq x2 (Vn 0)) (.ret [.d (Vn 12)]) (.ite (.o2 .gt x2 (Vn 4)) (.ret [.d (Vn 5)]) (.loop 0 [Vn 0] [.int .i64] (.ite (.o2 .lt (Va 1) x2) (.need (.o2 .le (Vn 0) (Va 1)) (.call none (.fn 219) [.idx (Va 0) (Va 1) 0 (.int .i64)] [.cell .bool] (.call (some (.o1 .not x0)) (.fn 219) [.idx (Va 0) (Va 1) 1 (.int .i64)] [.cell .bool] (.call (some (.o1 .not (.ite x0 (.bool true) x1))) (.fn 219) [.idx (Va 0) (Va 1) 2 (.int .i64)] [.cell .bool] (.call (some (.o1 .not (.ite (.ite x0 (.bool true) x1) (.bool true) x3))) (.fn 219) [.idx (Va 0) (Va 1) 3 (.int .i64)] [.cell .bool] (.call (some (.o1 .not (.ite (.ite (.ite x0 (.bool true) x1) (.bool true) x3) (.bool true) x4))) (.fn 219) [.idx (Va 0) (Va 1) 4 (.int .i64)] [.cell .bool] (.call (some (.o1 .not (.ite (.ite (.ite (.ite x0 (.bool true) x1) (.bool true) x3) (.bool true) x4) (.bool true) (.o1 .not (Va 6))))) (.fn 219) [.idx (Va 0) (Va 1) 5 (.int .i64)] [.cell .bool] (.ite (.ite (.ite (.ite (.ite (.ite x0 (.bool true) x1) (.bool true) x3) (.bool true) x4) (.bool true) (.o1 .not (Va 6))) (.bool true) (.o1 .not (Va 7))) (.ret [.d (Vn 2)]) (.again 0 [.o2 (.add .i64) (Va 1) (Vn 1)]))))))))) (.ret [.d (Vn 0)])))))
theorem ZdU:fnO Tryz.prog mdA 183 [.cell (.slice tmKs)]=t183:=by kernel_rfl
noncomputable def t184:R:=let x0:T:=.o2 .gt (Va 8) (Vn 100);let x1:T:=.o2 .lt (Va 8) (Vn 0);let x2:T:=.o2 .gt (Va 8) (Vn 0);let x3:T:=.o2 .eq (Va 7) (.str []);.ite (.ite (.o2 .ne (Va 6) (Vn (-1))) (.ite (.o2 .lt (Va 6) (Vn 25)) (.bool true) (.o2 .gt (Va 6) (Vn 10000000))) (.bool false)) (.ret [.d (Vn 2)]) (.ite (.o2 .ne (Va 7) (.str [])) (.call none (.fn 13) [Va 7] [.cell (.int .i64)] (.ite (.o2 .ne (Va 9) (Vn 0)) (.ret [.d (Va 9)]) (.ite (.ite x1 (.bool true) x0) (.ret [.d (Vn 2)]) (.ite (.ite x2 x3 (.bool false)) (.ret [.d (Vn 11)]) (.ret [.d (Vn 0)]))))) (.ite (.ite x1 (.bool true) x0) (.ret [.d (Vn 2)]) (.ite (.ite x2 x3 (.bool false)) (.ret [.d (Vn 11)]) (.ret [.d (Vn 0)]))))
theorem ZdT:fnO Tryz.prog mdA 184 [.agg J9]=t184:=by kernel_rfl
noncomputable def t108:R:=.call none (.fn 13) [Va 0] [.cell (.int .i64)] (.ite (.o2 .ne (Va 9) (Vn 0)) (.ret [.d (Va 9)]) (.call none (.fn 181) [Va 1] [.cell (.int .i64)] (.ite (.o2 .ne (Va 10) (Vn 0)) (.ret [.d (Va 10)]) (.call none (.fn 182) [Va 2] [.cell (.int .i64)] (.ite (.o2 .ne (Va 11) (Vn 0)) (.ret [.d (Va 11)]) (.call none (.fn 183) [Va 3] [.cell (.int .i64)] (.ite (.o2 .ne (Va 12) (Vn 0)) (.ret [.d (Va 12)]) (.loop 0 [Vn 0] [.int .i64] (.fact (.o2 .le (.o1 .len (Va 2)) (Vn 140737488355328)) (.ite (.o2 .lt (Va 13) (.o1 .len (Va 2))) (.need (.o2 .le (Vn 0) (Va 13)) (.fact (.o2 .le (.o1 .len (Va 3)) (Vn 140737488355328)) (.ite (.o2 .gt (.idx (Va 2) (Va 13) 4 (.int .i64)) (.o1 .len (Va 3))) (.ret [.d (Vn 6)]) (.again 0 [.o2 (.add .i64) (Va 13) (Vn 1)])))) (.call none (.fn 184) [Vl (Va 0) (Vl (Va 1) (Vl (Va 2) (Vl (Va 3) (Vl (Va 4) (Vl (Va 5) (Vl (Va 6) (Vl (Va 7) (Vl (Va 8) .lnil))))))))] [.cell (.int .i64)] (.ret [.d (Va 14)]))))))))))))
theorem ZeR:fnO Tryz.prog mdA 108 [.agg J9]=t108:=by kernel_rfl
theorem J0 {X:Type} {l:List X} {enc:X→List D} {i:Nat} (h:i < l.length):(l.map enc).getD i []=enc l[i]:=by simp [List.getD_eq_getElem?_getD,h]
def Z7Y (c:Nat):Bool:=decide (c < 32)||decide (126 < c)||decide (c=34)
def ZD:List UInt8→Int
 | []=>0
 |c::cs=>if Z7Y (byt c)then 3 else ZD cs
def Yv (s:List UInt8):Int:=if 24 < s.length then 13 else ZD s
theorem Z9j:Contract Tryz.prog 181 fun args K=>∃s,args=[.str s]∧K [.d (.int .i64 (Yv s))]:=by
 refine .of (by kernel_rfl) ZdW ?_;rintro _ K ⟨s,rfl,hK⟩ hsm;refine⟨[.str s],rfl,by simp [Y1,PK.kinds,HasKs,HasK],?_⟩;simp only [Yv]at hK;simp only [zz,reduceCtorEq,t181];refine fun hcap=>⟨fun h=>by rw [if_pos (by omega)]at hK;exact hK,fun h=>?_⟩
 rw [if_neg (by omega)]at hK;refine Jb s (fun _ l (_:Unit)=>ZD l) (fun i _=>[.int .i64 i]) () _ rfl 0 (fun _ _=>rfl) rfl ?_ ?_
 · intro i hi _ hgo;simp only [zz,reduceCtorEq,hi,WR hi];simp only [ZD,Z7Y]at hgo;grind [Z1]
 · intro _ hgo;simp only [zz,reduceCtorEq];grind [ZD]
def Jd (v:Int):Bool:=decide (0≤v)&&decide (v≤10000000)
theorem ZP:Contract Tryz.prog 219 fun args K=>∃v:Int,I64 v∧args=[.int .i64 v]∧K [.d (.bool (Jd v))]:=by
 refine .of (by kernel_rfl) Zds ?_;rintro _ K ⟨v,hv,rfl,hK⟩ hsm;refine⟨[.int .i64 v],rfl,by simp [Y1,PK.kinds,HasKs,Y2 hv],?_⟩;simp only [Jd]at hK;simp only [zz,reduceCtorEq,t219];grind
def Z2V (l:List Mov):Bool:=decide (l.length≤300)
theorem Z7L:Contract Tryz.prog 218 fun args K=>∃l:List Mov,(∀m∈l,m.Ok)∧args=[.slice (l.map Mov.enc)]∧K [.d (.bool (Z2V l))]:=by
 refine .of (by kernel_rfl) Zdt ?_;rintro _ K ⟨l,hl,rfl,hK⟩ hsm;refine⟨[.slice (l.map Mov.enc)],rfl,by simp only [Y1,PK.kinds,List.map_cons,List.map_nil,List.flatten_cons,List.flatten_nil,List.append_nil];exact⟨Y6 fun m hm=>Mov.has (hl m hm),trivial⟩,?_⟩;simp only [Z2V]at hK;simp only [zz,reduceCtorEq,t218,List.length_map];have e:decide ((l.length:Int)≤300)=decide (l.length≤300):=by rw [Bool.eq_iff_iff];simp;omega
 rw [e];exact fun _=>hK
instance:Inhabited Mov:=⟨⟨⟨0,0⟩,⟨0,0⟩,0⟩⟩
def Yg (xs:List Mov):Nat→List Mov→Int
 |_,[]=>0
 | i,m::ms=>if Z3 m.pa≠0 then Z3 m.pa else if J8 m.va≠0 then J8 m.va else if m.part < 1∨4 < m.part then 2
   else if 0 < i∧W3 (xs[i - 1]!).pa m.pa=false then 9 else Yg xs (i+1) ms
def Wi (l:List Mov):Int:=if 128 < l.length then 5 else Yg l 0 l
theorem Z9d:Contract Tryz.prog 182 fun args K=>∃l:List Mov,(∀m∈l,m.Ok)∧args=[.slice (l.map Mov.enc)]∧K [.d (.int .i64 (Wi l))]:=by
 refine .of (by kernel_rfl) ZdV ?_;rintro _ K ⟨l,hl,rfl,hK⟩ hsm;refine⟨[.slice (l.map Mov.enc)],rfl,by simp only [Y1,PK.kinds,List.map_cons,List.map_nil,List.flatten_cons,List.flatten_nil,List.append_nil];exact⟨Y6 fun m hm=>Mov.has (hl m hm),trivial⟩,?_⟩;simp only [Wi]at hK;simp only [zz,reduceCtorEq,t182,List.length_map];refine fun hcap=>⟨fun h=>by rw [if_pos (by omega)]at hK;exact hK,fun h=>?_⟩
 rw [if_neg (by omega)]at hK;refine Jb l (fun i l' (_:Unit)=>Yg l i l') (fun i _=>[.int .i64 i]) () _ rfl 0 (fun _ _=>rfl) rfl ?_ ?_
 · intro i hi _ hgo;simp only [Yg]at hgo;have hm:=hl l[i] (List.getElem_mem hi);simp only [zz,reduceCtorEq,hi,List.length_map];refine⟨by omega,Z0 Z4w ⟨(l[i]).pa,hm.1,?_,_,rfl,?_⟩⟩
   · simp only [zz,reduceCtorEq,J0 hi,Mov.enc,Par.enc]
   simp only [zz,reduceCtorEq];by_cases h1:Z3 (l[i]).pa=0
   · simp only [h1,ne_eq,not_true_eq_false,if_false]at hgo ⊢;refine⟨fun h=>by simp at h,fun _=>Z0 Z4b ⟨(l[i]).va,hm.2.1,?_,_,rfl,?_⟩⟩
     · simp only [zz,reduceCtorEq,J0 hi,Mov.enc,Val.enc]
     simp only [zz,reduceCtorEq,J0 hi,Mov.enc];have hw:0 < i→wr64 (↑i - 1)=((i - 1:Nat):Int):=fun h=>by rw [Z1] <;> omega
     by_cases h2:J8 (l[i]).va=0
     · simp only [h2,ne_eq,not_true_eq_false,if_false,List.length_map]at hgo ⊢;refine⟨fun h=>by simp at h,fun _=>⟨fun h3=>?_,fun h3=>⟨?_,?_,?_⟩⟩⟩
       · rw [if_pos h3]at hgo;rw [←hgo]at hK;exact hK
       · split
         · rename_i h0;rw [hw h0];simp
         · rfl
       · split
         · rename_i h0;rw [hw h0];simp;omega
         · rfl
       · rw [if_neg (by omega)]at hgo;have hp:0 < i→l[i - 1]! =l[i - 1]'(by omega):=fun h=>getElem!_pos l (i - 1) (by omega)
         refine Z5 Z0R (decide (0 < i)) [.bool (decide (0 < i)&&W3 (l[i - 1]!).pa (l[i]).pa)] ?_ (fun h=>⟨(l[i - 1]!).pa,(l[i]).pa,?_,hm.1,?_,by rw [h];rfl⟩) (fun h=>by rw [h];rfl) ?_
         · simp only [zz,reduceCtorEq]
         · have h:0 < i:=by simpa using h
           rw [hp h];exact(hl _ (List.getElem_mem _)).1
         · have h:0 < i:=by simpa using h
           rw [hp h];simp only [zz,reduceCtorEq,hw h,J0 hi,J0 (show i - 1 < l.length by omega),Mov.enc,Par.enc]
         · simp only [zz,reduceCtorEq];grind [Z1]
     · simp only [h2,ne_eq,not_false_eq_true,if_true]at hgo ⊢;rw [←hgo]at hK;exact⟨fun _=>hK,fun h=>by simp [h2]at h⟩
   · simp only [h1,ne_eq,not_false_eq_true,if_true]at hgo ⊢;rw [←hgo]at hK;exact⟨fun _=>hK,fun h=>by simp [h1]at h⟩
 · intro _ hgo;simp only [zz,reduceCtorEq,List.length_map];grind [Yg]
def Z9P (t:Tim):Bool:=Jd t.up&&Jd t.down&&Jd t.pos&&Jd t.col&&Jd t.beam&&Jd t.delay
def Wy:List Tim→Int
 | []=>0
 |t::ts=>if Z9P t then Wy ts else 2
def Wq (l:List Tim):Int:=if l.length=0 then 12 else if 4 < l.length then 5 else Wy l
theorem Z92:Contract Tryz.prog 183 fun args K=>∃l:List Tim,(∀m∈l,m.Ok)∧args=[.slice (l.map Tim.enc)]∧K [.d (.int .i64 (Wq l))]:=by
 refine .of (by kernel_rfl) ZdU ?_;rintro _ K ⟨l,hl,rfl,hK⟩ hsm;refine⟨[.slice (l.map Tim.enc)],rfl,by simp only [Y1,PK.kinds,List.map_cons,List.map_nil,List.flatten_cons,List.flatten_nil,List.append_nil];exact⟨Y6 fun m hm=>Tim.has (hl m hm),trivial⟩,?_⟩;simp only [Wq]at hK;simp only [zz,reduceCtorEq,t183,List.length_map];refine fun hcap=>⟨fun h=>by rw [if_pos (by omega)]at hK;exact hK,fun h=>⟨fun h'=>by rw [if_neg (by omega),if_pos (by omega)]at hK;exact hK,fun h'=>?_⟩⟩
 rw [if_neg (by omega),if_neg (by omega)]at hK;refine Jb l (fun i l' (_:Unit)=>Wy l') (fun i _=>[.int .i64 i]) () _ rfl 0 (fun _ _=>rfl) rfl ?_ ?_
 · intro i hi _ hgo;simp only [Wy]at hgo;have ht:Z9P l[i]=(Jd (l[i]).up&&Jd (l[i]).down&&Jd (l[i]).pos&&Jd (l[i]).col&&Jd (l[i]).beam&&Jd (l[i]).delay):=rfl;generalize Z9P l[i]=tb at hgo ht;obtain⟨m1,m2,m3,m4,m5,m6⟩:=hl l[i] (List.getElem_mem hi);simp only [zz,reduceCtorEq,hi,List.length_map];refine⟨by omega,Z0 ZP ⟨_,m1,by simp only [zz,reduceCtorEq,J0 hi,Tim.enc],_,rfl,?_⟩⟩;generalize Jd (l[i]).up=b1 at ht ⊢;refine Z5 ZP b1 [.bool (b1&&Jd (l[i]).down)] (by simp only [zz,reduceCtorEq];cases b1 <;> rfl) (fun h=>⟨_,m2,by simp only [zz,reduceCtorEq,J0 hi,Tim.enc],by rw [h];rfl⟩) (fun h=>by rw [h];rfl) ?_;generalize Jd (l[i]).down=b2 at ht ⊢;refine Z5 ZP (b1&&b2) [.bool ((b1&&b2)&&Jd (l[i]).pos)] (by simp only [zz,reduceCtorEq];cases b1 <;> cases b2 <;> rfl) (fun h=>⟨_,m3,by simp only [zz,reduceCtorEq,J0 hi,Tim.enc],by rw [h];rfl⟩) (fun h=>by rw [h];rfl) ?_;generalize Jd (l[i]).pos=b3 at ht ⊢;refine Z5 ZP (b1&&b2&&b3) [.bool ((b1&&b2&&b3)&&Jd (l[i]).col)] (by simp only [zz,reduceCtorEq];cases b1 <;> cases b2 <;> cases b3 <;> rfl) (fun h=>⟨_,m4,by simp only [zz,reduceCtorEq,J0 hi,Tim.enc],by rw [h];rfl⟩) (fun h=>by rw [h];rfl) ?_;generalize Jd (l[i]).col=b4 at ht ⊢;refine Z5 ZP (b1&&b2&&b3&&b4) [.bool ((b1&&b2&&b3&&b4)&&Jd (l[i]).beam)] (by simp only [zz,reduceCtorEq];cases b1 <;> cases b2 <;> cases b3 <;> cases b4 <;> rfl) (fun h=>⟨_,m5,by simp only [zz,reduceCtorEq,J0 hi,Tim.enc],by rw [h];rfl⟩) (fun h=>by rw [h];rfl) ?_;generalize Jd (l[i]).beam=b5 at ht ⊢;refine Z5 ZP (b1&&b2&&b3&&b4&&b5) [.bool ((b1&&b2&&b3&&b4&&b5)&&Jd (l[i]).delay)] (by simp only [zz,reduceCtorEq];cases b1 <;> cases b2 <;> cases b3 <;> cases b4 <;> cases b5 <;> rfl) (fun h=>⟨_,m6,by simp only [zz,reduceCtorEq,J0 hi,Tim.enc],by rw [h];rfl⟩) (fun h=>by rw [h];rfl) ?_;generalize Jd (l[i]).delay=b6 at ht ⊢;have hw:wr64 ((i:Int)+1)=((i+1:Nat):Int):=by rw [Z1] <;> omega
   simp only [zz,reduceCtorEq];cases b1 <;> cases b2 <;> cases b3 <;> cases b4 <;> cases b5 <;> cases b6 <;> simp at ht <;> subst ht <;> simp at hgo ⊢ <;> grind
 · intro _ hgo;simp only [zz,reduceCtorEq,List.length_map];grind [Wy]
def YD (c:Cue):Int:=if c.follow≠ -1∧(c.follow < 25∨10000000 < c.follow)then 2
 else if c.link≠[]∧Z4 c.link≠0 then Z4 c.link else if c.loops < 0∨100 < c.loops then 2 else if 0 < c.loops∧c.link=[]then 11 else 0
theorem ZaD:Contract Tryz.prog 184 fun args K=>∃c:Cue,c.Ok∧args=[.agg c.enc]∧K [.d (.int .i64 (YD c))]:=by
 refine .of (by kernel_rfl) ZdT ?_;rintro _ K ⟨c,hc,rfl,hK⟩ hsm;refine⟨c.enc,rfl,by simpa [Y1,PK.kinds]using Cue.has hc,?_⟩;have hK':∀v,YD c=v→K [.d (.int .i64 v)]:=by rintro _ rfl;exact hK
 clear hK;simp only [YD]at hK';have hl:(c.link==[])=decide (c.link=[]):=by rw [Bool.eq_iff_iff];simp
 simp only [zz,reduceCtorEq,t184,Cue.enc,hl];refine⟨fun h=>hK' _ (by grind),fun h=>⟨fun h1=>Z0 Z20 ⟨c.link,rfl,_,rfl,?_⟩,fun h1=>⟨fun h2=>hK' _ (by grind),fun h2=>⟨fun h3=>hK' _ (by grind),fun h3=>hK' _ (by grind)⟩⟩⟩⟩;simp only [zz,reduceCtorEq,hl];generalize Z4 c.link=n at hK' ⊢;refine⟨fun h2=>hK' _ (by grind),fun h2=>⟨fun h3=>hK' _ (by grind),fun h3=>⟨fun h4=>hK' _ (by grind),fun h4=>hK' _ (by grind)⟩⟩⟩
def YO (n:Nat):List Mov→Bool
 | []=>true
 |m::ms=>if(n:Int) < m.part then false else YO n ms
def J5 (c:Cue):Int:=
 if Z4 c.num≠0 then Z4 c.num else if Yv c.label≠0 then Yv c.label else if Wi c.moves≠0 then Wi c.moves
 else if Wq c.parts≠0 then Wq c.parts else if YO c.parts.length c.moves=false then 6 else YD c
theorem Z9w:Contract Tryz.prog 108 fun args K=>∃c:Cue,c.Ok∧args=[.agg c.enc]∧K [.d (.int .i64 (J5 c))]:=by
 refine .of (by kernel_rfl) ZeR ?_;rintro _ K ⟨c,hc,rfl,hK⟩ hsm;refine⟨c.enc,rfl,by simpa [Y1,PK.kinds]using Cue.has hc,?_⟩;have hK':∀v,J5 c=v→K [.d (.int .i64 v)]:=by rintro _ rfl;exact hK
 clear hK;simp only [J5]at hK';refine Z0 Z20 ⟨c.num,rfl,_,rfl,?_⟩;simp only [zz,reduceCtorEq,Cue.enc];refine⟨fun h=>hK' _ (by rw [if_pos h]),fun h1=>Z0 Z9j ⟨c.label,rfl,_,rfl,?_⟩⟩;simp only [zz,reduceCtorEq];refine⟨fun h=>hK' _ (by rw [if_neg (by simpa using h1),if_pos h]),fun h2=>Z0 Z9d ⟨c.moves,hc.moves,rfl,_,rfl,?_⟩⟩;simp only [zz,reduceCtorEq];refine⟨fun h=>hK' _ (by rw [if_neg (by simpa using h1),if_neg (by simpa using h2),if_pos h]),fun h3=>Z0 Z92 ⟨c.parts,hc.parts,rfl,_,rfl,?_⟩⟩;simp only [zz,reduceCtorEq];refine⟨fun h=>hK' _ (by rw [if_neg (by simpa using h1),if_neg (by simpa using h2),if_neg (by simpa using h3),if_pos h]),fun h4=>?_⟩;have hK2:∀v,(if YO c.parts.length c.moves=false then 6 else YD c)=v→K [.d (.int .i64 v)]:=fun v hv=>hK' v (by rw [if_neg (by simpa using h1),if_neg (by simpa using h2),if_neg (by simpa using h3),if_neg (by simpa using h4)];exact hv)
 clear hK';refine Jb c.moves (fun i l (_:Unit)=>YO c.parts.length l) (fun i _=>[.int .i64 i]) () _ rfl 0 (fun _ _=>rfl) rfl ?_ ?_
 · intro i hi _ hgo;simp only [YO]at hgo;simp only [zz,reduceCtorEq,hi,List.length_map,J0 hi,Mov.enc];refine fun _=>⟨by omega,fun _=>⟨fun h=>hK2 _ (by rw [if_pos h]at hgo;rw [←hgo];simp),fun h=>⟨(),by rw [Z1] <;> omega,by rw [if_neg h]at hgo;exact hgo⟩⟩⟩
 · intro _ hgo;simp only [YO]at hgo;simp only [zz,reduceCtorEq,List.length_map];intro _;refine Z0 ZaD ⟨c,hc,rfl,_,rfl,?_⟩;simp only [zz,reduceCtorEq];exact hK2 _ (by rw [←hgo];simp)
noncomputable def t159:R:=.ite (.ite (.ite (.ite (.o2 .lt (Va 0) (Vn 1)) (.bool true) (.o2 .gt (Va 0) (Vn 999))) (.bool true) (.o2 .lt (Va 1) (Vn 0))) (.bool true) (.o2 .ge (Va 1) (Vn 15))) (.ret [.d (Vn 2)]) (.ret [.d (Vn 0)])
theorem Zec:fnO Tryz.prog mdA 159 [.agg [.int .i64,.int .i64]]=t159:=by kernel_rfl
noncomputable def t210:R:=.ite (.o2 .ne (Va 0) (Va 2)) (.ret [.d (.o2 (.sub .i64) (Va 0) (Va 2))]) (.ret [.d (.o2 (.sub .i64) (Va 1) (Va 3))])
theorem Zdx:fnO Tryz.prog mdA 210 [.agg [.int .i64,.int .i64],.agg [.int .i64,.int .i64]]=t210:=by kernel_rfl
noncomputable def t163:R:=let x1:T:=.o1 .bytes (Va 0);let x0:T:=.idx x1 (Va 1) 0 (.int .u8);.fact (.o2 .le (.o1 .len (Va 0)) (Vn 140737488355328)) (.ite (.o2 .gt (.o1 .len (Va 0)) (Vn 24)) (.ret [.d (Vn 13)]) (.fact (.o2 .le (.o1 .len x1) (Vn 140737488355328)) (.loop 0 [Vn 0] [.int .i64] (.ite (.o2 .lt (Va 1) (.o1 .len x1)) (.need (.o2 .le (Vn 0) (Va 1)) (.ite (.ite (.ite (.o2 .lt x0 (.int .u8 32)) (.bool true) (.o2 .gt x0 (.int .u8 126))) (.bool true) (.o2 .eq x0 (.int .u8 34))) (.ret [.d (Vn 3)]) (.again 0 [.o2 (.add .i64) (Va 1) (Vn 1)]))) (.ret [.d (Vn 0)])))))
theorem Ze8:fnO Tryz.prog mdA 163 [.cell .str]=t163:=by kernel_rfl
noncomputable def t119:R:=let x0:T:=.o2 .eq (Va 0) (Vn 0);.call (some x0) (.fn 190) [Va 1] [.cell .bool] (.ite (.ite x0 (Va 2) (.bool false)) (.ret [.d (Vn 0)]) (.ite (.ite (.ite (.ite (.o2 .ge (Va 0) (Vn (-1))) (.o2 .ne (Va 0) (Vn 0)) (.bool false)) (.o2 .le (Va 0) (Vn 1048576)) (.bool false)) (.o2 .eq (Va 1) (Vn 0)) (.bool false)) (.ret [.d (Vn 0)]) (.ret [.d (Vn 2)])))
theorem ZeG:fnO Tryz.prog mdA 119 [.agg [.int .i64,.int .i64]]=t119:=by kernel_rfl
noncomputable def t190:R:=.ret [.d (.ite (.o2 .ge (Va 0) (Vn 0)) (.o2 .le (Va 0) (Vn 65535)) (.bool false))]
theorem ZdN:fnO Tryz.prog mdA 190 [.cell (.int .i64)]=t190:=by kernel_rfl
noncomputable def t211:R:=let x0:T:=.o1 .len (Va 5);let x1:T:=.o2 (.sub .i64) x0 (Vn 1);let x2:T:=.o2 .gt x0 (Vn 0);.call none (.fn 159) [Vl (Va 0) (Vl (Va 1) .lnil)] [.cell (.int .i64)] (.ite (.o2 .ne (Va 6) (Vn 0)) (.ret [.d (Va 6)]) (.call none (.fn 119) [Vl (Va 2) (Vl (Va 3) .lnil)] [.cell (.int .i64)] (.ite (.o2 .ne (Va 7) (Vn 0)) (.ret [.d (Va 7)]) (.ite (.ite (.o2 .lt (Va 4) (Vn 1)) (.bool true) (.o2 .gt (Va 4) (Vn 4))) (.ret [.d (Vn 2)]) (.fact (.o2 .le x0 (Vn 140737488355328)) (.need (.ite x2 (.o2 .le (Vn 0) x1) (.bool true)) (.need (.ite x2 (.o2 .lt x1 x0) (.bool true)) (.call (some x2) (.fn 210) [Vl (.idx (Va 5) x1 0 (.int .i64)) (Vl (.idx (Va 5) x1 1 (.int .i64)) .lnil),Vl (Va 0) (Vl (Va 1) .lnil)] [.cell (.int .i64)] (.ite (.ite x2 (.o2 .ge (Va 8) (Vn 0)) (.bool false)) (.ret [.d (Vn 9)]) (.ret [.d (Vn 0)]))))))))))
theorem Zdw:fnO Tryz.prog mdA 211 [.agg mvKs,.cell (.slice mvKs)]=t211:=by kernel_rfl
noncomputable def t165:R:=let x0:T:=.o1 .len (Va 0);.fact (.o2 .le x0 (Vn 140737488355328)) (.ite (.o2 .gt x0 (Vn 128)) (.ret [.d (Vn 5)]) (.loop 0 [Vn 0] [.int .i64] (.ite (.o2 .lt (Va 1) x0) (.need (.o2 .le (Vn 0) (Va 1)) (.need (.o2 .le (Va 1) x0) (.call none (.fn 211) [Vl (.idx (Va 0) (Va 1) 0 (.int .i64)) (Vl (.idx (Va 0) (Va 1) 1 (.int .i64)) (Vl (.idx (Va 0) (Va 1) 2 (.int .i64)) (Vl (.idx (Va 0) (Va 1) 3 (.int .i64)) (Vl (.idx (Va 0) (Va 1) 4 (.int .i64)) .lnil)))),.sub (Va 0) (Vn 0) (Va 1)] [.cell (.int .i64)] (.ite (.o2 .ne (Va 2) (Vn 0)) (.ret [.d (Va 2)]) (.again 0 [.o2 (.add .i64) (Va 1) (Vn 1)]))))) (.ret [.d (Vn 0)]))))
theorem Ze6:fnO Tryz.prog mdA 165 [.cell (.slice mvKs)]=t165:=by kernel_rfl
theorem Z71:Contract Tryz.prog 159 fun args K=>∃p:Par,p.Ok∧args=[.agg p.enc]∧K [.d (.int .i64 (Z3 p))]:=by
 refine .of (by kernel_rfl) Zec ?_;rintro _ K ⟨p,hp,rfl,hK⟩ hsm;refine⟨p.enc,rfl,by simpa [Y1,PK.kinds]using Par.has hp,?_⟩;simp only [Z3]at hK;simp only [zz,reduceCtorEq,t159,Par.enc];grind
def pcmp (p q:Par):Int:=if p.ch≠q.ch then wr64 (p.ch - q.ch)else wr64 (p.at_ - q.at_)
theorem Zaq:Contract Tryz.prog 210 fun args K=>∃p q:Par,p.Ok∧q.Ok∧args=[.agg p.enc,.agg q.enc]∧K [.d (.int .i64 (pcmp p q))]:=by
 refine .of (by kernel_rfl) Zdx ?_;rintro _ K ⟨p,q,hp,hq,rfl,hK⟩ hsm;refine⟨p.enc++q.enc,rfl,by simpa [Y1,PK.kinds]using(Par.has hp).append (Par.has hq),?_⟩;simp only [pcmp]at hK;simp only [zz,reduceCtorEq,t210,Par.enc];grind
theorem Zbl:Contract Tryz.prog 163 fun args K=>∃s,args=[.str s]∧K [.d (.int .i64 (Yv s))]:=by
 refine .of (by kernel_rfl) Ze8 ?_;rintro _ K ⟨s,rfl,hK⟩ hsm;refine⟨[.str s],rfl,by simp [Y1,PK.kinds,HasKs,HasK],?_⟩;simp only [Yv]at hK;simp only [zz,reduceCtorEq,t163,List.length_map];refine fun hcap=>⟨fun h=>by rw [if_pos (by omega)]at hK;exact hK,fun h _=>?_⟩
 rw [if_neg (by omega)]at hK;refine Jb s (fun _ l (_:Unit)=>ZD l) (fun i _=>[.int .i64 i]) () _ rfl 0 (fun _ _=>rfl) rfl ?_ ?_
 · intro i hi _ hgo;simp only [zz,reduceCtorEq,hi,List.length_map,J0 hi,Yi];simp only [ZD,Z7Y]at hgo;grind [Z1]
 · intro _ hgo;simp only [zz,reduceCtorEq,List.length_map];grind [ZD]
theorem Zao:Contract Tryz.prog 190 fun args K=>∃v:Int,I64 v∧args=[.int .i64 v]∧K [.d (.bool (Z0M v))]:=by
 refine .of (by kernel_rfl) ZdN ?_;rintro _ K ⟨v,hv,rfl,hK⟩ hsm;refine⟨[.int .i64 v],rfl,by simp [Y1,PK.kinds,HasKs,Y2 hv],?_⟩;simp only [Z0M]at hK;simp only [zz,reduceCtorEq,t190];grind
theorem Z6j:Contract Tryz.prog 119 fun args K=>∃v:Val,v.Ok∧args=[.agg v.enc]∧K [.d (.int .i64 (J8 v))]:=by
 refine .of (by kernel_rfl) ZeG ?_;rintro _ K ⟨v,hv,rfl,hK⟩ hsm;refine⟨v.enc,rfl,by simpa [Y1,PK.kinds]using Val.has hv,?_⟩;refine Z5 Zao (v.pal==0) [.bool ((v.pal==0)&&Z0M v.lev)] (by simp only [zz,reduceCtorEq,Val.enc]) (fun h=>⟨v.lev,hv.2,rfl,by rw [h];rfl⟩) (fun h=>by rw [h];rfl) ?_;simp only [J8]at hK;simp only [zz,reduceCtorEq,Val.enc];grind
def Z2m (m:Mov) (bs:List Mov):Int:=if Z3 m.pa≠0 then Z3 m.pa else if J8 m.va≠0 then J8 m.va else if m.part < 1∨4 < m.part then 2
 else if 0 < bs.length∧0≤pcmp (bs[bs.length - 1]!).pa m.pa then 9 else 0
theorem ZcL:Contract Tryz.prog 211 fun args K=>∃(m:Mov) (bs:List Mov),m.Ok∧(∀b∈bs,b.Ok)∧args=[.agg m.enc,.slice (bs.map Mov.enc)]∧K [.d (.int .i64 (Z2m m bs))]:=by
 refine .of (by kernel_rfl) Zdw ?_;rintro _ K ⟨m,bs,hm,hb,rfl,hK⟩ hsm;refine⟨m.enc++[.slice (bs.map Mov.enc)],rfl,by simpa [Y1,PK.kinds]using(Mov.has hm).append (show HasKs [.slice mvKs] [.slice (bs.map Mov.enc)]from⟨Y6 fun x hx=>Mov.has (hb x hx),trivial⟩),?_⟩;have hK':∀v,Z2m m bs=v→K [.d (.int .i64 v)]:=by rintro _ rfl;exact hK
 clear hK;simp only [Z2m]at hK';refine Z0 Z71 ⟨m.pa,hm.1,rfl,_,rfl,?_⟩;simp only [zz,reduceCtorEq,Mov.enc];refine⟨fun h=>hK' _ (by rw [if_pos h]),fun h1=>Z0 Z6j ⟨m.va,hm.2.1,rfl,_,rfl,?_⟩⟩;simp only [zz,reduceCtorEq];refine⟨fun h=>hK' _ (by rw [if_neg (by simpa using h1),if_pos h]),fun h2=>⟨fun h=>hK' _ (by rw [if_neg (by simpa using h1),if_neg (by simpa using h2),if_pos h]),fun h3 hcap=>⟨?_,?_,?_⟩⟩⟩
 all_goals (simp only [List.length_map]at hcap ⊢)
 all_goals (have hw:0 < bs.length→wr64 (↑bs.length - 1)=((bs.length - 1:Nat):Int):=fun h=>by rw [Z1] <;> omega)
 · split
   · rename_i h0;rw [hw h0];simp
   · rfl
 · split
   · rename_i h0;rw [hw h0];simp;omega
   · rfl
 · have hp:∀h:0 < bs.length,bs[bs.length - 1]! =bs[bs.length - 1]'(by omega):=fun h=>getElem!_pos bs _ (by omega)
   refine Z5 Zaq (decide (0 < bs.length)) [.int .i64 (if 0 < bs.length then pcmp (bs[bs.length - 1]!).pa m.pa else 0)] ?_ (fun h=>⟨(bs[bs.length - 1]!).pa,m.pa,?_,hm.1,?_,?_⟩) (fun h=>?_) ?_
   · simp only [zz,reduceCtorEq,List.length_map]
   · have h:0 < bs.length:=by simpa using h
     rw [hp h];exact(hb _ (List.getElem_mem _)).1
   · have h:0 < bs.length:=by simpa using h
     rw [hp h];simp only [zz,reduceCtorEq,List.length_map,hw h,J0 (show bs.length - 1 < bs.length by omega),Mov.enc,Par.enc]
   · have h:0 < bs.length:=by simpa using h
     rw [if_pos h];rfl
   · have h:¬0 < bs.length:=by simpa using h
     rw [if_neg h];rfl
   · simp only [zz,reduceCtorEq,List.length_map];refine⟨fun h=>hK' _ ?_,fun h=>hK' _ ?_⟩
     · rw [if_neg (by simpa using h1),if_neg (by simpa using h2),if_neg (show ¬(m.part < 1∨4 < m.part) by omega),if_pos (by grind)]
     · rw [if_neg (by simpa using h1),if_neg (by simpa using h2),if_neg (show ¬(m.part < 1∨4 < m.part) by omega),if_neg (by grind)]
theorem Z7m {p q:Par} (hp:Z3 p=0) (hq:Z3 q=0):(0≤pcmp p q)=(W3 p q=false):=by
 simp only [Z3]at hp hq;split at hp
 · cases hp
 · split at hq
   · cases hq
   · simp only [pcmp,W3];have e1:wr64 (p.ch - q.ch)=p.ch - q.ch:=Z1 (by omega);have e2:wr64 (p.at_ - q.at_)=p.at_ - q.at_:=Z1 (by omega);rw [e1,e2];simp;split <;> omega
theorem Zbj:Contract Tryz.prog 165 fun args K=>∃l:List Mov,(∀m∈l,m.Ok)∧args=[.slice (l.map Mov.enc)]∧K [.d (.int .i64 (Wi l))]:=by
 refine .of (by kernel_rfl) Ze6 ?_;rintro _ K ⟨l,hl,rfl,hK⟩ hsm;refine⟨[.slice (l.map Mov.enc)],rfl,by simp only [Y1,PK.kinds,List.map_cons,List.map_nil,List.flatten_cons,List.flatten_nil,List.append_nil];exact⟨Y6 fun m hm=>Mov.has (hl m hm),trivial⟩,?_⟩;simp only [Wi]at hK;simp only [zz,reduceCtorEq,t165,List.length_map];refine fun hcap=>⟨fun h=>by rw [if_pos (by omega)]at hK;exact hK,fun h=>?_⟩
 rw [if_neg (by omega)]at hK;refine Jb l (fun i l' (_:Unit)=>if 0 < i∧Z3 (l[i - 1]!).pa≠0 then none else some (Yg l i l')) (fun i _=>[.int .i64 i]) () (some (Yg l 0 l)) (by simp) 0 (fun _ _=>rfl) rfl ?_ ?_
 · intro i hi _ hgo;split at hgo
   · cases hgo
   · rename_i hprev;simp only [Yg,Option.some.injEq]at hgo;have hm:=hl l[i] (List.getElem_mem hi);have ht:(l.take i).length=i:=by simp;omega
     simp only [zz,reduceCtorEq,hi,List.length_map];refine⟨by omega,by omega,Z0 ZcL ⟨l[i],l.take i,hm,fun b hb=>hl b (List.mem_of_mem_take hb),?_,_,rfl,?_⟩⟩
     · simp only [zz,reduceCtorEq,J0 hi,Mov.enc,List.map_take]
     · have hpr:∀h:0 < i,(l.take i)[(l.take i).length - 1]! =l[i - 1]!:=fun h=>by
         rw [getElem!_pos _ _ (by omega),getElem!_pos _ _ (by omega)];simp [ht]
       have hnx:Z3 (l[i]).pa=0→¬(0 < i+1∧Z3 (l[i+1 - 1]!).pa≠0):=fun h=>by
         rw [Nat.add_sub_cancel,getElem!_pos l i hi];simp [h]
       have hb:Z3 (l[i]).pa=0→(0 < (l.take i).length∧0≤pcmp ((l.take i)[(l.take i).length - 1]!).pa (l[i]).pa)=(0 < i∧W3 (l[i - 1]!).pa (l[i]).pa=false):=fun h0=>by
         rw [ht];by_cases h:0 < i
         · have:=hpr h;rw [ht]at this;rw [this,Z7m (Classical.byContradiction fun hn=>hprev ⟨h,hn⟩) h0]
         · simp [h]
       have key:(Z2m l[i] (l.take i)≠0→Yg l 0 l=Z2m l[i] (l.take i))∧(Z2m l[i] (l.take i)=0→Z3 (l[i]).pa=0∧Yg l (i+1) (l.drop (i+1))=Yg l 0 l):=by
         rw [←hgo];unfold Z2m;by_cases h0:Z3 (l[i]).pa=0
         · simp only [hb h0];simp only [h0,ne_eq,not_true_eq_false,if_false,true_and];by_cases h1:J8 (l[i]).va=0
           · simp only [h1,not_true_eq_false,if_false];by_cases h2:(l[i]).part < 1∨4 < (l[i]).part
             · simp [h2]
             · simp only [h2,if_false];by_cases h3:0 < i∧W3 (l[i - 1]!).pa (l[i]).pa=false
               · rw [if_pos h3,if_pos h3];simp
               · rw [if_neg h3,if_neg h3];simp
           · simp [h1]
         · simp [h0]
       generalize Z2m l[i] (l.take i)=r at key ⊢;simp only [zz,reduceCtorEq];refine⟨fun h=>by rw [←key.1 h];exact hK,fun h=>⟨(),by rw [Z1] <;> omega,?_⟩⟩;obtain⟨k1,k2⟩:=key.2 h;have:=hnx k1;rw [if_neg (by simpa using this),k2]
 · intro _ hgo;simp only [zz,reduceCtorEq,List.length_map];split at hgo
   · cases hgo
   · simp only [Yg,Option.some.injEq]at hgo;rw [←hgo]at hK;exact hK
noncomputable def t167:R:=let x0:T:=.o2 .gt (Va 8) (Vn 100);let x1:T:=.o2 .lt (Va 8) (Vn 0);let x2:T:=.o2 .gt (Va 8) (Vn 0);let x3:T:=.o2 .eq (Va 7) (.str []);.ite (.ite (.o2 .ne (Va 6) (Vn (-1))) (.ite (.o2 .lt (Va 6) (Vn 25)) (.bool true) (.o2 .gt (Va 6) (Vn 10000000))) (.bool false)) (.ret [.d (Vn 2)]) (.ite (.o2 .ne (Va 7) (.str [])) (.call none (.fn 51) [Va 7] [.cell (.int .i64)] (.ite (.o2 .ne (Va 9) (Vn 0)) (.ret [.d (Va 9)]) (.ite (.ite x1 (.bool true) x0) (.ret [.d (Vn 2)]) (.ite (.ite x2 x3 (.bool false)) (.ret [.d (Vn 11)]) (.ret [.d (Vn 0)]))))) (.ite (.ite x1 (.bool true) x0) (.ret [.d (Vn 2)]) (.ite (.ite x2 x3 (.bool false)) (.ret [.d (Vn 11)]) (.ret [.d (Vn 0)]))))
theorem Ze4:fnO Tryz.prog mdA 167 [.agg J9]=t167:=by kernel_rfl
noncomputable def t197:R:=.fact (.o2 .le (.o1 .len (Va 0)) (Vn 140737488355328)) (.loop 0 [Vn 0] [.int .i64] (.ite (.o2 .lt (Va 2) (.o1 .len (Va 0))) (.need (.o2 .le (Vn 0) (Va 2)) (.call none (.val (Va 1)) [Vl (.idx (Va 0) (Va 2) 0 (.int .i64)) (Vl (.idx (Va 0) (Va 2) 1 (.int .i64)) (Vl (.idx (Va 0) (Va 2) 2 (.int .i64)) (Vl (.idx (Va 0) (Va 2) 3 (.int .i64)) (Vl (.idx (Va 0) (Va 2) 4 (.int .i64)) .lnil))))] [.cell .bool] (.ite (Va 3) (.ret [.d (Va 2)]) (.again 0 [.o2 (.add .i64) (Va 2) (Vn 1)])))) (.ret [.d (Vn (-1))])))
theorem ZdI:fnO Tryz.prog mdA 197 [.cell (.slice mvKs),.cell .fn]=t197:=by kernel_rfl
noncomputable def t133:R:=.call none (.fn 197) [Va 0,Va 1] [.cell (.int .i64)] (.ret [.d (.o2 .ge (Va 2) (Vn 0))])
theorem Zes:fnO Tryz.prog mdA 133 [.cell (.slice mvKs),.cell .fn]=t133:=by kernel_rfl
noncomputable def t212:R:=let x0:T:=.o1 .len (.fld (.padd (Va 5) 3) 0 (.slice tmKs));.fact (.o2 .le x0 (Vn 140737488355328)) (.ret [.d (.o2 .gt (Va 4) x0)])
theorem Zdv:fnO Tryz.prog mdA 212 ([.agg mvKs]++[.cell (.ptr J9)])=t212:=by kernel_rfl
theorem c212:J2 Tryz.prog 212=true:=by kernel_rfl
theorem ZcK:Contract Tryz.prog 167 fun args K=>∃c:Cue,c.Ok∧args=[.agg c.enc]∧K [.d (.int .i64 (YD c))]:=by
 refine .of (by kernel_rfl) Ze4 ?_;rintro _ K ⟨c,hc,rfl,hK⟩ hsm;refine⟨c.enc,rfl,by simpa [Y1,PK.kinds]using Cue.has hc,?_⟩;have hK':∀v,YD c=v→K [.d (.int .i64 v)]:=by rintro _ rfl;exact hK
 clear hK;simp only [YD]at hK';have hl:(c.link==[])=decide (c.link=[]):=by rw [Bool.eq_iff_iff];simp
 simp only [zz,reduceCtorEq,t167,Cue.enc,hl];refine⟨fun h=>hK' _ (by grind),fun h=>⟨fun h1=>Z0 Z02 ⟨c.link,rfl,_,rfl,?_⟩,fun h1=>⟨fun h2=>hK' _ (by grind),fun h2=>⟨fun h3=>hK' _ (by grind),fun h3=>hK' _ (by grind)⟩⟩⟩⟩;simp only [zz,reduceCtorEq,hl];generalize Z4 c.link=n at hK' ⊢;refine⟨fun h2=>hK' _ (by grind),fun h2=>⟨fun h3=>hK' _ (by grind),fun h3=>⟨fun h4=>hK' _ (by grind),fun h4=>hK' _ (by grind)⟩⟩⟩
def ZC {X:Type} (p:X→Bool):Nat→List X→Int
 |_,[]=> -1
 |i,x::xs=>if p x then i else ZC p (i+1) xs
def YC {X:Type} (P:Program) (fv:D) (enc:X→List D) (l:List X) (p:X→Bool):Prop:=∃sf,FvC P fv sf∧∀x∈l,sf [.agg (enc x)] fun rs=>rs=[.d (.bool (p x))]
theorem FvC.up' {P:Program} {fv:D} {s:Spec} (h:FvC P fv s):FvC P fv s.up:=by
 unfold FvC at h ⊢;split at h
 · obtain⟨h0,s',hs',hc⟩:=h;refine⟨h0,s'.up,hs'.up,?_⟩;rintro as_ K ⟨K0,h3,h4⟩;obtain⟨g1,g2⟩:=hc _ _ h3;exact⟨⟨K0,g1,h4⟩,g2⟩
 · exact h
theorem Z7A:Contract Tryz.prog 197 fun args K=>∃(l:List Mov) (p:Mov→Bool) (f:FuncId) (caps:List D),(∀m∈l,m.Ok)∧args=[.slice (l.map Mov.enc),.clo f caps]∧YC Tryz.prog (.clo f caps) Mov.enc l p∧K [.d (.int .i64 (ZC p 0 l))]:=by
 refine .of (by kernel_rfl) ZdI ?_;rintro _ K ⟨l,p,f,caps,hl,rfl,⟨sf,hf,hs⟩,hK⟩ hsm;refine⟨[.slice (l.map Mov.enc),.clo f caps],rfl,by simp only [Y1,PK.kinds,List.map_cons,List.map_nil,List.flatten_cons,List.flatten_nil,List.append_nil];exact⟨Y6 fun m hm=>Mov.has (hl m hm),trivial,trivial⟩,?_⟩;simp only [zz,reduceCtorEq,t197,List.length_map];intro hcap;refine Jb l (fun i l' (_:Unit)=>ZC p i l') (fun i _=>[.int .i64 i]) () _ rfl 0 (fun _ _=>rfl) rfl ?_ ?_
 · intro i hi _ hgo;simp only [ZC]at hgo;simp only [zz,reduceCtorEq,hi,List.length_map];refine⟨by omega,Z7 (FvC.up' (s:=sf) (fv:=.clo f caps) hf) ⟨fun rs=>rs=[.d (.bool (p l[i]))],?_,fun rs h=>⟨[.bool (p l[i])],by rw [h];rfl,by simp [RK.all,RK.kinds,HasKs,HasK],?_⟩⟩⟩
   · simp only [zz,reduceCtorEq,J0 hi,Mov.enc];exact hs l[i] (List.getElem_mem hi)
   · simp only [zz,reduceCtorEq];grind [Z1]
 · intro _ hgo;simp only [ZC]at hgo;simp only [zz,reduceCtorEq,List.length_map];rw [←hgo]at hK;exact hK
theorem Z0A:Contract Tryz.prog 133 fun args K=>∃(l:List Mov) (p:Mov→Bool) (f:FuncId) (caps:List D),(∀m∈l,m.Ok)∧args=[.slice (l.map Mov.enc),.clo f caps]∧YC Tryz.prog (.clo f caps) Mov.enc l p∧K [.d (.bool (l.any p))]:=by
 refine .of (by kernel_rfl) Zes ?_;rintro _ K ⟨l,p,f,caps,hl,rfl,hs,hK⟩ hsm;refine⟨[.slice (l.map Mov.enc),.clo f caps],rfl,by simp only [Y1,PK.kinds,List.map_cons,List.map_nil,List.flatten_cons,List.flatten_nil,List.append_nil];exact⟨Y6 fun m hm=>Mov.has (hl m hm),trivial,trivial⟩,?_⟩;refine Z0 Z7A ⟨l,p,f,caps,hl,rfl,hs,_,rfl,?_⟩;have key:∀(xs:List Mov) (i:Nat),decide (0≤ZC p i xs)=xs.any p:=by
   intro xs;induction xs with
   |nil=>intro i;simp [ZC]
   | cons x xs ih=>
     intro i;simp only [ZC,List.any_cons];by_cases hx:p x=true
     · simp [hx]
     · simp only [hx,if_false,Bool.false_or];simpa [hx]using ih (i+1)
 simp only [zz,reduceCtorEq];rw [key];exact hK
theorem Z7n:Contract Tryz.prog 212 fun args K=>∃(m:Mov) (c:Cue),m.Ok∧c.Ok∧args=[.agg m.enc,.ptr c.enc]∧K [.d (.bool (decide ((c.parts.length:Int) < m.part)))]:=by
 refine .of c212 Zdv ?_;rintro _ K ⟨m,c,hm,hc,rfl,hK⟩ hsm;refine⟨m.enc++[.ptr c.enc],rfl,by simpa [Y1,PK.kinds]using(Mov.has hm).append (show HasKs [.ptr J9] [.ptr c.enc]from⟨Cue.has hc,trivial⟩),?_⟩;simp only [zz,reduceCtorEq,t212,Mov.enc,Cue.enc,List.length_map];exact fun _=>hK
noncomputable def t166:R:=let x0:T:=.sel (Vl (.idx (Va 3) (Va 9) 0 (.int .i64)) (Vl (.idx (Va 3) (Va 9) 1 (.int .i64)) (Vl (.idx (Va 3) (Va 9) 2 (.int .i64)) (Vl (.idx (Va 3) (Va 9) 3 (.int .i64)) (Vl (.idx (Va 3) (Va 9) 4 (.int .i64)) (Vl (.idx (Va 3) (Va 9) 5 (.int .i64)) .lnil)))))) (Va 10) (.int .i64);let x1:T:=.o1 .len (Va 3);.fact (.o2 .le x1 (Vn 140737488355328)) (.ite (.o2 .eq x1 (Vn 0)) (.ret [.d (Vn 12)]) (.ite (.o2 .gt x1 (Vn 4)) (.ret [.d (Vn 5)]) (.loop 0 [Vn 0] [.int .i64] (.ite (.o2 .lt (Va 9) x1) (.need (.o2 .le (Vn 0) (Va 9)) (.loop 1 [Vn 0] [.int .i64] (.ite (.o2 .lt (Va 10) (Vn 6)) (.need (.o2 .le (Vn 0) (Va 10)) (.ite (.ite (.o2 .lt x0 (Vn 0)) (.bool true) (.o2 .gt x0 (Vn 10000000))) (.ret [.d (Vn 2)]) (.again 1 [.o2 (.add .i64) (Va 10) (Vn 1)]))) (.again 0 [.o2 (.add .i64) (Va 9) (Vn 1)])))) (.call none (.fn 133) [Va 2,.clo 212 (Vl (.ptr (Vl (Va 0) (Vl (Va 1) (Vl (Va 2) (Vl (Va 3) (Vl (Va 4) (Vl (Va 5) (Vl (Va 6) (Vl (Va 7) (Vl (Va 8) .lnil)))))))))) .lnil)] [.cell .bool] (.ite (Va 10) (.ret [.d (Vn 6)]) (.ret [.d (Vn 0)])))))))
theorem Ze5:fnO Tryz.prog mdA 166 [.agg J9]=t166:=by kernel_rfl
noncomputable def t161:R:=.call none (.fn 51) [Va 0] [.cell (.int .i64)] (.ret [.d (Va 9)])
theorem Zea:fnO Tryz.prog mdA 161 [.agg J9]=t161:=by kernel_rfl
noncomputable def t162:R:=.call none (.fn 163) [Va 1] [.cell (.int .i64)] (.ret [.d (Va 9)])
theorem Ze9:fnO Tryz.prog mdA 162 [.agg J9]=t162:=by kernel_rfl
noncomputable def t164:R:=.call none (.fn 165) [Va 2] [.cell (.int .i64)] (.ret [.d (Va 9)])
theorem Ze7:fnO Tryz.prog mdA 164 [.agg J9]=t164:=by kernel_rfl
noncomputable def t91:R:=let x0:T:=.push (.push (.push (.push (.push .nils (Vl (.fn 161) .lnil)) (Vl (.fn 162) .lnil)) (Vl (.fn 164) .lnil)) (Vl (.fn 166) .lnil)) (Vl (.fn 167) .lnil);.fact (.o2 .le (.o1 .len x0) (Vn 140737488355328)) (.loop 0 [Vn 0] [.int .i64] (.ite (.o2 .lt (Va 9) (.o1 .len x0)) (.need (.o2 .le (Vn 0) (Va 9)) (.call none (.val (.idx x0 (Va 9) 0 .fn)) [Vl (Va 0) (Vl (Va 1) (Vl (Va 2) (Vl (Va 3) (Vl (Va 4) (Vl (Va 5) (Vl (Va 6) (Vl (Va 7) (Vl (Va 8) .lnil))))))))] [.cell (.int .i64)] (.ite (.o2 .ne (Va 10) (Vn 0)) (.ret [.d (Va 10)]) (.again 0 [.o2 (.add .i64) (Va 9) (Vn 1)])))) (.ret [.d (Vn 0)])))
theorem ZfS:fnO Tryz.prog mdA 91 [.agg J9]=t91:=by kernel_rfl
def Tim.all (t:Tim):List Int:=[t.up,t.down,t.pos,t.col,t.beam,t.delay]
def Z1G:List Int→Bool
 | []=>true
 |x::xs=>if Jd x then Z1G xs else false
theorem Z8Q (t:Tim):Z1G t.all=Z9P t:=by
 simp only [Tim.all,Z1G,Z9P];cases Jd t.up <;> cases Jd t.down <;> cases Jd t.pos <;> cases Jd t.col <;> cases Jd t.beam <;> cases Jd t.delay <;> rfl
def Z2h (c:Cue):Int:=if Wq c.parts≠0 then Wq c.parts else if c.moves.any (fun m=>decide ((c.parts.length:Int) < m.part))then 6 else 0
theorem Zbi:Contract Tryz.prog 166 fun args K=>∃c:Cue,c.Ok∧args=[.agg c.enc]∧K [.d (.int .i64 (Z2h c))]:=by
 refine .of (by kernel_rfl) Ze5 ?_;rintro _ K ⟨c,hc,rfl,hK⟩ hsm;refine⟨c.enc,rfl,by simpa [Y1,PK.kinds]using Cue.has hc,?_⟩;have hK':∀v,Z2h c=v→K [.d (.int .i64 v)]:=by rintro _ rfl;exact hK
 clear hK;have hK2:∀n v:Int,Wq c.parts=n→(if n≠0 then n else if c.moves.any (fun m=>decide ((c.parts.length:Int) < m.part))then 6 else 0)=v→K [.d (.int .i64 v)]:=by rintro _ _ rfl rfl;exact hK' _ rfl
 clear hK';simp only [zz,reduceCtorEq,t166,Cue.enc,List.length_map];refine fun hcap=>⟨fun h=>hK2 12 _ (by unfold Wq;rw [if_pos (by omega)]) rfl,fun h=>⟨fun h'=>hK2 5 _ (by unfold Wq;rw [if_neg (by omega),if_pos (by omega)]) rfl,fun h'=>?_⟩⟩
 have hp:Wq c.parts=Wy c.parts:=by unfold Wq;rw [if_neg (by omega),if_neg (by omega)]
 rw [hp]at hK2;refine Jb c.parts (fun i l' (_:Unit)=>Wy l') (fun i _=>[.int .i64 i]) () _ rfl 0 (fun _ _=>rfl) rfl ?_ ?_
 · intro i hi _ hgo;simp only [Wy]at hgo;rw [←Z8Q]at hgo;simp only [zz,reduceCtorEq,hi,List.length_map];refine⟨by omega,?_⟩;refine Jb (c.parts[i]).all (fun _ l (_:Unit)=>Z1G l) (fun i _=>[.int .i64 i]) () _ rfl 0 (fun _ _=>rfl) rfl ?_ ?_
   · intro j hj _ hg;have hj6:j < 6:=hj;have e:∀k:Go.Sx.K,([D.int .i64 (c.parts[i]).up,.int .i64 (c.parts[i]).down,.int .i64 (c.parts[i]).pos,.int .i64 (c.parts[i]).col,.int .i64 (c.parts[i]).beam,.int .i64 (c.parts[i]).delay]).getD j k.zero=.int .i64 (c.parts[i]).all[j]:=by
       intro k
       match j,hj6 with
       |0,_=>rfl
       |1,_=>rfl
       |2,_=>rfl
       |3,_=>rfl
       |4,_=>rfl
       |5,_=>rfl
     simp only [Z1G]at hg;simp only [zz,reduceCtorEq,D.cellAt,J0 hi,Tim.enc,e];generalize (c.parts[i]).all[j]=x at hg ⊢;refine⟨fun _=>⟨by omega,fun hx=>?_,fun hx=>⟨(),by rw [Z1] <;> omega,?_⟩⟩,fun hn=>absurd hj6 (by omega)⟩
     · have hx':¬Jd x=true:=by simp [Jd];omega
       rw [if_neg hx']at hg;rw [←hg]at hgo;simp at hgo;exact hK2 2 _ hgo.symm rfl
     · have hx':Jd x=true:=by simp [Jd];omega
       rw [if_pos hx']at hg;exact hg
   · intro _ hg;simp only [Z1G]at hg;rw [←hg]at hgo;have h6:(c.parts[i]).all.length=6:=rfl;simp only [zz,reduceCtorEq,h6,ZbT _ _ (show(0:Nat)≠1 by decide)];refine⟨fun h=>absurd h (by simp),fun _=>⟨(),by rw [Z1] <;> omega,by simpa using hgo⟩⟩
 · intro _ hgo;simp only [Wy]at hgo;simp only [zz,reduceCtorEq,List.length_map];have hs:YC Tryz.prog (.clo 212 [.ptr c.enc]) Mov.enc c.moves (fun m=>decide ((c.parts.length:Int) < m.part)):=by
     refine⟨fun as_ K=>∃m:Mov,m.Ok∧as_=[.agg m.enc]∧K [.d (.bool (decide ((c.parts.length:Int) < m.part)))],FvC.of c212 Z7n ?_,fun m hm=>⟨m,hc.moves m hm,rfl,rfl⟩⟩;rintro _ K ⟨m,hm,rfl,hK⟩;refine⟨⟨m,c,hm,hc,rfl,hK⟩,J4 [some (.agg mvKs)] (by kernel_rfl) ?_⟩;intro i rk d h1 h2;cases i with
     |zero=>simp at h1 h2;subst h1 h2;exact Mov.has hm
     |succ i=>simp at h1
   refine Z0 Z0A ⟨c.moves,_,212,[.ptr c.enc],hc.moves,rfl,hs,_,rfl,?_⟩;simp only [zz,reduceCtorEq];refine⟨fun h=>hK2 0 _ hgo.symm (by simp [h]),fun h=>hK2 0 _ hgo.symm (by simp [h])⟩
abbrev ZbH (f:FuncId) (e:Cue→Int):Prop:=Contract Tryz.prog f fun args K=>∃c:Cue,c.Ok∧args=[.agg c.enc]∧K [.d (.int .i64 (e c))]
theorem ZfB:ZbH 161 fun c=>Z4 c.num:=by
 refine .of (by kernel_rfl) Zea ?_;rintro _ K ⟨c,hc,rfl,hK⟩ hsm;refine⟨c.enc,rfl,by simpa [Y1,PK.kinds]using Cue.has hc,?_⟩;refine Z0 Z02 ⟨c.num,rfl,_,rfl,?_⟩;simp only [zz,reduceCtorEq,Cue.enc];exact hK
theorem ZfA:ZbH 162 fun c=>Yv c.label:=by
 refine .of (by kernel_rfl) Ze9 ?_;rintro _ K ⟨c,hc,rfl,hK⟩ hsm;refine⟨c.enc,rfl,by simpa [Y1,PK.kinds]using Cue.has hc,?_⟩;refine Z0 Zbl ⟨c.label,rfl,_,rfl,?_⟩;simp only [zz,reduceCtorEq,Cue.enc];exact hK
theorem Zfz:ZbH 164 fun c=>Wi c.moves:=by
 refine .of (by kernel_rfl) Ze7 ?_;rintro _ K ⟨c,hc,rfl,hK⟩ hsm;refine⟨c.enc,rfl,by simpa [Y1,PK.kinds]using Cue.has hc,?_⟩;refine Z0 Zbj ⟨c.moves,hc.moves,rfl,_,rfl,?_⟩;simp only [zz,reduceCtorEq,Cue.enc];exact hK
theorem Z1d {f:FuncId} {e:Cue→Int} (h:ZbH f e) (hp:(Tryz.prog.funcs[f]?).map (fun fn=>fn.params.toList.map (rkOf Tryz.prog))=some [some (.agg J9)]) {c:Cue} (hc:c.Ok):
   FvC Tryz.prog (.clo f []) fun as_ K=>as_=[.agg c.enc]∧K [.d (.int .i64 (e c))]:=by
 refine⟨h.1,_,h,?_⟩;rintro _ K ⟨rfl,hK⟩;refine⟨⟨c,hc,by simp,hK⟩,J4 _ hp ?_⟩;intro i rk d h1 h2;cases i with
 |zero=>simp at h1 h2;subst h1 h2;exact Cue.has hc
 |succ i=>simp at h1
def Z0y:List Int→Int
 | []=>0
 |e::es=>if e≠0 then e else Z0y es
def Zbp (c:Cue):Int:=Z0y [Z4 c.num,Yv c.label,Wi c.moves,Z2h c,YD c]
theorem Z4v (n:Nat):∀l:List Mov,YO n l=!l.any (fun m=>decide ((n:Int) < m.part))
 | []=>rfl
 | m::ms=>by
   simp only [YO,List.any_cons,Z4v n ms];by_cases h:(n:Int) < m.part <;> simp [h]
theorem Zbo (c:Cue):Zbp c=J5 c:=by
 simp only [Zbp,Z0y,J5,Z2h,Z4v];by_cases h1:Z4 c.num=0 <;> by_cases h2:Yv c.label=0 <;> by_cases h3:Wi c.moves=0 <;> by_cases h4:Wq c.parts=0 <;> simp [h1,h2,h3,h4]
 by_cases hn:YD c=0
 · rw [hn];simp
 · simp only [hn,if_false];split <;> rfl
theorem ZaU {n:Int} (h:0≤n∧n≤100):I64 n:=⟨by omega,by omega⟩
theorem Z1u (s:List UInt8):0≤Z4 s∧Z4 s≤100:=by unfold Z4;(repeat' split) <;> simp
theorem Z5q (p:Par):0≤Z3 p∧Z3 p≤100:=by unfold Z3;split <;> simp
theorem Z59 (p:Val):0≤J8 p∧J8 p≤100:=by unfold J8;split <;> simp
theorem Z1l:∀s,0≤ZD s∧ZD s≤100
 | []=>by simp [ZD]
 | c::cs=>by
   have:=Z1l cs;simp only [ZD];split <;> omega
theorem Z5F (s:List UInt8):0≤Yv s∧Yv s≤100:=by
 have:=Z1l s;unfold Yv;split <;> omega
theorem Z1g (xs:List Mov):∀(l:List Mov) (i:Nat),0≤Yg xs i l∧Yg xs i l≤100
 | [],_=>by simp [Yg]
 | m::ms,i=>by
   have h1:=Z1g xs ms (i+1);have h2:=Z5q m.pa;have h3:=Z59 m.va;simp only [Yg]
   (repeat' split) <;> omega
theorem Z5w (l:List Mov):0≤Wi l∧Wi l≤100:=by
 have:=Z1g l l 0;unfold Wi;split <;> omega
theorem Z1a:∀l,0≤Wy l∧Wy l≤100
 | []=>by simp [Wy]
 | c::cs=>by
   have:=Z1a cs;simp only [Wy];split <;> omega
theorem Z6p (c:Cue):0≤Z2h c∧Z2h c≤100:=by
 have:=Z1a c.parts;unfold Z2h Wq
 (repeat' split) <;> omega
theorem Z6z (c:Cue):0≤YD c∧YD c≤100:=by
 have:=Z1u c.link;unfold YD
 (repeat' split) <;> omega
theorem Z1v:ZbH 91 J5:=by
 refine .of (by kernel_rfl) ZfS ?_;rintro _ K ⟨c,hc,rfl,hK⟩ hsm;refine⟨c.enc,rfl,by simpa [Y1,PK.kinds]using Cue.has hc,?_⟩;rw [←Zbo]at hK;have f1:=Z1d ZfB (by kernel_rfl) hc;have f2:=Z1d ZfA (by kernel_rfl) hc;have f3:=Z1d Zfz (by kernel_rfl) hc;have f4:=Z1d Zbi (by kernel_rfl) hc;have f5:=Z1d ZcK (by kernel_rfl) hc;simp only [Zbp]at hK;simp only [zz,reduceCtorEq,t91,Cue.enc];intro _;refine Jb [Z4 c.num,Yv c.label,Wi c.moves,Z2h c,YD c] (fun _ l (_:Unit)=>Z0y l) (fun i _=>[.int .i64 i]) () _ rfl 0 (fun _ _=>rfl) rfl ?_ ?_
 · intro i hi _ hgo;simp only [zz,reduceCtorEq];simp only [List.length_cons,List.length_nil]at hi ⊢;have hI:∀ {n:Int},(0≤n∧n≤100)→HasKs (RK.all [.cell (.int .i64)]) [.int .i64 n]:=fun h=>⟨Y2 (ZaU h),trivial⟩
   match i,hi with
   | 0,_=>
     refine⟨fun _=>⟨by simp,Z7 f1 ⟨rfl,_,rfl,hI (Z1u _),?_⟩⟩,fun h=>by simp at h⟩;simp only [zz,reduceCtorEq];simp only [List.getElem_cons_zero,Nat.zero_add,List.drop_succ_cons,List.drop_zero,Z0y]at hgo hK ⊢;grind [Z1]
   | 1,_=>
     refine⟨fun _=>⟨by simp,Z7 f2 ⟨rfl,_,rfl,hI (Z5F _),?_⟩⟩,fun h=>by simp at h⟩;simp only [zz,reduceCtorEq];simp only [List.getElem_cons_succ,List.getElem_cons_zero,Nat.zero_add,List.drop_succ_cons,List.drop_zero,List.drop_nil,Z0y]at hgo hK ⊢;grind [Z1]
   | 2,_=>
     refine⟨fun _=>⟨by simp,Z7 f3 ⟨rfl,_,rfl,hI (Z5w _),?_⟩⟩,fun h=>by simp at h⟩;simp only [zz,reduceCtorEq];simp only [List.getElem_cons_succ,List.getElem_cons_zero,Nat.zero_add,List.drop_succ_cons,List.drop_zero,List.drop_nil,Z0y]at hgo hK ⊢;grind [Z1]
   | 3,_=>
     refine⟨fun _=>⟨by simp,Z7 f4 ⟨rfl,_,rfl,hI (Z6p _),?_⟩⟩,fun h=>by simp at h⟩;simp only [zz,reduceCtorEq];simp only [List.getElem_cons_succ,List.getElem_cons_zero,Nat.zero_add,List.drop_succ_cons,List.drop_zero,List.drop_nil,Z0y]at hgo hK ⊢;grind [Z1]
   | 4,_=>
     refine⟨fun _=>⟨by simp,Z7 f5 ⟨rfl,_,rfl,hI (Z6z _),?_⟩⟩,fun h=>by simp at h⟩;simp only [zz,reduceCtorEq];simp only [List.getElem_cons_succ,List.getElem_cons_zero,Nat.zero_add,List.drop_succ_cons,List.drop_zero,List.drop_nil,Z0y]at hgo hK ⊢;grind [Z1]
 · intro _ hgo;simp only [zz,reduceCtorEq];simp only [List.length_cons,List.length_nil,Z0y]at hgo hK ⊢;refine⟨fun h=>by simp at h,fun _=>?_⟩;rw [←hgo]at hK;exact hK
noncomputable def t45:R:=let x0:T:=.o2 .gt (Va 3) (Vn 0);let x1:T:=.o2 (.sub .i64) (Va 3) (Vn 1);let x2:T:=.o1 .len (Va 2);.ite (.ite (.ite (.ite (.o2 .lt (Va 0) (Vn 1)) (.bool true) (.o2 .gt (Va 0) (Vn 1048576))) (.bool true) (.o2 .lt (Va 1) (Vn 0))) (.bool true) (.o2 .gt (Va 1) (Vn 9))) (.ret [.d (Vn 2)]) (.fact (.o2 .le x2 (Vn 140737488355328)) (.ite (.o2 .gt x2 (Vn 64)) (.ret [.d (Vn 5)]) (.loop 0 [Vn 0] [.int .i64] (.ite (.o2 .lt (Va 3) x2) (.need (.o2 .le (Vn 0) (Va 3)) (.call none (.fn 108) [Vl (.idx (Va 2) (Va 3) 0 .str) (Vl (.idx (Va 2) (Va 3) 1 .str) (Vl (.idx (Va 2) (Va 3) 2 (.slice mvKs)) (Vl (.idx (Va 2) (Va 3) 3 (.slice tmKs)) (Vl (.idx (Va 2) (Va 3) 4 .bool) (Vl (.idx (Va 2) (Va 3) 5 .bool) (Vl (.idx (Va 2) (Va 3) 6 (.int .i64)) (Vl (.idx (Va 2) (Va 3) 7 .str) (Vl (.idx (Va 2) (Va 3) 8 (.int .i64)) .lnil))))))))] [.cell (.int .i64)] (.ite (.o2 .ne (Va 4) (Vn 0)) (.ret [.d (Va 4)]) (.need (.ite x0 (.o2 .le (Vn 0) x1) (.bool true)) (.need (.ite x0 (.o2 .lt x1 x2) (.bool true)) (.call (some x0) (.fn 109) [.idx (Va 2) x1 0 .str,.idx (Va 2) (Va 3) 0 .str] [.cell (.int .i64)] (.ite (.ite x0 (.o2 .ge (Va 5) (Vn 0)) (.bool false)) (.ret [.d (Vn 9)]) (.again 0 [.o2 (.add .i64) (Va 3) (Vn 1)])))))))) (.ret [.d (Vn 0)])))))
theorem Zgx:fnO Tryz.prog mdA 45 [.agg liKs]=t45:=by kernel_rfl
noncomputable def t29:R:=let x0:T:=.o2 .gt (Va 3) (Vn 0);let x1:T:=.o2 (.sub .i64) (Va 3) (Vn 1);let x2:T:=.o1 .len (Va 2);.ite (.ite (.ite (.ite (.o2 .lt (Va 0) (Vn 1)) (.bool true) (.o2 .gt (Va 0) (Vn 1048576))) (.bool true) (.o2 .lt (Va 1) (Vn 0))) (.bool true) (.o2 .gt (Va 1) (Vn 9))) (.ret [.d (Vn 2)]) (.fact (.o2 .le x2 (Vn 140737488355328)) (.ite (.o2 .gt x2 (Vn 64)) (.ret [.d (Vn 5)]) (.loop 0 [Vn 0] [.int .i64] (.ite (.o2 .lt (Va 3) x2) (.need (.o2 .le (Vn 0) (Va 3)) (.call none (.fn 91) [Vl (.idx (Va 2) (Va 3) 0 .str) (Vl (.idx (Va 2) (Va 3) 1 .str) (Vl (.idx (Va 2) (Va 3) 2 (.slice mvKs)) (Vl (.idx (Va 2) (Va 3) 3 (.slice tmKs)) (Vl (.idx (Va 2) (Va 3) 4 .bool) (Vl (.idx (Va 2) (Va 3) 5 .bool) (Vl (.idx (Va 2) (Va 3) 6 (.int .i64)) (Vl (.idx (Va 2) (Va 3) 7 .str) (Vl (.idx (Va 2) (Va 3) 8 (.int .i64)) .lnil))))))))] [.cell (.int .i64)] (.ite (.o2 .ne (Va 4) (Vn 0)) (.ret [.d (Va 4)]) (.need (.ite x0 (.o2 .le (Vn 0) x1) (.bool true)) (.need (.ite x0 (.o2 .lt x1 x2) (.bool true)) (.call (some x0) (.fn 92) [.idx (Va 2) x1 0 .str,.idx (Va 2) (Va 3) 0 .str] [.cell (.int .i64)] (.ite (.ite x0 (.o2 .ge (Va 5) (Vn 0)) (.bool false)) (.ret [.d (Vn 9)]) (.again 0 [.o2 (.add .i64) (Va 3) (Vn 1)])))))))) (.ret [.d (Vn 0)])))))
theorem ZgF:fnO Tryz.prog mdA 29 [.agg liKs]=t29:=by kernel_rfl
noncomputable def t15:R:=.loop 0 [Vn 0] [.int .i64] (.fact (.o2 .le (.o1 .len (Va 2)) (Vn 140737488355328)) (.ite (.o2 .lt (Va 4) (.o1 .len (Va 2))) (.need (.o2 .le (Vn 0) (Va 4)) (.ite (.o2 .eq (.idx (Va 2) (Va 4) 0 .str) (Va 3)) (.ret [.d (Va 4)]) (.again 0 [.o2 (.add .i64) (Va 4) (Vn 1)]))) (.ret [.d (Vn (-1))])))
theorem ZgN:fnO Tryz.prog mdA 15 [.agg liKs,.cell .str]=t15:=by kernel_rfl
noncomputable def t128:R:=.call none (.fn 29) [Vl (Va 0) (Vl (Va 1) (Vl (Va 2) .lnil))] [.cell (.int .i64)] (.ite (.o2 .ne (Va 4) (Vn 0)) (.ret [.d (Va 4)]) (.fact (.o2 .le (.o1 .len (Va 3)) (Vn 140737488355328)) (.loop 0 [Vn 0] [.int .i64] (.ite (.o2 .lt (Va 5) (.o1 .len (Va 3))) (.need (.o2 .le (Vn 0) (Va 5)) (.call none (.fn 51) [.idx (Va 3) (Va 5) 0 .str] [.cell (.int .i64)] (.ite (.o2 .ne (Va 6) (Vn 0)) (.ret [.d (Va 6)]) (.again 0 [.o2 (.add .i64) (Va 5) (Vn 1)])))) (.ret [.d (Vn 0)])))))
theorem Zex:fnO Tryz.prog mdA 128 [.agg liKs,.cell (.slice [.str])]=t128:=by kernel_rfl
instance:Inhabited Cue:=⟨⟨[],[],[],[],false,false,0,[],0⟩⟩
def ZI (ord:List UInt8→List UInt8→Int) (xs:List Cue):Nat→List Cue→Int
 |_,[]=>0
 |i,c::cs=>if J5 c≠0 then J5 c else if 0 < i∧0≤ord (xs[i - 1]!).num c.num then 9 else ZI ord xs (i+1) cs
def W8 (ord:List UInt8→List UInt8→Int) (l:Lis):Int:=
 if l.num < 1∨1048576 < l.num∨l.prio < 0∨9 < l.prio then 2 else if 64 < l.cues.length then 5 else ZI ord l.cues 0 l.cues
theorem Z1Z:Contract Tryz.prog 45 fun args K=>∃l:Lis,l.Ok∧args=[.agg l.enc]∧K [.d (.int .i64 (W8 W4 l))]:=by
 refine .of (by kernel_rfl) Zgx ?_;rintro _ K ⟨l,hl,rfl,hK⟩ hsm;refine⟨l.enc,rfl,by simpa [Y1,PK.kinds]using Lis.has hl,?_⟩;simp only [W8]at hK;simp only [zz,reduceCtorEq,t45,Lis.enc,List.length_map];refine⟨fun h=>by rw [if_pos (by omega)]at hK;exact hK,fun h0 hcap=>⟨fun h=>by rw [if_neg (by omega),if_pos (by omega)]at hK;exact hK,fun h=>?_⟩⟩;rw [if_neg (by omega),if_neg (by omega)]at hK;refine Jb l.cues (fun i l' (_:Unit)=>ZI W4 l.cues i l') (fun i _=>[.int .i64 i]) () _ rfl 0 (fun _ _=>rfl) rfl ?_ ?_
 · intro i hi _ hgo;simp only [ZI]at hgo;have hc:=hl.cues l.cues[i] (List.getElem_mem hi);have hw:0 < i→wr64 (↑i - 1)=((i - 1:Nat):Int):=fun h=>by rw [Z1] <;> omega
   simp only [zz,reduceCtorEq,hi,List.length_map];refine⟨by omega,Z0 Z9w ⟨l.cues[i],hc,by simp only [zz,reduceCtorEq,J0 hi,Cue.enc],_,rfl,?_⟩⟩;simp only [zz,reduceCtorEq,List.length_map];by_cases h1:J5 l.cues[i]=0
   · simp only [h1,ne_eq,not_true_eq_false,if_false]at hgo ⊢;refine⟨fun h=>by simp at h,fun _=>⟨?_,?_,?_⟩⟩
     · split
       · rename_i h0;rw [hw h0];simp
       · rfl
     · split
       · rename_i h0;rw [hw h0];simp;omega
       · rfl
     · have hp:∀h:0 < i,l.cues[i - 1]! =l.cues[i - 1]'(by omega):=fun h=>getElem!_pos l.cues (i - 1) (by omega)
       refine Z5 Z95 (decide (0 < i)) [.int .i64 (if 0 < i then W4 (l.cues[i - 1]!).num (l.cues[i]).num else 0)] ?_ (fun h=>⟨(l.cues[i - 1]!).num,(l.cues[i]).num,?_,?_⟩) (fun h=>?_) ?_
       · simp only [zz,reduceCtorEq]
       · have h:0 < i:=by simpa using h
         rw [hp h];simp only [zz,reduceCtorEq,hw h,J0 hi,J0 (show i - 1 < l.cues.length by omega),Cue.enc]
       · have h:0 < i:=by simpa using h
         rw [if_pos h];rfl
       · have h:¬0 < i:=by simpa using h
         rw [if_neg h];rfl
       · simp only [zz,reduceCtorEq];grind [Z1]
   · simp only [h1,ne_eq,not_false_eq_true,if_true]at hgo ⊢;rw [←hgo]at hK;exact⟨fun _=>hK,fun h=>by simp [h1]at h⟩
 · intro _ hgo;simp only [ZI]at hgo;simp only [zz,reduceCtorEq,List.length_map];rw [←hgo]at hK;exact hK
theorem clCheck_ok:Contract Tryz.prog 29 fun args K=>∃l:Lis,l.Ok∧args=[.agg l.enc]∧K [.d (.int .i64 (W8 comp l))]:=by
 refine .of (by kernel_rfl) ZgF ?_;rintro _ K ⟨l,hl,rfl,hK⟩ hsm;refine⟨l.enc,rfl,by simpa [Y1,PK.kinds]using Lis.has hl,?_⟩;simp only [W8]at hK;simp only [zz,reduceCtorEq,t29,Lis.enc,List.length_map];refine⟨fun h=>by rw [if_pos (by omega)]at hK;exact hK,fun h0 hcap=>⟨fun h=>by rw [if_neg (by omega),if_pos (by omega)]at hK;exact hK,fun h=>?_⟩⟩;rw [if_neg (by omega),if_neg (by omega)]at hK;refine Jb l.cues (fun i l' (_:Unit)=>ZI comp l.cues i l') (fun i _=>[.int .i64 i]) () _ rfl 0 (fun _ _=>rfl) rfl ?_ ?_
 · intro i hi _ hgo;simp only [ZI]at hgo;have hc:=hl.cues l.cues[i] (List.getElem_mem hi);have hw:0 < i→wr64 (↑i - 1)=((i - 1:Nat):Int):=fun h=>by rw [Z1] <;> omega
   simp only [zz,reduceCtorEq,hi,List.length_map];refine⟨by omega,Z0 Z1v ⟨l.cues[i],hc,by simp only [zz,reduceCtorEq,J0 hi,Cue.enc],_,rfl,?_⟩⟩;simp only [zz,reduceCtorEq,List.length_map];by_cases h1:J5 l.cues[i]=0
   · simp only [h1,ne_eq,not_true_eq_false,if_false]at hgo ⊢;refine⟨fun h=>by simp at h,fun _=>⟨?_,?_,?_⟩⟩
     · split
       · rename_i h0;rw [hw h0];simp
       · rfl
     · split
       · rename_i h0;rw [hw h0];simp;omega
       · rfl
     · have hp:∀h:0 < i,l.cues[i - 1]! =l.cues[i - 1]'(by omega):=fun h=>getElem!_pos l.cues (i - 1) (by omega)
       refine Z5 Z1X (decide (0 < i)) [.int .i64 (if 0 < i then comp (l.cues[i - 1]!).num (l.cues[i]).num else 0)] ?_ (fun h=>⟨(l.cues[i - 1]!).num,(l.cues[i]).num,?_,?_⟩) (fun h=>?_) ?_
       · simp only [zz,reduceCtorEq]
       · have h:0 < i:=by simpa using h
         rw [hp h];simp only [zz,reduceCtorEq,hw h,J0 hi,J0 (show i - 1 < l.cues.length by omega),Cue.enc]
       · have h:0 < i:=by simpa using h
         rw [if_pos h];rfl
       · have h:¬0 < i:=by simpa using h
         rw [if_neg h];rfl
       · simp only [zz,reduceCtorEq];grind [Z1]
   · simp only [h1,ne_eq,not_false_eq_true,if_true]at hgo ⊢;rw [←hgo]at hK;exact⟨fun _=>hK,fun h=>by simp [h1]at h⟩
 · intro _ hgo;simp only [ZI]at hgo;simp only [zz,reduceCtorEq,List.length_map];rw [←hgo]at hK;exact hK
noncomputable def t226:R:=.ret [.d (.o2 .eq (Va 0) (.fld (Va 9) 0 .str))]
theorem Zdq:fnO Tryz.prog mdA 226 ([.agg J9]++[.cell (.ptr [.str])])=t226:=by kernel_rfl
theorem c226:J2 Tryz.prog 226=true:=by kernel_rfl
noncomputable def t31:R:=.fact (.o2 .le (.o1 .len (Va 0)) (Vn 140737488355328)) (.loop 0 [Vn 0] [.int .i64] (.ite (.o2 .lt (Va 2) (.o1 .len (Va 0))) (.need (.o2 .le (Vn 0) (Va 2)) (.call none (.val (Va 1)) [Vl (.idx (Va 0) (Va 2) 0 .str) (Vl (.idx (Va 0) (Va 2) 1 .str) (Vl (.idx (Va 0) (Va 2) 2 (.slice mvKs)) (Vl (.idx (Va 0) (Va 2) 3 (.slice tmKs)) (Vl (.idx (Va 0) (Va 2) 4 .bool) (Vl (.idx (Va 0) (Va 2) 5 .bool) (Vl (.idx (Va 0) (Va 2) 6 (.int .i64)) (Vl (.idx (Va 0) (Va 2) 7 .str) (Vl (.idx (Va 0) (Va 2) 8 (.int .i64)) .lnil))))))))] [.cell .bool] (.ite (Va 3) (.ret [.d (Va 2)]) (.again 0 [.o2 (.add .i64) (Va 2) (Vn 1)])))) (.ret [.d (Vn (-1))])))
theorem ZgE:fnO Tryz.prog mdA 31 [.cell (.slice J9),.cell .fn]=t31:=by kernel_rfl
noncomputable def t198:R:=.call none (.fn 31) [Va 2,.clo 226 (Vl (.ptr (Vl (Va 3) .lnil)) .lnil)] [.cell (.int .i64)] (.ret [.d (Va 4)])
theorem ZdH:fnO Tryz.prog mdA 198 [.agg liKs,.cell .str]=t198:=by kernel_rfl
theorem ZW {c:Cue} (h:J5 c=0):Z4 c.num=0:=by
 simp only [J5]at h;split at h
 · exact h
 · rename_i h1;simpa using h1
theorem Zbn (l:Lis):W8 comp l=W8 W4 l:=by
 have key:∀(cs:List Cue) (i:Nat) (xs:List Cue),(∀j,j < i→J5 (xs[j]!)=0)→cs=xs.drop i→ZI comp xs i cs=ZI W4 xs i cs:=by
   intro cs;induction cs with
   |nil=>intro i xs _ _;rfl
   | cons c cs ih=>
     intro i xs hx he;have hlt:i < xs.length:=by
       rcases Nat.lt_or_ge i xs.length with h|h
       · exact h
       · rw [List.drop_eq_nil_of_le h]at he;cases he
     rw [List.drop_eq_getElem_cons hlt]at he;obtain⟨rfl,rfl⟩:=List.cons.inj he;simp only [ZI];by_cases h:J5 xs[i]=0
     · have hnext:=ih (i+1) xs (fun j hj=>by
         rcases Nat.lt_succ_iff_lt_or_eq.1 hj with hj|rfl
         · exact hx j hj
         · rw [getElem!_pos xs j hlt];exact h) rfl
       have hc:0 < i→comp (xs[i - 1]!).num (xs[i]).num=W4 (xs[i - 1]!).num (xs[i]).num:=fun h0=>Z1Y (ZW (hx (i - 1) (by omega))) (ZW h)
       by_cases h0:0 < i
       · rw [hc h0,hnext]
       · simp only [h0,false_and,if_false,hnext]
     · rw [if_pos (by simpa using h),if_pos (by simpa using h)]
 simp only [W8,key l.cues 0 l.cues (by simp) rfl]
noncomputable def t171:R:=.ret [.d (Vl (Va 0) (Vl (Va 1) (Vl (Va 3) .lnil)))]
theorem Ze0:fnO Tryz.prog mdA 171 [.agg liKs,.cell (.slice J9)]=t171:=by kernel_rfl
noncomputable def t146:R:=let x0:T:=.o2 .app (Va 12) (.push .nils (Vl (Va 3) (Vl (Va 4) (Vl (Va 5) (Vl (Va 6) (Vl (Va 7) (Vl (Va 8) (Vl (Va 9) (Vl (Va 10) (Vl (Va 11) .lnil))))))))));let x3:T:=.o1 .not (Va 13);let x4:T:=.o2 .ge (Va 15) (Vn 0);let x5:List K:=tmKs;let x6:List K:=mvKs;let x7:T:=.o2 .le (.o1 .len x0) (Vn 1172812402961);let x8:T:=.o2 .ne (Va 15) (Vn 0);let x1:T:=.o2 .app (Va 16) (.push .nils (Vl (.idx (Va 2) (Va 14) 0 .str) (Vl (.idx (Va 2) (Va 14) 1 .str) (Vl (.idx (Va 2) (Va 14) 2 (.slice x6)) (Vl (.idx (Va 2) (Va 14) 3 (.slice x5)) (Vl (.idx (Va 2) (Va 14) 4 .bool) (Vl (.idx (Va 2) (Va 14) 5 .bool) (Vl (.idx (Va 2) (Va 14) 6 (.int .i64)) (Vl (.idx (Va 2) (Va 14) 7 .str) (Vl (.idx (Va 2) (Va 14) 8 (.int .i64)) .lnil))))))))));let x2:List K:=[.str,.str,.slice x6,.slice x5,.bool,.bool,.int .i64,.str,.int .i64];.loop 0 [.nils,.bool false,Vn 0] [.slice x2,.bool,.int .i64] (.fact (.o2 .le (.o1 .len (Va 2)) (Vn 140737488355328)) (.ite (.o2 .lt (Va 14) (.o1 .len (Va 2))) (.need (.o2 .le (Vn 0) (Va 14)) (.call none (.fn 109) [.idx (Va 2) (Va 14) 0 .str,Va 3] [.cell (.int .i64)] (.need (.ite (.ite x3 x4 (.bool false)) x7 (.bool true)) (.lets [.ite (.ite x3 x4 (.bool false)) x0 (Va 12),.ite (.ite x3 x4 (.bool false)) (.bool true) (Va 13)] (.need (.ite x8 (.o2 .le (.o1 .len x1) (Vn 1172812402961)) (.bool true)) (.lets [.ite x8 x1 (Va 16)] (.again 0 [Va 18,Va 17,.o2 (.add .i64) (Va 14) (Vn 1)]))))))) (.need (.ite x3 x7 (.bool true)) (.lets [.ite x3 x0 (Va 12)] (.call none (.fn 171) [Vl (Va 0) (Vl (Va 1) (Vl (Va 2) .lnil)),Va 15] [.agg [.int .i64,.int .i64,.slice x2]] (.ret [.d (Vl (Va 16) (Vl (Va 17) (Vl (Va 18) .lnil)))]))))))
theorem Ji {P:Program} {F:Option Nat→List RV→Prop} {X A B:Type} {l:Nat} {inits:List T} {ks:List Go.Sx.K} {body:R} {ags:Ags} {ρ:List D} (xs:List X) (go:Nat→List X→A→B) (enc:Nat→A→List D) (I:Nat→A→Prop) (a0:A) (R0:B) (hR:go 0 xs a0=R0) (hI:I 0 a0) (p:Nat)
   (hp:∀i a,(enc i a)[p]? =some (.int .i64 (i:Nat))) (h0:inits.map (den ρ)=enc 0 a0)
   (round:∀i (hi:i < xs.length) a,I i a→go i (xs[i]::xs.drop (i+1)) a=R0→
     denR P F noK body (Jh ags l fun c ys=>c=ags.cnt∧∃a',ys=enc (i+1) a'∧I (i+1) a'∧go (i+1) (xs.drop (i+1)) a'=R0) (ρ++enc i a))
   (fin:∀a,I xs.length a→go xs.length [] a=R0→denR P F noK body (Jh ags l fun c ys=>False) (ρ++enc xs.length a)):denR P F noK (.loop l inits ks body) ags ρ:=by
 simp only [denR];refine⟨fun c ys=>c=ags.cnt∧∃i a,i≤xs.length∧ys=enc i a∧I i a∧go i (xs.drop i) a=R0,fun _ ys=>match ys[p]? with|some (.int _ i)=>xs.length - i.toNat|_=>0,⟨rfl,0,a0,Nat.zero_le _,h0,hI,by simpa using hR⟩,?_⟩;rintro _ _ _ ⟨rfl,i,a,hi,rfl,hIi,hgo⟩;rw [Z7a];have mono:∀ {q q':Option Nat→List D→Prop},(∀c ys,q c ys→q' c ys)→denR P F noK body (Jh ags l q) (ρ++enc i a)→denR P F noK body (Jh ags l q') (ρ++enc i a):=fun {q q'} h hd=>Z8w _ (a:=Jh ags l q) (a':=Jh ags l q') (fun n c ys=>by
   simp only [Jh];split
   · exact h c ys
   · exact id) ⟨rfl,rfl⟩ rfl hd
 rcases Nat.lt_or_ge i xs.length with hlt|hge
 · rw [List.drop_eq_getElem_cons hlt]at hgo;refine mono ?_ (round i hlt a hIi hgo);rintro c ys ⟨rfl,a',rfl,h2,h'⟩;refine⟨⟨rfl,i+1,a',hlt,rfl,h2,h'⟩,?_⟩;simp only [hp];omega
 · have:i=xs.length:=by omega
   subst this;rw [List.drop_length]at hgo;exact mono (fun _ _ h=>h.elim) (fin a hIi hgo)
theorem Z4O {l:Lis} (hl:l.Ok) {ks:List K} {ds:List D} (h:HasKs ks ds):HasKs (liKs++ks) (l.enc++ds):=(Lis.has hl).append h
theorem Z1o {l:Lis} (hl:l.Ok) {s:List UInt8}:HasKs (liKs++[.str]) (l.enc++[.str s]):=(Lis.has hl).append (show HasKs [.str] [.str s]from⟨trivial,trivial⟩)
theorem WL {cs:List Cue} (h:∀c∈cs,c.Ok):HasK (.slice J9) (.slice (cs.map Cue.enc)):=Y6 fun c hc=>Cue.has (h c hc)
def Ym (l:Lis) (s:List UInt8):Int:=if W8 W4 l≠0 then W8 W4 l else Z4 s
def place (cs:List Cue) (s:List UInt8):Int:=ZC (fun c=>c.num==s) 0 cs
theorem Z1P:Contract Tryz.prog 15 fun args K=>∃(l:Lis) (s:List UInt8),l.Ok∧args=[.agg l.enc,.str s]∧K [.d (.int .i64 (place l.cues s))]:=by
 refine .of (by kernel_rfl) ZgN ?_;rintro _ K ⟨l,s,hl,rfl,hK⟩ hsm;refine⟨l.enc++[.str s],rfl,by exact Z1o hl,?_⟩;simp only [place]at hK;refine Jb l.cues (fun i l' (_:Unit)=>ZC (fun c:Cue=>c.num==s) i l') (fun i _=>[.int .i64 i]) () _ rfl 0 (fun _ _=>rfl) rfl ?_ ?_
 · intro i hi _ hgo;simp only [ZC]at hgo;simp only [zz,reduceCtorEq,Lis.enc,List.length_map,hi,J0 hi,Cue.enc];refine fun hcap=>⟨by omega,fun h=>?_,fun h=>⟨(),by rw [Z1] <;> omega,?_⟩⟩
   · rw [if_pos (by simpa using h)]at hgo;rw [←hgo]at hK;exact hK
   · rw [if_neg (by simpa using h)]at hgo;exact hgo
 · intro _ hgo;simp only [ZC]at hgo;simp only [zz,reduceCtorEq,Lis.enc,List.length_map];rw [←hgo]at hK;exact fun _=>hK
theorem Z9F:Contract Tryz.prog 171 fun args K=>∃(l:Lis) (cs:List Cue),l.Ok∧(∀c∈cs,c.Ok)∧args=[.agg l.enc,.slice (cs.map Cue.enc)]∧K [.d (.agg (Lis.enc {l with cues:=cs}))]:=by
 refine .of (by kernel_rfl) Ze0 ?_;rintro _ K ⟨l,cs,hl,hcs,rfl,hK⟩ hsm;refine⟨l.enc++[.slice (cs.map Cue.enc)],rfl,by exact Z4O hl ⟨WL hcs,trivial⟩,?_⟩;simp only [zz,reduceCtorEq,t171,Lis.enc,D.list];exact hK
def without (cs:List Cue) (s:List UInt8):List Cue:=cs.filter fun c=>!(c.num==s)
theorem YL:Contract Tryz.prog 29 fun args K=>∃l:Lis,l.Ok∧args=[.agg l.enc]∧K [.d (.int .i64 (W8 W4 l))]:=
 clCheck_ok.weaken fun args K _ ⟨l,h1,h2,h3⟩=>⟨l,h1,h2,by rw [Zbn];exact h3⟩
def txts (ss:List (List UInt8)):List (List D):=ss.map fun s=>[D.str s]
theorem ZbN (ss:List (List UInt8)):HasK (.slice [.str]) (.slice (txts ss)):=Y6 (enc:=fun s=>[D.str s]) fun s _=>⟨trivial,trivial⟩
theorem Z85 (ss:List (List UInt8)):(txts ss).length=ss.length:=by simp [txts]
def WQ:List (List UInt8)→Int
 | []=>0
 |s::ss=>if Z4 s≠0 then Z4 s else WQ ss
def Z0r (l:Lis) (ss:List (List UInt8)):Int:=if W8 W4 l≠0 then W8 W4 l else WQ ss
theorem Z51:Contract Tryz.prog 128 fun args K=>∃(l:Lis) (ss:List (List UInt8)),l.Ok∧args=[.agg l.enc,.slice (txts ss)]∧K [.d (.int .i64 (Z0r l ss))]:=by
 refine .of (by kernel_rfl) Zex ?_;rintro _ K ⟨l,ss,hl,rfl,hK⟩ hsm;refine⟨l.enc++[.slice (txts ss)],rfl,by exact Z4O hl ⟨ZbN ss,trivial⟩,?_⟩;refine Z0 YL ⟨l,hl,rfl,_,rfl,?_⟩;simp only [Z0r]at hK;simp only [zz,reduceCtorEq,Lis.enc];refine⟨fun h=>?_,fun h=>?_⟩
 · rw [if_pos (by simpa using h)]at hK;exact hK
 · rw [if_neg (by simpa using h)]at hK;intro hcap;simp only [Z85]at hcap;refine Jb ss (fun i l' (_:Unit)=>WQ l') (fun i _=>[.int .i64 i]) () _ rfl 0 (fun _ _=>rfl) rfl ?_ ?_
   · intro i hi _ hgo;simp only [WQ]at hgo;simp only [zz,reduceCtorEq,txts,List.length_map,hi];refine⟨by omega,Z0 Z02 ⟨ss[i],by simp only [zz,reduceCtorEq,J0 hi],_,rfl,?_⟩⟩;simp only [zz,reduceCtorEq];refine⟨fun h=>?_,fun h=>⟨(),by rw [Z1] <;> omega,?_⟩⟩
     · rw [if_pos (by simpa using h)]at hgo;rw [←hgo]at hK;exact hK
     · rw [if_neg (by simpa using h)]at hgo;exact hgo
   · intro _ hgo;simp only [WQ]at hgo;simp only [zz,reduceCtorEq,txts,List.length_map];rw [←hgo]at hK;exact hK
theorem Z0O:Contract Tryz.prog 31 fun args K=>∃(l:List Cue) (p:Cue→Bool) (f:FuncId) (caps:List D),(∀m∈l,m.Ok)∧args=[.slice (l.map Cue.enc),.clo f caps]∧YC Tryz.prog (.clo f caps) Cue.enc l p∧K [.d (.int .i64 (ZC p 0 l))]:=by
 refine .of (by kernel_rfl) ZgE ?_;rintro _ K ⟨l,p,f,caps,hl,rfl,⟨sf,hf,hs⟩,hK⟩ hsm;refine⟨[.slice (l.map Cue.enc),.clo f caps],rfl,by simp only [Y1,PK.kinds,List.map_cons,List.map_nil,List.flatten_cons,List.flatten_nil,List.append_nil];exact⟨Y6 fun m hm=>Cue.has (hl m hm),trivial,trivial⟩,?_⟩;simp only [zz,reduceCtorEq,t31,List.length_map];intro hcap;refine Jb l (fun i l' (_:Unit)=>ZC p i l') (fun i _=>[.int .i64 i]) () _ rfl 0 (fun _ _=>rfl) rfl ?_ ?_
 · intro i hi _ hgo;simp only [ZC]at hgo;simp only [zz,reduceCtorEq,hi,List.length_map];refine⟨by omega,Z7 (FvC.up' (s:=sf) (fv:=.clo f caps) hf) ⟨fun rs=>rs=[.d (.bool (p l[i]))],?_,fun rs h=>⟨[.bool (p l[i])],by rw [h];rfl,by simp [RK.all,RK.kinds,HasKs,HasK],?_⟩⟩⟩
   · simp only [zz,reduceCtorEq,J0 hi,Cue.enc];exact hs l[i] (List.getElem_mem hi)
   · simp only [zz,reduceCtorEq];grind [Z1]
 · intro _ hgo;simp only [ZC]at hgo;simp only [zz,reduceCtorEq,List.length_map];rw [←hgo]at hK;exact hK
theorem Z9l:Contract Tryz.prog 226 fun args K=>∃(c:Cue) (s:List UInt8),c.Ok∧args=[.agg c.enc,.ptr [.str s]]∧K [.d (.bool (c.num==s))]:=by
 refine .of c226 Zdq ?_;rintro _ K ⟨c,s,hc,rfl,hK⟩ hsm;refine⟨c.enc++[.ptr [.str s]],rfl,by exact(Cue.has hc).append (show HasKs [.ptr [.str]] [.ptr [.str s]]from⟨⟨trivial,trivial⟩,trivial⟩),?_⟩;simp only [zz,reduceCtorEq,t226,Cue.enc];exact hK
theorem Z6K (l:List Cue) (hl:∀c∈l,c.Ok) (s:List UInt8):YC Tryz.prog (.clo 226 [.ptr [.str s]]) Cue.enc l (fun c=>c.num==s):=by
 refine⟨fun as_ K=>∃c:Cue,c.Ok∧as_=[.agg c.enc]∧K [.d (.bool (c.num==s))],FvC.of c226 Z9l ?_,fun c hc=>⟨c,hl c hc,rfl,rfl⟩⟩;rintro _ K ⟨c,hc,rfl,hK⟩;refine⟨⟨c,s,hc,rfl,hK⟩,J4 [some (.agg J9)] (by kernel_rfl) ?_⟩;intro i rk d h1 h2;cases i with
 |zero=>simp at h1 h2;subst h1 h2;exact Cue.has hc
 |succ i=>simp at h1
theorem Zc3:Contract Tryz.prog 198 fun args K=>∃(l:Lis) (s:List UInt8),l.Ok∧args=[.agg l.enc,.str s]∧K [.d (.int .i64 (place l.cues s))]:=by
 refine .of (by kernel_rfl) ZdH ?_;rintro _ K ⟨l,s,hl,rfl,hK⟩ hsm;refine⟨l.enc++[.str s],rfl,by exact Z1o hl,?_⟩;refine Z0 Z0O ⟨l.cues,fun c=>c.num==s,226,[.ptr [.str s]],hl.cues,rfl,Z6K l.cues hl.cues s,_,rfl,?_⟩;simp only [zz,reduceCtorEq,Lis.enc];exact hK
theorem Z9u {ord:List UInt8→List UInt8→Int} {l:Lis} (h:W8 ord l=0):l.cues.length≤64:=by
 simp only [W8]at h;split at h
 · cases h
 · split at h
   · cases h
   · omega
end Go.Sx.La
