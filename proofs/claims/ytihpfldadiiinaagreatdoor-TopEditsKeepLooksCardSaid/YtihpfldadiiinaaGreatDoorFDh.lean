/-
 Part 8 of the proof: the executor over the kit's code with its soundness, or contracts of functions.
-/
import Derived.Test.YtihpfldadiiinaaGreatDoorFDg
import Derived.Test.YtihpfldadiiinaaGreatDoorProg
import Derived.WalkKit
import Derived.WalkSpells
import Derived.WalkLawsBesides
import Derived.Lib.Walk
import Derived.Shelf.RegionOpenPlain
import Derived.Lib.SliceRun
import Derived.Lib.AppendZeros
import Derived.Lib.AppendZerosOnto
import Derived.Lib.Overlaps
import Derived.Laws.CopyRow
import Derived.Laws.IdiomCopy
set_option linter.unusedSimpArgs false
set_option linter.unusedVariables false
set_option linter.unusedSectionVars false
set_option linter.defProp false
set_option maxRecDepth 100000
namespace Go.Sx.La
open Go Go.Sx Go.RowKit Go.Proofs
noncomputable def t21:R:=let x0:T:=.o1 .len (Va 0);let x1:T:=.o1 .len (Va 1);.fact (.o2 .le x0 (Vn 140737488355328)) (.fact (.o2 .le x1 (Vn 140737488355328)) (.ite (.o2 .ne x0 x1) (.ret [.d (.bool false)]) (.loop 0 [Vn 0] [.int .i64] (.ite (.o2 .lt (Va 2) x0) (.need (.o2 .le (Vn 0) (Va 2)) (.need (.o2 .lt (Va 2) x1) (.ite (.o1 .not (.o2 .band (.o2 .band (.o2 .eq (.idx (Va 0) (Va 2) 0 (.int .i64)) (.idx (Va 1) (Va 2) 0 (.int .i64))) (.o2 .band (.o2 .eq (.idx (Va 0) (Va 2) 1 (.int .i64)) (.idx (Va 1) (Va 2) 1 (.int .i64))) (.bool true))) (.o2 .band (.o2 .band (.o2 .eq (.idx (Va 0) (Va 2) 2 (.int .i64)) (.idx (Va 1) (Va 2) 2 (.int .i64))) (.o2 .band (.o2 .eq (.idx (Va 0) (Va 2) 3 (.int .i64)) (.idx (Va 1) (Va 2) 3 (.int .i64))) (.bool true))) (.bool true)))) (.ret [.d (.bool false)]) (.again 0 [.o2 (.add .i64) (Va 2) (Vn 1)])))) (.ret [.d (.bool true)])))))
theorem Zhi:fnO Tryz.prog mdA 21 [.cell (.slice enKs),.cell (.slice enKs)]=t21:=by kernel_rfl
noncomputable def t177:R:=.guess (.o2 .eq (.o1 .len (Va 0)) (Vn 0)) (.ite (Va 1) (.ret [.own 4 .nils]) (.need (.o2 .le (.o1 .len (.o2 .app .nils (Va 0))) (Vn 4398046511104)) (.ret [.own 4 (.o2 .app .nils (Va 0))])))
theorem ZeA:fnO Tryz.prog mdA 177 [.cell (.slice enKs)]=t177:=by kernel_rfl
def ZdC (ps:List Par):List Ent:=ps.map fun p=>⟨p,hval⟩
def Z3K (ms:List Mov):List Ent:=ms.map fun m=>⟨m.pa,m.va⟩
def put1 (a:List Ent) (x:Ent):List Ent:=a.map fun y=>if y.pa=x.pa then x else y
def Z7D (a es:List Ent):List Ent:=es.foldl put1 a
theorem Z26 {ps:List Par} (h:Yz ps):ps.Nodup:=h.imp fun {a b} hab e=>by subst e;rw [Wb]at hab;cases hab
theorem Z7k {cs:List Cue} {n:Nat} (hn:n < cs.length) (p:Par):J3 cs p (n+1)=((Ze cs[n].moves p).map (·.va)).getD (if cs[n].block then hval else J3 cs p n):=by
 have hb:Yl cs (n+1)=cs[n]::if cs[n].block then []else Yl cs n:=by simp [Yl,hn]
 simp only [J3,Z6E,hb,List.findSome?_cons];cases Ze cs[n].moves p with
 |some m=>rfl
 | none=>
   by_cases h:cs[n].block=true
   · simp [h]
   · simp [h]
theorem Zb5 (cs:List Cue):Ja cs 0=ZdC (Yd cs):=by simp [Ja,ZdC,J3,Z6E,Yl]
theorem ZfN {a:List Ent} {x:Ent} (ha:∀e∈a,e.Ok) (hx:x.Ok):∀e∈put1 a x,e.Ok:=by
 intro e he;obtain⟨y,hy,rfl⟩:=List.mem_map.1 he;split
 · exact hx
 · exact ha y hy
theorem Zc0:Contract Tryz.prog 177 fun args K=>∃(a:List Ent),(∀e∈a,e.Ok)∧a.length≤10000∧args=[.slice (a.map Ent.enc)]∧K [.own 4 (a.map Ent.enc)]:=by
 refine .of (by kernel_rfl) ZeA ?_;rintro _ K ⟨a,ha,hlen,rfl,hK⟩ hsm;refine⟨[.slice (a.map Ent.enc)],rfl,⟨Zi ha,trivial⟩,?_⟩;unfold t177;simp only [denR];intro b hb;simp only [zz,reduceCtorEq,List.length_map];cases b with
 | true=>
   have:=hb rfl;simp only [zz,reduceCtorEq,List.length_map]at this;have h0:a=[]:=List.eq_nil_of_length_eq_zero (by omega);subst h0;exact⟨fun _=>hK,fun h=>by simp at h⟩
 | false=>
   exact⟨fun h=>by simp at h,fun _=>⟨by omega,hK⟩⟩
theorem Zbq:Contract Tryz.prog 21 fun args K=>∃(a:List Ent),(∀e∈a,e.Ok)∧args=[.slice (a.map Ent.enc),.slice (a.map Ent.enc)]∧K [.d (.bool true)]:=by
 refine .of (by kernel_rfl) Zhi ?_;rintro _ K ⟨a,ha,rfl,hK⟩ hsm;refine⟨[.slice (a.map Ent.enc),.slice (a.map Ent.enc)],rfl,⟨Zi ha,Zi ha,trivial⟩,?_⟩;simp only [zz,reduceCtorEq,t21,List.length_map];intro hcap _;refine Jc a (fun _ _ (_:Unit)=>()) (fun i _=>[.int .i64 i]) () () rfl 0 (fun _ _=>rfl) rfl ?_ ?_
 · intro i hi _ _;simp only [zz,reduceCtorEq,List.length_map,hi,J0 hi,Ent.enc];refine⟨by omega,fun h=>by simp at h,?_⟩;exact⟨(),by rw [Z1] <;> omega⟩
 · intro _ _;simp only [zz,reduceCtorEq,List.length_map,Nat.lt_irrefl];exact hK
theorem Z2Z {l:Lis} (h:J4 Y2 l=0) {i:Nat} (hi:i < l.cues.length):Ya l l.cues[i].num=0∧upto l l.cues[i].num=i+1∧place l.cues l.cues[i].num=i:=by
 have hR:=Zc h;have hp:¬place l.cues l.cues[i].num < 0:=fun hn=>Z0Z.1 hn _ (List.getElem_mem hi) rfl
 obtain⟨j,hj,e1,e2,_⟩:=Z0X hp;have hij:j=i:=by
   rcases Nat.lt_trichotomy j i with h1|h1|h1
   · exact absurd (by simp [Wl,e2]) (Z0S hR.rising hj hi (by omega))
   · exact h1
   · exact absurd (by simp [Wl,e2]) (Z0S hR.rising hj hi (by omega))
 subst hij;refine⟨?_,by simp [upto,e1],e1⟩;unfold Ya Jv;rw [if_neg (by simp [h]),if_neg (by simp [hR.num _ (List.getElem_mem hi)]),if_neg hp]
theorem Z6n {l:Lis} (h:J4 Y2 l=0):Z3b l=(JF l.cues l.cues.length,0):=by unfold Z3b;rw [if_neg (by simp [h])]
def litV (v:Val):Bool:=decide (0≤v.pal)&&(decide (0 < v.pal)||decide (0 < v.lev))
def Zg8 (v:Val):Bool:=decide (v=hval)||decide (v=⟨0,0⟩)
def Z3B:List Ent→Int→Bool
 | [],_=>true
 |e::es,c=>if e.pa.ch=c∧e.pa.at_=0 then Zg8 e.va else Z3B es c
def Z4q:List Ent→List Nat→List Nat
 | [],ws=>ws
 |e::es,ws=>Z4q es (if e.pa.at_=0∧litV e.va=true then addW ws e.pa.ch.toNat else ws)
def litW (es:List Ent):List Nat:=Z4q es (List.replicate 16 0)
structure RightE (es:List Ent):Prop where
 ok:∀e∈es,e.Ok
 par:∀e∈es,Z3 e.pa=0
 val:∀e∈es,Y7 e.va=0
 rising:es.Pairwise fun a b=>Y3 a.pa b.pa=true
 len:es.length≤10000
theorem ZbK {v:Val} (h:Y7 v=0):Zg8 v=!litV v:=by
 unfold Y7 Z03 at h;split at h <;> try contradiction
 rename_i hc;have e1:(v=hval)↔(v.pal= -1∧v.lev=0):=Z8s v hval;have e2:(v=(⟨0,0⟩:Val))↔(v.pal=0∧v.lev=0):=Z8s v ⟨0,0⟩;unfold Zg8 litV;simp only [e1,e2];simp only [Bool.and_eq_true,decide_eq_true_eq]at hc;rw [Bool.eq_iff_iff];simp only [Bool.or_eq_true,Bool.not_eq_true',Bool.and_eq_false_iff,Bool.or_eq_false_iff,decide_eq_true_eq,decide_eq_false_iff_not];omega
theorem Z6d (ws:List Nat) (c:Nat):(addW ws c).length=ws.length:=by simp [addW]
theorem Z3x {c:Nat}:∀ {es:List Ent} {ws:List Nat},(∀e∈es,Z3 e.pa=0)→ws.length=16→
   hasW (Z4q es ws) c=(hasW ws c||es.any fun e=>decide (e.pa.ch=c∧e.pa.at_=0)&&litV e.va)
 | [],ws,_,_=>by simp [Z4q]
 | e ::es,ws,h,hl=>by
   have hp:=Wc (h e List.mem_cons_self);simp only [Z4q,List.any_cons];by_cases hc:e.pa.at_=0∧litV e.va=true
   · rw [if_pos hc,Z3x (fun x hx=>h x (List.mem_cons_of_mem _ hx)) (by rw [Z6d];exact hl),Zda (by omega)];have e1:decide (c=e.pa.ch.toNat)=(decide (e.pa.ch=c∧e.pa.at_=0)&&litV e.va):=by
       rw [hc.2,Bool.and_true,Bool.eq_iff_iff];simp only [decide_eq_true_eq,hc.1,and_true];omega
     rw [e1];generalize (decide (e.pa.ch=(c:Int)∧e.pa.at_=0)&&litV e.va)=x;cases x <;> simp
   · rw [if_neg hc,Z3x (fun x hx=>h x (List.mem_cons_of_mem _ hx)) hl];have e1:(decide (e.pa.ch=c∧e.pa.at_=0)&&litV e.va)=false:=by
       rw [Bool.and_eq_false_iff];by_cases h1:e.pa.at_=0
       · right;cases hv:litV e.va with
         |true=>exact absurd ⟨h1,hv⟩ hc
         |false=>rfl
       · left;simp [h1]
     rw [e1];simp
theorem Z5M:∀ {es:List Ent} {ws:List Nat},ws.length=16→(∀w∈ws,w < 2 ^ 64)→(Z4q es ws).length=16∧∀w∈Z4q es ws,w < 2 ^ 64
 | [],ws,hl,h=>⟨hl,h⟩
 | e::es,ws,hl,h=>by
   simp only [Z4q];split
   · exact Z5M (by rw [Z6d];exact hl) (Zck h)
   · exact Z5M hl h
theorem Z5L (es:List Ent):(litW es).length=16∧∀w∈litW es,w < 2 ^ 64:=Z5M (by simp) (by simp)
theorem Z1I {c:Int}:∀ {es:List Ent},(∀e∈es,Y7 e.va=0)→(es.Pairwise fun a b=>Y3 a.pa b.pa=true)→Z3B es c=!(es.any fun e=>decide (e.pa.ch=c∧e.pa.at_=0)&&litV e.va)
 | [],_,_=>rfl
 | e ::es,hv,hr=>by
   have hr':=List.pairwise_cons.1 hr;have ih:=Z1I (c:=c) (fun x hx=>hv x (List.mem_cons_of_mem _ hx)) hr'.2;simp only [Z3B,List.any_cons];by_cases h:e.pa.ch=c∧e.pa.at_=0
   · rw [if_pos h,ZbK (hv e List.mem_cons_self)];have e0:(es.any fun e=>decide (e.pa.ch=c∧e.pa.at_=0)&&litV e.va)=false:=by
       rw [List.any_eq_false];intro x hx;have hb:=hr'.1 x hx;have:¬(x.pa.ch=c∧x.pa.at_=0):=fun h2=>by
         have:e.pa=x.pa:=Par.ext' (by rw [h.1,h2.1]) (by rw [h.2,h2.2]);rw [this,Wb]at hb;cases hb
       simp [this]
     rw [e0];simp [h]
   · rw [if_neg h,ih];simp [h]
theorem Z57 {es:List Ent} (h:RightE es) (c:Nat):Z3B es c=!hasW (litW es) c:=by
 rw [Z1I h.val h.rising,litW,Z3x h.par (by simp),Z6S];simp
theorem Z2a {xs:List Mov}:∀(cs:List Mov) (i:Nat),Wh xs i cs=0→∀c∈cs,Y7 c.va=0
 | [],i,_=>by simp
 | c::cs,i,h=>by
   simp only [Wh]at h;split at h
   · rename_i hc;exact absurd h hc
   split at h
   · rename_i hc;exact absurd h hc
   rename_i hv;split at h
   · cases h
   split at h
   · cases h
   intro d hd;rcases List.mem_cons.1 hd with rfl|hd
   · simpa using hv
   · exact Z2a cs (i+1) h d hd
theorem Z9p {ms:List Mov} (h:Wi ms=0):∀m∈ms,Y7 m.va=0:=by
 unfold Wi at h;split at h
 · cases h
 · exact Z2a ms 0 h
theorem Z0c {l:Lis} (h:J4 Y2 l=0) (p:Par) (n:Nat):Y7 (J3 l.cues p n)=0:=by
 unfold J3 Z6E;cases h1:(Yl l.cues n).findSome? fun c=>Ze c.moves p with
 |none=>decide
 | some m=>
   obtain⟨c,hc,hm⟩:=List.exists_of_findSome?_eq_some h1;exact Z9p (WY ((Zc h).cues c (WT hc))) m (List.mem_of_find?_eq_some hm)
theorem Z96 {l:Lis} (hl:l.Ok) (h:J4 Y2 l=0) (f:Par→Val) (hok:∀p,(f p).Ok) (hv:∀p,Y7 (f p)=0):RightE ((Yd l.cues).map fun p=>⟨p,f p⟩):=by
 have hR:=Zf hl h;refine⟨?_,?_,?_,?_,by rw [List.length_map];exact Nat.le_trans (Z17 hR) (by decide)⟩
 · intro e he;obtain⟨p,hp,rfl⟩:=List.mem_map.1 he;exact⟨(Jt hR p hp).1,hok p⟩
 · intro e he;obtain⟨p,hp,rfl⟩:=List.mem_map.1 he;exact(Jt hR p hp).2
 · intro e he;obtain⟨p,hp,rfl⟩:=List.mem_map.1 he;exact hv p
 · rw [List.pairwise_map];exact(Zw l.cues).imp fun h=>h
theorem ZP {l:Lis} (hl:l.Ok) (h:J4 Y2 l=0) (n:Nat):RightE (Ja l.cues n):=
 Z96 hl h _ (fun p=>Yv (Zf hl h) p n) fun p=>Z0c h p n
def Z8M (cs:List Cue) (n:Nat) (m:Mov):Bool:=!decide (m.pa.at_=0)&&(Z3B (Ja cs n) m.pa.ch&&Z3B (Ja cs (n - 1)) m.pa.ch)
def JQ (cs:List Cue) (n:Nat):List Mov:=if n=0 then []else match cs[n]? with
 |some c=>if c.mark then c.moves.filter (Z8M cs n)else []
 |none=>[]
def ZhA (cs:List Cue) (n:Nat):List Ent:=Z3K (JQ cs n)
def Zb1 (cs:List Cue) (n:Nat):List Ent:=Z7D (Ja cs n) (ZhA cs n)
theorem Z9V {cs:List Cue} {n:Nat} (h:JQ cs n≠[]):0 < n∧∃hn:n < cs.length,cs[n].mark=true∧JQ cs n=cs[n].moves.filter (Z8M cs n):=by
 unfold JQ at h ⊢;split at h
 · exact absurd rfl h
 rename_i h0;rw [if_neg h0];refine⟨by omega,?_⟩;split at h
 · rename_i c hc;obtain⟨hn,he⟩:=List.getElem?_eq_some_iff.1 hc;subst he;split at h
   · rename_i hm;exact⟨hn,hm,by simp [hm]⟩
   · exact absurd rfl h
 · exact absurd rfl h
theorem Z9W {cs:List Cue} {n:Nat} {m:Mov} (h:m∈JQ cs n):0 < n∧∃hn:n < cs.length,cs[n].mark=true∧m∈cs[n].moves∧Z8M cs n m=true:=by
 obtain⟨h0,hn,hm,he⟩:=Z9V (List.ne_nil_of_mem h);rw [he]at h;exact⟨h0,hn,hm,(List.mem_filter.1 h).1,(List.mem_filter.1 h).2⟩
theorem Zdn {l:Lis} (hl:l.Ok) (n:Nat):∀m∈JQ l.cues n,m.Ok:=by
 intro m hm;obtain⟨_,hn,_,h,_⟩:=Z9W hm;exact(hl.cues _ (List.getElem_mem hn)).moves m h
def Z5I (l:Lis) (s:List UInt8):List Ent×Int:=if Ya l s≠0 then([],Ya l s)else(Zb1 l.cues (upto l s),0)
def unmark (c:Cue):Cue:= {c with mark:=false}
theorem Z1V {l:Lis} (h0:¬(l.num < 1∨1048576 < l.num∨l.prio < 0∨9 < l.prio)) (h1:l.cues.length≤64) (h2:∀c∈l.cues,J5 c=0) (h3:Zs l.cues):J4 Y2 l=0:=by
 have key:∀(cs:List Cue) (i:Nat),cs=l.cues.drop i→JK Y2 l.cues i cs=0:=by
   intro cs;induction cs with
   |nil=>intro i _;rfl
   | cons c cs ih=>
     intro i he;have hlt:i < l.cues.length:=by
       rcases Nat.lt_or_ge i l.cues.length with h|h
       · exact h
       · rw [List.drop_eq_nil_of_le h]at he;cases he
     rw [List.drop_eq_getElem_cons hlt]at he;obtain⟨rfl,rfl⟩:=List.cons.inj he;simp only [JK];rw [if_neg (by simp [h2 _ (List.getElem_mem hlt)]),if_neg ?_]
     · exact ih (i+1) rfl
     · rintro⟨hi,ho⟩;rw [getElem!_pos l.cues (i - 1) (by omega)]at ho;rw [Zs,List.pairwise_iff_getElem]at h3;have:=h3 (i - 1) i (by omega) hlt (by omega);have:=(Z3p _ _).2 this;omega
 simp only [J4];rw [if_neg h0,if_neg (by omega)];exact key l.cues 0 rfl
theorem Z5S {l:Lis} (h:J4 Y2 l=0):¬(l.num < 1∨1048576 < l.num∨l.prio < 0∨9 < l.prio):=by
 simp only [J4]at h;split at h
 · cases h
 · assumption
def putM:List Mov→Mov→List Mov
 | [],m=>[m]
 |x::xs,m=>if Y3 x.pa m.pa then x::putM xs m else if x.pa=m.pa then m::xs else m::x::xs
def Ww (a b:List Mov):List Mov:=b.foldl putM a
def givM (es:List Ent) (part:Int):List Mov:=es.map fun e=>⟨e.pa,e.va,part⟩
theorem Z19 {m x:Mov}:∀ {ms:List Mov},x∈putM ms m→x=m∨x∈ms
 | [],h=>by simp [putM]at h;exact .inl h
 | y ::ys,h=>by
   simp only [putM]at h;split at h
   · rcases List.mem_cons.1 h with rfl|h
     · exact .inr (by simp)
     · rcases Z19 h with h|h
       · exact .inl h
       · exact .inr (by simp [h])
   split at h
   · rcases List.mem_cons.1 h with rfl|h
     · exact .inl rfl
     · exact .inr (by simp [h])
   · rcases List.mem_cons.1 h with rfl|h
     · exact .inl rfl
     · exact .inr h
theorem Z0B {m:Mov}:∀ {ms:List Mov},Wt ms→Wt (putM ms m)
 | [],_=>by simp [putM,Wt]
 | y ::ys,h=>by
   have h':=List.pairwise_cons.1 h;simp only [putM];split
   · rename_i hb;refine List.pairwise_cons.2 ⟨fun z hz=>?_,Z0B h'.2⟩;rcases Z19 hz with rfl|hz
     · exact hb
     · exact h'.1 z hz
   split
   · rename_i hb he;exact List.pairwise_cons.2 ⟨fun z hz=>by rw [←he];exact h'.1 z hz,h'.2⟩
   · rename_i hb he;have hlt:Y3 m.pa y.pa=true:=by
       rcases Bool.eq_false_or_eq_true (Y3 m.pa y.pa)with h|h
       · exact h
       · exact absurd (ZN (by simpa using hb) h) he
     refine List.pairwise_cons.2 ⟨fun z hz=>?_,h⟩;rcases List.mem_cons.1 hz with rfl|hz
     · exact hlt
     · exact Wj hlt (h'.1 z hz)
theorem Z4X {m:Mov} {p:Par}:∀ {ms:List Mov},Ze (putM ms m) p=if m.pa=p then some m else Ze ms p
 | []=>by
   by_cases h:m.pa=p <;> simp [putM,Ze,h]
 | y ::ys=>by
   simp only [putM];split
   · rename_i hb;have hne:y.pa≠m.pa:=fun e=>by rw [e,Wb]at hb;cases hb
     have ih:=Z4X (m:=m) (p:=p) (ms:=ys);simp only [Ze]at ih;simp only [Ze,List.find?_cons];by_cases hy:y.pa=p
     · have:m.pa≠p:=fun e=>hne (hy.trans e.symm)
       simp [hy,this]
     · simp [hy,ih]
   split
   · rename_i hb he;simp only [Ze,List.find?_cons];by_cases hm:m.pa=p
     · simp [hm]
     · have:¬y.pa=p:=fun e=>hm (he▸e)
       simp [hm,this]
   · simp only [Ze,List.find?_cons];by_cases hm:m.pa=p <;> simp [hm]
theorem Z1G {x:Mov}:∀ {b a:List Mov},x∈Ww a b→x∈a∨x∈b
 | [],a,h=>.inl h
 | m ::b,a,h=>by
   rcases Z1G (b:=b) (a:=putM a m) h with h|h
   · rcases Z19 h with rfl|h
     · exact .inr (by simp)
     · exact .inl h
   · exact .inr (by simp [h])
theorem Z0T:∀ {b a:List Mov},Wt a→Wt (Ww a b)
 | [],a,h=>h
 |m::b,a,h=>Z0T (b:=b) (Z0B h)
theorem Z2m {p:Par}:∀ {b a:List Mov},(b.map (·.pa)).Nodup→Ze (Ww a b) p=(Ze b p).or (Ze a p)
 | [],a,_=>by simp [Ww,Ze]
 | m ::b,a,hn=>by
   simp only [List.map_cons,List.nodup_cons]at hn;have ih:=Z2m (p:=p) (b:=b) (a:=putM a m) hn.2;show Ze (Ww (putM a m) b) p=_;rw [ih,Z4X];by_cases hm:m.pa=p
   · have hb:Ze b p=none:=List.find?_eq_none.2 fun x hx=>by
       simp only [decide_eq_true_eq];intro e;exact hn.1 (List.mem_map.2 ⟨x,hx,e.trans hm.symm⟩)
     have hc:Ze (m::b) p=some m:=by simp [Ze,hm]
     rw [hb,hc];simp [hm]
   · have hc:Ze (m::b) p=Ze b p:=by simp [Ze,hm]
     rw [hc];simp [hm]
theorem Z8F (m:Mov):∀ms:List Mov,ms.length≤(putM ms m).length∧(putM ms m).length≤ms.length+1
 | []=>by simp [putM]
 | y::ys=>by
   have:=Z8F m ys;simp only [putM];split
   · simp only [List.length_cons];omega
   split <;> simp
theorem Z8E {m:Mov}:∀ {ms:List Mov},Wt ms→
   ((∃x,Ze ms m.pa=some x)∧low ms m.pa < ms.length∧putM ms m=ms.set (low ms m.pa) m)∨(Ze ms m.pa=none∧low ms m.pa≤ms.length∧putM ms m=ms.take (low ms m.pa)++m::ms.drop (low ms m.pa))
 | [],_=>.inr (by simp [Ze,putM,low])
 | y ::ys,h=>by
   have h':=List.pairwise_cons.1 h;by_cases hb:Y3 y.pa m.pa=true
   · have hne:y.pa≠m.pa:=fun e=>by rw [e,Wb]at hb;cases hb
     have e1:low (y::ys) m.pa=low ys m.pa+1:=by simp [low,hb]
     have e2:putM (y::ys) m=y::putM ys m:=by simp [putM,hb]
     have e3:Ze (y::ys) m.pa=Ze ys m.pa:=by simp [Ze,hne]
     rw [e1,e2,e3];rcases Z8E (m:=m) h'.2 with⟨g1,g2,g3⟩|⟨g1,g2,g3⟩
     · exact .inl ⟨g1,by simp;omega,by rw [g3];rfl⟩
     · exact .inr ⟨g1,by simp;omega,by rw [g3];rfl⟩
   · have hb':Y3 y.pa m.pa=false:=by simpa using hb
     have e1:low (y::ys) m.pa=0:=by simp [low,hb']
     by_cases he:y.pa=m.pa
     · exact .inl ⟨⟨y,by simp [Ze,he]⟩,by rw [e1];simp,by rw [e1];simp [putM,hb',he,Wb]⟩
     · have hlt:Y3 m.pa y.pa=true:=by
         rcases Bool.eq_false_or_eq_true (Y3 m.pa y.pa)with h|h
         · exact h
         · exact absurd (ZN hb' h) he
       refine .inr ⟨List.find?_eq_none.2 fun z hz=>?_,by rw [e1];simp,by rw [e1];simp [putM,hb',he]⟩;simp only [decide_eq_true_eq];rcases List.mem_cons.1 hz with rfl|hz
       · exact he
       · intro e;have:=Wj hlt (h'.1 z hz);rw [e,Wb]at this;cases this
structure RC (n:Nat) (ms:List Mov):Prop where
 rising:Wt ms
 each:∀m∈ms,Z3 m.pa=0∧Y7 m.va=0∧1≤m.part∧m.part≤(n:Int)
theorem Z4R {xs:List Mov}:∀(cs:List Mov) (i:Nat),cs=xs.drop i→(∀m∈cs,Z3 m.pa=0∧Y7 m.va=0∧1≤m.part∧m.part≤4)→(∀j,i≤j→0 < j→(hj:j < xs.length)→Y3 (xs[j - 1]'(by omega)).pa (xs[j]).pa=true)→Wh xs i cs=0
 | [],_,_,_,_=>rfl
 | c ::cs,i,he,h1,h2=>by
   have hlt:i < xs.length:=by
     rcases Nat.lt_or_ge i xs.length with h|h
     · exact h
     · rw [List.drop_eq_nil_of_le h]at he;cases he
   rw [List.drop_eq_getElem_cons hlt]at he;obtain⟨rfl,rfl⟩:=List.cons.inj he;have hc:=h1 _ List.mem_cons_self;simp only [Wh,hc.1,hc.2.1,ne_eq,not_true_eq_false,if_false];rw [if_neg (by omega),if_neg]
   · exact Z4R _ (i+1) rfl (fun m hm=>h1 m (List.mem_cons_of_mem _ hm)) (fun j a b hj=>h2 j (by omega) b hj)
   · rintro⟨h0,hb⟩;have:=h2 i (Nat.le_refl _) h0 hlt;rw [getElem!_pos xs (i - 1) (by omega)]at hb;rw [this]at hb;cases hb
theorem Z2c {xs:List Mov}:∀(cs:List Mov) (i:Nat),Wh xs i cs=0→∀m∈cs,Z3 m.pa=0∧Y7 m.va=0∧1≤m.part∧m.part≤4
 | [],_,_=>by simp
 | c::cs,i,h=>by
   simp only [Wh]at h;split at h
   · rename_i hc;exact absurd h hc
   rename_i h1;split at h
   · rename_i hc;exact absurd h hc
   rename_i h2;split at h
   · cases h
   rename_i h3;split at h
   · cases h
   intro m hm;rcases List.mem_cons.1 hm with rfl|hm
   · exact⟨by simpa using h1,by simpa using h2,by omega,by omega⟩
   · exact Z2c cs (i+1) h m hm
theorem Z1B (n:Nat):∀ms:List Mov,WO n ms=true↔∀m∈ms,m.part≤(n:Int)
 | []=>by simp [WO]
 | m ::ms=>by
   have ih:=Z1B n ms;simp only [WO,List.mem_cons,forall_eq_or_imp, ←ih];split
   · constructor
     · intro h;cases h
     · rintro⟨h,_⟩;omega
   · constructor
     · intro h;exact⟨by omega,h⟩
     · exact fun h=>h.2
theorem Z9t {ms:List Mov} {n:Nat} (hn:n≤4) (h:RC n ms) (hl:ms.length≤128):Wi ms=0:=by
 unfold Wi;rw [if_neg (by omega)];refine Z4R ms 0 rfl (fun m hm=>?_) fun j _ h0 hj=>?_
 · have:=h.each m hm;exact⟨this.1,this.2.1,this.2.2.1,by omega⟩
 · exact List.pairwise_iff_getElem.1 h.rising (j - 1) j (by omega) hj (by omega)
theorem Z48 {c:Cue} (h:J5 c=0):W3 c.num=0∧Yw c.label=0∧Wi c.moves=0∧Ys c.parts=0∧WO c.parts.length c.moves=true∧ZG c=0:=by
 unfold J5 at h;split at h
 · rename_i h1;exact absurd h h1
 rename_i h1;split at h
 · rename_i h1;exact absurd h h1
 rename_i h2;split at h
 · rename_i h1;exact absurd h h1
 rename_i h3;split at h
 · rename_i h1;exact absurd h h1
 rename_i h4;split at h
 · cases h
 rename_i h5;exact⟨by simpa using h1,by simpa using h2,by simpa using h3,by simpa using h4,by simpa using h5,h⟩
theorem Z3m {l:List Tim} (h:Ys l=0):1≤l.length∧l.length≤4:=by
 unfold Ys at h;split at h
 · cases h
 split at h
 · cases h
 · omega
structure RightC (c:Cue):Prop where
 rc:RC c.parts.length c.moves
 len:c.moves.length≤128
 one:1≤c.parts.length
 four:c.parts.length≤4
theorem Z2A {c:Cue} (h:J5 c=0):RightC c:=by
 obtain⟨_,_,h3,h4,h5,_⟩:=Z48 h;obtain⟨p1,p2⟩:=Z3m h4;have hR:=Z3l h3;refine⟨⟨hR.rising,fun m hm=>?_⟩,hR.len,p1,p2⟩;have h128:¬128 < c.moves.length:=by have:=hR.len;omega
 unfold Wi at h3;rw [if_neg h128]at h3;have:=Z2c c.moves 0 h3 m hm;exact⟨this.1,this.2.1,this.2.2.1,(Z1B _ _).1 h5 m hm⟩
theorem Z2y {c:Cue} {ms:List Mov} (h:J5 c=0) (hr:RC c.parts.length ms) (hl:ms.length≤128):J5 {c with moves:=ms}=0:=by
 obtain⟨h1,h2,_,h4,_,h6⟩:=Z48 h;have h3:=Z9t (Z3m h4).2 hr hl;have h5:WO c.parts.length ms=true:=(Z1B _ _).2 fun m hm=>(hr.each m hm).2.2.2
 have h6':ZG {c with moves:=ms}=0:=h6;unfold J5;simp only [h1,h2,h3,h4,h5,ne_eq,not_true_eq_false,if_false,Bool.true_eq_false];exact h6'
theorem RC.merge {n:Nat} {a b:List Mov} (h:RC n a) (hb:∀m∈b,Z3 m.pa=0∧Y7 m.va=0∧1≤m.part∧m.part≤(n:Int)):RC n (Ww a b):=
 ⟨Z0T h.rising,fun x hx=>by
   rcases Z1G hx with hx|hx
   · exact h.each x hx
   · exact hb x hx⟩
theorem RC.right {n:Nat} {ms:List Mov} (h:RC n ms) (hl:ms.length≤128):RightM ms:=⟨fun m hm=>(h.each m hm).1,h.rising,hl⟩
theorem Z9T {n:Nat} {es:List Ent} {part:Int} (h:RightE es) (h1:1≤part) (h2:part≤(n:Int)):∀m∈givM es part,Z3 m.pa=0∧Y7 m.va=0∧1≤m.part∧m.part≤(n:Int):=by
 intro m hm;obtain⟨e,he,rfl⟩:=List.mem_map.1 hm;exact⟨h.par e he,h.val e he,h1,h2⟩
theorem Z3J {es:List Ent} (h:(es.map (·.pa)).Nodup) (part:Int):((givM es part).map (·.pa)).Nodup:=by
 simpa [givM,Function.comp_def]using h
def ZL (es:List Ent) (p:Par):Option Ent:=es.find? fun e=>decide (e.pa=p)
theorem Z7Q (es:List Ent) (part:Int) (p:Par):Ze (givM es part) p=(ZL es p).map fun e=>⟨e.pa,e.va,part⟩:=by
 simp only [Ze,givM,ZL,List.find?_map];rfl
theorem Zbu {es:List Ent} {p:Par} {e:Ent} (h:ZL es p=some e):e∈es∧e.pa=p:=⟨List.mem_of_find?_eq_some h,by simpa using List.find?_some h⟩
theorem Z9U {es:List Ent} {p:Par} (h:ZL es p=none):∀e∈es,e.pa≠p:=fun e he=>by simpa using List.find?_eq_none.1 h e he
theorem Zdm {es:List Ent} (hn:(es.map (·.pa)).Nodup) {e:Ent} (he:e∈es):ZL es e.pa=some e:=by
 cases h:ZL es e.pa with
 |none=>exact absurd rfl (Z9U h e he)
 | some d=>
   obtain⟨h1,h2⟩:=Zbu h;congr 1;obtain⟨i,hi,rfl⟩:=List.getElem_of_mem h1;obtain⟨j,hj,rfl⟩:=List.getElem_of_mem he;have:=List.pairwise_iff_getElem.1 hn;rcases Nat.lt_trichotomy i j with hij|hij|hij
   · exact absurd (show(es.map (·.pa))[i]'(by simpa using hi)=(es.map (·.pa))[j]'(by simpa using hj) by simpa using h2) (this i j (by simpa using hi) (by simpa using hj) hij)
   · simp [hij]
   · exact absurd (show(es.map (·.pa))[j]'(by simpa using hj)=(es.map (·.pa))[i]'(by simpa using hi) by simpa using h2.symm) (this j i (by simpa using hj) (by simpa using hi) hij)
def vl:List Cue→Par→Val
 | [],_=>hval
 | c::r,p=>match Ze c.moves p with
   |some m=>m.va
   |none=>if c.block then hval else vl r p
theorem Jp (cs:List Cue) (p:Par):∀n,n≤cs.length→J3 cs p n=vl (cs.take n).reverse p
 |0,_=>by simp [J3,Z6E,Yl,vl]
 | n+1,h=>by
   have hn:n < cs.length:=by omega
   rw [Z7k hn,Jp cs p n (by omega),List.take_succ_eq_append_getElem hn,List.reverse_append,List.reverse_singleton,List.singleton_append,vl];cases Ze cs[n].moves p <;> rfl
noncomputable def t230:R:=let x1:T:=Vl (.idx (Va 5) (Va 4) 1 (.int .i64)) (Vl (.idx (Va 5) (Va 4) 2 (.int .i64)) (Vl (.idx (Va 5) (Va 4) 3 (.int .i64)) (Vl (.idx (Va 5) (Va 4) 4 (.int .i64)) .lnil)));let x2:T:=.o1 .len (Va 5);let x3:T:=.o1 .not (Va 6);let x4:T:=.idx (Va 5) (Va 4) 0 (.int .i64);let x5:T:=.o2 .le (Vn 0) (Va 3);let x0:T:=.o2 .app (.o2 .app (.sub (Va 5) (Vn 0) (Va 3)) (.rep (.o2 (.sub .i64) x2 (Va 3)) (Vl (Vn 0) (Vl (Vn 0) (Vl (Vn 0) (Vl (Vn 0) (Vl (Vn 0) .lnil))))))) (.sub (Va 5) x2 x2);.call none (.fn 197) [Va 0,Va 1] [.cell (.int .i64)] (.ite (.o2 .eq (Va 2) (Vn (-1))) (.ret [.own 5 (Va 0)]) (.loop 0 [Va 2,.o2 (.add .i64) (Va 2) (Vn 1),Va 0] [.int .i64,.int .i64,.slice mvKs] (.fact (.o2 .le x2 (Vn 140737488355328)) (.ite (.o2 .lt (Va 4) x2) (.need (.o2 .le (Vn 0) (Va 4)) (.call none (.val (Va 1)) [Vl x4 x1] [.cell .bool] (.need (.ite x3 x5 (.bool true)) (.need (.ite x3 (.o2 .lt (Va 3) x2) (.bool true)) (.lets [.ite x3 (.o2 (.add .i64) (Va 3) (Vn 1)) (Va 3),.ite x3 (.upd (Va 5) (Va 3) 0 (Vl x4 x1)) (Va 5)] (.again 0 [Va 7,.o2 (.add .i64) (Va 4) (Vn 1),Va 8])))))) (.need x5 (.need (.o2 .le (Va 3) x2) (.need (.o2 .le (Va 3) (.o1 .len x0)) (.ret [.own 5 (.sub x0 (Vn 0) (Va 3))]))))))))
theorem ZdR:fnXO Tryz.prog mdA 230 [.own mvKs,.cell .fn]=t230:=by kernel_rfl
noncomputable def t192:R:=let x2:T:=.o1 .len (Va 5);let x3:List K:=tmKs;let x4:T:=.o1 .not (Va 6);let x5:List K:=mvKs;let x6:T:=.o2 .le (Vn 0) (Va 3);let x7:T:=.idx (Va 5) (Va 4) 0 .str;let x0:T:=Vl (.idx (Va 5) (Va 4) 1 .str) (Vl (.idx (Va 5) (Va 4) 2 (.slice x5)) (Vl (.idx (Va 5) (Va 4) 3 (.slice x3)) (Vl (.idx (Va 5) (Va 4) 4 .bool) (Vl (.idx (Va 5) (Va 4) 5 .bool) (Vl (.idx (Va 5) (Va 4) 6 (.int .i64)) (Vl (.idx (Va 5) (Va 4) 7 .str) (Vl (.idx (Va 5) (Va 4) 8 (.int .i64)) .lnil)))))));let x1:T:=.o2 .app (.o2 .app (.sub (Va 5) (Vn 0) (Va 3)) (.rep (.o2 (.sub .i64) x2 (Va 3)) (Vl (.str []) (Vl (.str []) (Vl .nils (Vl .nils (Vl (.bool false) (Vl (.bool false) (Vl (Vn 0) (Vl (.str []) (Vl (Vn 0) .lnil))))))))))) (.sub (Va 5) x2 x2);.call none (.fn 31) [Va 0,Va 1] [.cell (.int .i64)] (.ite (.o2 .eq (Va 2) (Vn (-1))) (.ret [.own 9 (Va 0)]) (.loop 0 [Va 2,.o2 (.add .i64) (Va 2) (Vn 1),Va 0] [.int .i64,.int .i64,.slice [.str,.str,.slice x5,.slice x3,.bool,.bool,.int .i64,.str,.int .i64]] (.fact (.o2 .le x2 (Vn 140737488355328)) (.ite (.o2 .lt (Va 4) x2) (.need (.o2 .le (Vn 0) (Va 4)) (.call none (.val (Va 1)) [Vl x7 x0] [.cell .bool] (.need (.ite x4 x6 (.bool true)) (.need (.ite x4 (.o2 .lt (Va 3) x2) (.bool true)) (.lets [.ite x4 (.o2 (.add .i64) (Va 3) (Vn 1)) (Va 3),.ite x4 (.upd (Va 5) (Va 3) 0 (Vl x7 x0)) (Va 5)] (.again 0 [Va 7,.o2 (.add .i64) (Va 4) (Vn 1),Va 8])))))) (.need x6 (.need (.o2 .le (Va 3) x2) (.need (.o2 .le (Va 3) (.o1 .len x1)) (.ret [.own 9 (.sub x1 (Vn 0) (Va 3))]))))))))
theorem Zej:fnXO Tryz.prog mdA 192 [.own J9,.cell .fn]=t192:=by kernel_rfl
def kept {X:Type} (p:X→Bool) (l:List X) (n:Nat):List X:=(l.take n).filter fun x=>!p x
theorem Z01 {X:Type} (p:X→Bool) {l:List X} {n:Nat} (h:n < l.length):kept p l (n+1)=kept p l n++if p l[n]then []else [l[n]]:=by
 unfold kept;rw [List.take_succ_eq_append_getElem h,List.filter_append];congr 1;by_cases hp:p l[n]=true
 · simp [hp]
 · simp [hp]
theorem Z2T {X:Type} (p:X→Bool) (l:List X):kept p l l.length=l.filter fun x=>!p x:=by simp [kept]
theorem Z55 {X:Type} {p:X→Bool} {l:List X} {j:Nat} (hj:j < l.length) (h1:p l[j]=true) (h2:∀k (hk:k < j),p (l[k]'(by omega))=false):kept p l (j+1)=l.take j:=by
 rw [Z01 p hj,if_pos h1,List.append_nil];unfold kept;refine List.filter_eq_self.2 fun x hx=>?_
 obtain⟨k,hk,rfl⟩:=List.getElem_of_mem hx;simp only [List.length_take]at hk;rw [List.getElem_take,h2 k (by omega)];rfl
structure Swept {X:Type} (p:X→Bool) (l a:List X) (n:Nat):Prop where
 len:a.length=l.length
 le:n≤l.length
 lt:(kept p l n).length < n
 head:a.take (kept p l n).length=kept p l n
 rest:a.drop n=l.drop n
theorem Swept.get {X:Type} {p:X→Bool} {l a:List X} {n:Nat} (h:Swept p l a n) (hn:n < l.length):a[n]'(by rw [h.len];exact hn)=l[n]:=by
 have h1:=h.rest;have hn':n < a.length:=by rw [h.len];exact hn
 rw [List.drop_eq_getElem_cons hn,List.drop_eq_getElem_cons hn']at h1;exact(List.cons.inj h1).1
theorem Swept.skip {X:Type} {p:X→Bool} {l a:List X} {n:Nat} (h:Swept p l a n) (hn:n < l.length) (hp:p l[n]=true):Swept p l a (n+1):=by
 have e:kept p l (n+1)=kept p l n:=by rw [Z01 p hn,if_pos hp,List.append_nil]
 exact⟨h.len,hn,by rw [e];have:=h.lt;omega,by rw [e];exact h.head,by rw [←List.drop_drop, ←List.drop_drop,h.rest]⟩
theorem Swept.keep {X:Type} {p:X→Bool} {l a:List X} {n:Nat} (h:Swept p l a n) (hn:n < l.length) (hp:p l[n]=false):Swept p l (a.set (kept p l n).length l[n]) (n+1)∧(kept p l (n+1)).length=(kept p l n).length+1:=by
 have e:kept p l (n+1)=kept p l n++[l[n]]:=by rw [Z01 p hn,if_neg (by simp [hp])]
 have el:(kept p l (n+1)).length=(kept p l n).length+1:=by rw [e];simp
 have hlt:=h.lt;refine⟨⟨by simp [h.len],hn,by rw [el];omega,?_,?_⟩,el⟩
 · rw [el,List.take_succ_eq_append_getElem (by simp [h.len];omega),e];rw [List.getElem_set_self,List.take_set_of_le (Nat.le_refl _),h.head]
 · rw [List.drop_set_of_lt (by omega), ←List.drop_drop, ←List.drop_drop,h.rest]
theorem Z1r {A R B:List (List D)} {i:Nat} (h:i≤A.length):(A.take i++R++B).take i=A.take i:=by
 rw [List.append_assoc,List.take_append_of_le_length (by simp;omega),List.take_take,Nat.min_self]
theorem Zdx {l:List Cue} {k:Nat} (hk:k < l.length) (e:Cue):((l.map Cue.enc).modify k fun x=>Zg x 0 e.enc)=(l.set k e).map Cue.enc:=by
 apply List.ext_getElem?;intro i;rw [List.getElem?_modify,List.getElem?_map,List.getElem?_map,List.getElem?_set];by_cases h:k=i
 · subst h;simp [hk,Zg,Cue.enc]
 · simp [h]
theorem ZbH:ContractX Tryz.prog 192 [.own J9,.cell .fn] false fun args K=>∃(l:List Cue) (p:Cue→Bool) (f:FuncId) (caps:List D),(∀m∈l,m.Ok)∧l.length≤1000000∧args=[.own 9 (l.map Cue.enc),.d (.clo f caps)]∧Yp Tryz.prog (.clo f caps) Cue.enc l p∧K [.own 9 ((l.filter fun c=>!p c).map Cue.enc)]:=by
 refine .of (by kernel_rfl) Zej ?_;rintro _ K ⟨l,p,f,caps,hl,hlen,rfl,hsay,hK⟩;have hhas:HasK (.slice J9) (.slice (l.map Cue.enc)):=Z7 fun m hm=>Cue.has (hl m hm)
 refine⟨[.slice (l.map Cue.enc),.clo f caps],rfl,⟨hhas,trivial,trivial⟩,?_⟩;refine Z0 JW ⟨l,p,f,caps,hl,by simp only [zz,reduceCtorEq],hsay,_,rfl,?_⟩;simp only [zz,reduceCtorEq];rcases Yr p l 0 with⟨h1,h2⟩|⟨j,hj,h1,h2,h3⟩
 · rw [h1];have e:(l.filter fun c=>!p c)=l:=List.filter_eq_self.2 fun x hx=>by rw [h2 x hx];rfl
   rw [e]at hK;refine⟨fun _=>hK,fun h=>by simp at h⟩
 · rw [h1];simp only [Nat.zero_add];refine⟨fun h=>by omega,fun _=>?_⟩;obtain⟨sf,hf,hs⟩:=hsay;have hks:=Z55 hj h2 h3;rw [YR];refine⟨fun c ys=>c=none∧∃(n:Nat) (a:List Cue),Swept p l a n∧ys=[.int .i64 ((kept p l n).length:Nat),.int .i64 n,.slice (a.map Cue.enc)],
     fun _ ys=>match ys with| [_,.int _ n,_]=>l.length - n.toNat|_=>0,⟨rfl,j+1,l,⟨rfl,hj,by rw [hks];simp <;> omega,by rw [hks];simp <;> omega,rfl⟩,?_⟩,?_⟩
   · rw [hks];simp only [zz,reduceCtorEq];rw [Z1 (by omega)];simp;omega
   rintro _ _ _ ⟨rfl,n,a,hw,rfl⟩;have hle:=hw.le;have hal:=hw.len;have hkl:=hw.lt;simp only [zz,reduceCtorEq,List.length_map,hal,D.rep];intro hcap;refine⟨fun h=>?_,fun h=>?_⟩
   · have hn:n < l.length:=by omega
     have hna:n < a.length:=by omega
     have hga:=hw.get hn;refine⟨by omega,W6 (FvC.up' (s:=sf) (fv:=.clo f caps) hf) ⟨fun rs=>rs=[.d (.bool (p l[n]))],?_,fun rs h=>⟨[.bool (p l[n])],by rw [h];rfl,by simp [RK.all,RK.kinds,HasKs,HasK],?_⟩⟩⟩
     · simp only [zz,reduceCtorEq,J0 hna,hga,Cue.enc];exact hs l[n] (List.getElem_mem hn)
     · have hia:(kept p l n).length < a.length:=by omega
       have hset:=Zdx hia l[n];simp only [Cue.enc]at hset;cases hp:p l[n]with
       | true=>
         have hsk:=hw.skip hn hp;have ek:kept p l (n+1)=kept p l n:=by rw [Z01 p hn,if_pos hp,List.append_nil]
         simp only [zz,reduceCtorEq,hp];refine⟨⟨rfl,n+1,a,hsk,by rw [ek],by rw [Z1] <;> omega,rfl⟩,?_⟩;rw [Z1 (by omega)];show l.length - ((n:Int)+1).toNat < l.length - ((n:Int)).toNat;omega
       | false=>
         obtain⟨hsk,ek⟩:=hw.keep hn hp;simp only [zz,reduceCtorEq,hp,List.length_map,hia,J0 hna,hga,Cue.enc,D.upd,hset];refine⟨by omega,⟨rfl,n+1,_,hsk,by rw [ek,Z1] <;> omega,by rw [Z1] <;> omega,rfl⟩,?_⟩;rw [Z1 (n:=(n:Int)+1) (by omega)];show l.length - ((n:Int)+1).toNat < l.length - ((n:Int)).toNat;omega
   · have hn:n=l.length:=by omega
     subst hn;rw [Z2T]at hkl ⊢;have hh:=hw.head;rw [Z2T]at hh;generalize hfl:(l.filter fun c=>!p c)=fl at *;have hia:fl.length≤(a.map Cue.enc).length:=by simp;omega
     have e2:((a.map Cue.enc).take fl.length)=fl.map Cue.enc:=by rw [←List.map_take,hh]
     refine⟨by omega,by omega,by simp <;> omega,?_⟩;rw [Z1r hia,e2];exact hK
theorem Zdw {l:List Mov} {k:Nat} (hk:k < l.length) (e:Mov):((l.map Mov.enc).modify k fun x=>Zg x 0 e.enc)=(l.set k e).map Mov.enc:=by
 apply List.ext_getElem?;intro i;rw [List.getElem?_modify,List.getElem?_map,List.getElem?_map,List.getElem?_set];by_cases h:k=i
 · subst h;simp [hk,Zg,Mov.enc]
 · simp [h]
theorem ZbG:ContractX Tryz.prog 230 [.own mvKs,.cell .fn] false fun args K=>∃(l:List Mov) (p:Mov→Bool) (f:FuncId) (caps:List D),(∀m∈l,m.Ok)∧l.length≤1000000∧args=[.own 5 (l.map Mov.enc),.d (.clo f caps)]∧Yp Tryz.prog (.clo f caps) Mov.enc l p∧K [.own 5 ((l.filter fun c=>!p c).map Mov.enc)]:=by
 refine .of (by kernel_rfl) ZdR ?_;rintro _ K ⟨l,p,f,caps,hl,hlen,rfl,hsay,hK⟩;have hhas:HasK (.slice mvKs) (.slice (l.map Mov.enc)):=Z7 fun m hm=>Mov.has (hl m hm)
 refine⟨[.slice (l.map Mov.enc),.clo f caps],rfl,⟨hhas,trivial,trivial⟩,?_⟩;refine Z0 Z3C ⟨l,p,f,caps,hl,by simp only [zz,reduceCtorEq],hsay,_,rfl,?_⟩;simp only [zz,reduceCtorEq];rcases Yr p l 0 with⟨h1,h2⟩|⟨j,hj,h1,h2,h3⟩
 · rw [h1];have e:(l.filter fun c=>!p c)=l:=List.filter_eq_self.2 fun x hx=>by rw [h2 x hx];rfl
   rw [e]at hK;refine⟨fun _=>hK,fun h=>by simp at h⟩
 · rw [h1];simp only [Nat.zero_add];refine⟨fun h=>by omega,fun _=>?_⟩;obtain⟨sf,hf,hs⟩:=hsay;have hks:=Z55 hj h2 h3;rw [YR];refine⟨fun c ys=>c=none∧∃(n:Nat) (a:List Mov),Swept p l a n∧ys=[.int .i64 ((kept p l n).length:Nat),.int .i64 n,.slice (a.map Mov.enc)],
     fun _ ys=>match ys with| [_,.int _ n,_]=>l.length - n.toNat|_=>0,⟨rfl,j+1,l,⟨rfl,hj,by rw [hks];simp <;> omega,by rw [hks];simp <;> omega,rfl⟩,?_⟩,?_⟩
   · rw [hks];simp only [zz,reduceCtorEq];rw [Z1 (by omega)];simp;omega
   rintro _ _ _ ⟨rfl,n,a,hw,rfl⟩;have hle:=hw.le;have hal:=hw.len;have hkl:=hw.lt;simp only [zz,reduceCtorEq,List.length_map,hal,D.rep];intro hcap;refine⟨fun h=>?_,fun h=>?_⟩
   · have hn:n < l.length:=by omega
     have hna:n < a.length:=by omega
     have hga:=hw.get hn;refine⟨by omega,W6 (FvC.up' (s:=sf) (fv:=.clo f caps) hf) ⟨fun rs=>rs=[.d (.bool (p l[n]))],?_,fun rs h=>⟨[.bool (p l[n])],by rw [h];rfl,by simp [RK.all,RK.kinds,HasKs,HasK],?_⟩⟩⟩
     · simp only [zz,reduceCtorEq,J0 hna,hga,Mov.enc];exact hs l[n] (List.getElem_mem hn)
     · have hia:(kept p l n).length < a.length:=by omega
       have hset:=Zdw hia l[n];simp only [Mov.enc]at hset;cases hp:p l[n]with
       | true=>
         have hsk:=hw.skip hn hp;have ek:kept p l (n+1)=kept p l n:=by rw [Z01 p hn,if_pos hp,List.append_nil]
         simp only [zz,reduceCtorEq,hp];refine⟨⟨rfl,n+1,a,hsk,by rw [ek],by rw [Z1] <;> omega,rfl⟩,?_⟩;rw [Z1 (by omega)];show l.length - ((n:Int)+1).toNat < l.length - ((n:Int)).toNat;omega
       | false=>
         obtain⟨hsk,ek⟩:=hw.keep hn hp;simp only [zz,reduceCtorEq,hp,List.length_map,hia,J0 hna,hga,Mov.enc,D.upd,hset];refine⟨by omega,⟨rfl,n+1,_,hsk,by rw [ek,Z1] <;> omega,by rw [Z1] <;> omega,rfl⟩,?_⟩;rw [Z1 (n:=(n:Int)+1) (by omega)];show l.length - ((n:Int)+1).toNat < l.length - ((n:Int)).toNat;omega
   · have hn:n=l.length:=by omega
     subst hn;rw [Z2T]at hkl ⊢;have hh:=hw.head;rw [Z2T]at hh;generalize hfl:(l.filter fun c=>!p c)=fl at *;have hia:fl.length≤(a.map Mov.enc).length:=by simp;omega
     have e2:((a.map Mov.enc).take fl.length)=fl.map Mov.enc:=by rw [←List.map_take,hh]
     refine⟨by omega,by omega,by simp <;> omega,?_⟩;rw [Z1r hia,e2];exact hK
noncomputable def t25:R:=let x0:T:=.o1 .not (.ite (.o2 .ne (Va 0) (Va 3)) (.bool true) (.o2 .ne (Va 1) (Va 4)));let x1:List K:=tmKs;let x3:List K:=mvKs;let x4:T:=.o1 .len (Va 5);let x5:T:=.o1 .len (Va 2);let x2:T:=.o2 .le x5 (Vn 140737488355328);.fact (.ite x0 x2 (.bool true)) (.fact (.ite x0 (.o2 .le x4 (Vn 140737488355328)) (.bool true)) (.ite (.ite (.ite (.o2 .ne (Va 0) (Va 3)) (.bool true) (.o2 .ne (Va 1) (Va 4))) (.bool true) (.o2 .ne x5 x4)) (.ret [.d (.bool false)]) (.loop 0 [Vn 0] [.int .i64] (.fact x2 (.ite (.o2 .lt (Va 6) x5) (.need (.o2 .le (Vn 0) (Va 6)) (.need (.o2 .lt (Va 6) x4) (.call none (.fn 84) [Vl (.idx (Va 2) (Va 6) 0 .str) (Vl (.idx (Va 2) (Va 6) 1 .str) (Vl (.idx (Va 2) (Va 6) 2 (.slice x3)) (Vl (.idx (Va 2) (Va 6) 3 (.slice x1)) (Vl (.idx (Va 2) (Va 6) 4 .bool) (Vl (.idx (Va 2) (Va 6) 5 .bool) (Vl (.idx (Va 2) (Va 6) 6 (.int .i64)) (Vl (.idx (Va 2) (Va 6) 7 .str) (Vl (.idx (Va 2) (Va 6) 8 (.int .i64)) .lnil)))))))),Vl (.idx (Va 5) (Va 6) 0 .str) (Vl (.idx (Va 5) (Va 6) 1 .str) (Vl (.idx (Va 5) (Va 6) 2 (.slice x3)) (Vl (.idx (Va 5) (Va 6) 3 (.slice x1)) (Vl (.idx (Va 5) (Va 6) 4 .bool) (Vl (.idx (Va 5) (Va 6) 5 .bool) (Vl (.idx (Va 5) (Va 6) 6 (.int .i64)) (Vl (.idx (Va 5) (Va 6) 7 .str) (Vl (.idx (Va 5) (Va 6) 8 (.int .i64)) .lnil))))))))] [.cell .bool] (.ite (.o1 .not (Va 7)) (.ret [.d (.bool false)]) (.again 0 [.o2 (.add .i64) (Va 6) (Vn 1)]))))) (.ret [.d (.bool true)]))))))
noncomputable def t193:R:=.ret [.d (.o2 .eq (Va 0) (.fld (Va 9) 0 .str))]
theorem Zei:fnO Tryz.prog mdA 193 ([.agg J9]++[.cell (.ptr [.str])])=t193:=by kernel_rfl
theorem c193:J2 Tryz.prog 193=true:=by kernel_rfl
noncomputable def t126:R:=let x0:List K:=J9;.call none (.fn 137) [Va 2] [.own x0] (.callX false 192 [.own 9 (Va 4),.d (.clo 193 (Vl (.ptr (Vl (Va 3) .lnil)) .lnil))] [.own x0] (.ret [.own 9 (Va 5)]))
theorem Zfi:fnO Tryz.prog mdA 126 [.agg liKs,.cell .str]=t126:=by kernel_rfl
noncomputable def t55:R:=let x1:List K:=J9;let x2:T:=Vl (Vn 0) (Vl (Vn 0) (Vl .nils .lnil));let x3:T:=Vl (Va 1) (Vl (Va 2) .lnil);let x4:T:=Vl (Va 4) (Vl (Va 5) (Vl (Va 6) (Vl (Va 7) (Vl (Va 8) (Vl (Va 9) (Vl (Va 10) (Vl (Va 11) .lnil)))))));let x5:T:=Vl (Va 16) (Vl (Va 17) (Vl (Va 18) .lnil));let x0:T:=.o2 .app (Va 15) (.push .nils (Vl (Va 3) x4));let x6:T:=.o2 .le (.o1 .len x0) (Vn 140737488355328);let x7:T:=.o2 .le (.o1 .len x0) (Vn 1172812402961);let x8:T:=.o2 .gt (.o1 .len x0) (Vn 64);.call none (.fn 29) [Vl (Va 0) x3] [.cell (.int .i64)] (.ite (.o2 .ne (Va 12) (Vn 0)) (.ret [.d x2,.d (Va 12)]) (.call none (.fn 91) [Vl (Va 3) x4] [.cell (.int .i64)] (.ite (.o2 .ne (Va 13) (Vn 0)) (.ret [.d x2,.d (Va 13)]) (.guess (.bool true) (.ite (Va 14) (.call none (.fn 126) [Vl (Va 0) x3,Va 3] [.own x1] (.need x7 (.fact x6 (.ite x8 (.ret [.d x2,.d (Vn 5)]) (.callX false 127 [.d (Vl (Va 0) x3),.own 9 x0] [.agg [.int .i64,.int .i64,.slice x1]] (.ret [.d x5,.d (Vn 0)])))))) (.call none (.fn 126) [Vl (Va 0) x3,Va 3] [.own x1] (.need x7 (.fact x6 (.ite x8 (.ret [.d x2,.d (Vn 5)]) (.callX false 127 [.d (Vl (Va 0) x3),.own 9 x0] [.agg [.int .i64,.int .i64,.slice x1]] (.ret [.d x5,.d (Vn 0)])))))))))))
theorem Zh1:fnO Tryz.prog mdA 55 [.agg liKs,.agg J9]=t55:=by kernel_rfl
noncomputable def t136:R:=let x3:T:=.o1 .len (Va 0);let x4:T:=.o2 .le (Vn 0) (Va 2);let x1:T:=.o2 (.add .i64) (Va 1) (.o2 (.sub .i64) x3 (Va 2));let x0:T:=.o2 .app (.o2 .app (.sub (Va 0) (Vn 0) (Va 1)) (.sub (Va 0) (Va 2) x3)) (.sub (Va 0) x1 x3);let x2:T:=.sub (.o2 .app (.o2 .app (.sub x0 (Vn 0) x1) (.rep (.o2 (.sub .i64) x3 x1) (Vl (.str []) (Vl (.str []) (Vl .nils (Vl .nils (Vl (.bool false) (Vl (.bool false) (Vl (Vn 0) (Vl (.str []) (Vl (Vn 0) .lnil))))))))))) (.sub x0 x3 (.o1 .len x0))) (Vn 0) x1;.fact (.o2 .le x3 (Vn 140737488355328)) (.need (.o2 .le (Vn 0) (Va 1)) (.need (.o2 .le (Va 1) (Va 2)) (.need (.o2 .le (Va 2) x3) (.ite (.o2 .eq (Va 1) (Va 2)) (.ret [.own 9 (Va 0)]) (.guess (.bool true) (.ite (Va 3) (.need (.o2 .le (Va 1) x3) (.need x4 (.need (.o2 .le (Vn 0) x1) (.need (.o2 .le x1 x3) (.need (.o2 .le x3 (.o1 .len x0)) (.ret [.own 9 x2])))))) (.need x4 (.need (.o2 .le (Va 1) x3) (.need (.o2 .le (Vn 0) x1) (.need (.o2 .le x1 x3) (.need (.o2 .le x3 (.o1 .len x0)) (.ret [.own 9 x2]))))))))))))
theorem Zf6:fnXO Tryz.prog mdA 136 [.own J9,.cell (.int .i64),.cell (.int .i64)]=t136:=by kernel_rfl
theorem Z5i {P:Program} {F:Option Nat→List RV→Prop} (t:T) (r:R) (ags:Ags) (ρ:List D):denR P F noK (.guess t r) ags ρ=(∀b:Bool,(b=true→den ρ t=.bool true)→denR P F noK r ags (ρ++[.bool b])):=rfl
theorem Z41:Contract Tryz.prog 137 fun args K=>∃(cs:List Cue),(∀c∈cs,c.Ok)∧cs.length≤1000000∧args=[.slice (cs.map Cue.enc)]∧K [.own 9 (cs.map Cue.enc)]:=by
 refine .of (by kernel_rfl) Zf5 ?_;rintro _ K ⟨cs,hcs,hlen,rfl,hK⟩ hsm;refine⟨[.slice (cs.map Cue.enc)],rfl,⟨JM hcs,trivial⟩,?_⟩;unfold t137;simp only [denR];intro b hb;simp only [zz,reduceCtorEq,List.length_map];cases b with
 | true=>
   have:=hb rfl;simp only [zz,reduceCtorEq,List.length_map]at this;have h0:cs=[]:=List.eq_nil_of_length_eq_zero (by omega);subst h0;exact⟨fun _=>hK,fun h=>by simp at h⟩
 |false=>exact⟨fun h=>by simp at h,fun _=>⟨by omega,hK⟩⟩
theorem Z6H:Contract Tryz.prog 193 fun args K=>∃(c:Cue) (s:List UInt8),c.Ok∧args=[.agg c.enc,.ptr [.str s]]∧K [.d (.bool (c.num==s))]:=by
 refine .of c193 Zei ?_;rintro _ K ⟨c,s,hc,rfl,hK⟩ hsm;refine⟨c.enc++[.ptr [.str s]],rfl,by exact(Cue.has hc).append (show HasKs [.ptr [.str]] [.ptr [.str s]]from⟨⟨trivial,trivial⟩,trivial⟩),?_⟩;simp only [zz,reduceCtorEq,t193,Cue.enc];exact hK
theorem Z4r (l:List Cue) (hl:∀c∈l,c.Ok) (s:List UInt8):Yp Tryz.prog (.clo 193 [.ptr [.str s]]) Cue.enc l (fun c=>c.num==s):=by
 refine⟨fun as_ K=>∃c:Cue,c.Ok∧as_=[.agg c.enc]∧K [.d (.bool (c.num==s))],FvC.of c193 Z6H ?_,fun c hc=>⟨c,hl c hc,rfl,rfl⟩⟩;rintro _ K ⟨c,hc,rfl,hK⟩;refine⟨⟨c,s,hc,rfl,hK⟩,Z4 [some (.agg J9)] (by kernel_rfl) ?_⟩;intro i rk d h1 h2;cases i with
 |zero=>simp at h1 h2;subst h1 h2;exact Cue.has hc
 |succ i=>simp at h1
theorem Z8e:Contract Tryz.prog 126 fun args K=>∃(l:Lis) (s:List UInt8),l.Ok∧l.cues.length≤1000000∧args=[.agg l.enc,.str s]∧K [.own 9 ((without l.cues s).map Cue.enc)]:=by
 refine .of (by kernel_rfl) Zfi ?_;rintro _ K ⟨l,s,hl,hlen,rfl,hK⟩ hsm;refine⟨l.enc++[.str s],rfl,by exact Z2B hl,?_⟩;refine Z0 Z41 ⟨l.cues,hl.cues,hlen,by simp only [zz,reduceCtorEq,Lis.enc],_,rfl,?_⟩;refine Jo ZbH ⟨[.slice (l.cues.map Cue.enc),.clo 193 [.ptr [.str s]]],rfl,⟨JM hl.cues,trivial,trivial⟩⟩ (fun h=>by cases h) ?_;refine⟨l.cues,fun c=>c.num==s,193,[.ptr [.str s]],hl.cues,hlen,rfl,Z4r l.cues hl.cues s,[.slice ((without l.cues s).map Cue.enc)],rfl,?_⟩;simp only [zz,reduceCtorEq,Lis.enc];exact hK
theorem Z4o {cs:List Cue} (hr:Zs cs) (s:List UInt8):Zs (without cs s):=hr.filter _
theorem Z0C {cs:List Cue} {s:List UInt8} {c:Cue}:c∈without cs s↔c∈cs∧c.num≠s:=by simp [without,List.mem_filter]
theorem Zg1 (c:Cue) (cs:List Cue):(ins c cs).length=cs.length+1:=by have:=(Z2V c cs).length_eq;simpa using this
def putR (l:Lis) (c:Cue):Lis×Int:=if J4 Y2 l≠0 then(zeroL,J4 Y2 l)else if J5 c≠0 then(zeroL,J5 c)else if 64 < (ins c (without l.cues c.num)).length then(zeroL,5)else({l with cues:=ins c (without l.cues c.num)},0)
def Z3R (l:Lis) (s:List UInt8):Lis×Bool×Int:=if Wn l s≠0 then(zeroL,false,Wn l s)else({l with cues:=without l.cues s},decide (0≤place l.cues s),0)
theorem Z8W {cs:List Cue} (h:∀c∈cs,c.Ok) (s:List UInt8):∀c∈without cs s,c.Ok:=fun c hc=>h c (Z0C.1 hc).1
theorem ZcM:Contract Tryz.prog 55 fun args K=>∃(l:Lis) (c:Cue),l.Ok∧c.Ok∧args=[.agg l.enc,.agg c.enc]∧K [.d (.agg (putR l c).1.enc),.d (.int .i64 (putR l c).2)]:=by
 refine .of (by kernel_rfl) Zh1 ?_;rintro _ K ⟨l,c,hl,hc,rfl,hK⟩ hsm;refine⟨l.enc++c.enc,rfl,by exact(Lis.has hl).append (Cue.has hc),?_⟩;refine Z0 YD ⟨l,hl,by simp only [zz,reduceCtorEq,Lis.enc,Cue.enc],_,rfl,?_⟩;simp only [zz,reduceCtorEq,Lis.enc,Cue.enc];unfold putR at hK;refine⟨fun h=>?_,fun h=>?_⟩
 · have h:J4 Y2 l≠0:=by simpa using h
   rw [if_pos h]at hK;exact hK
 have h:J4 Y2 l=0:=by simpa using h
 rw [if_neg (by simp [h])]at hK;refine Z0 Z1j ⟨c,hc,by simp only [zz,reduceCtorEq,Lis.enc,Cue.enc],_,rfl,?_⟩;simp only [zz,reduceCtorEq,Lis.enc,Cue.enc];refine⟨fun h2=>?_,fun h2=>?_⟩
 · have h2:J5 c≠0:=by simpa using h2
   rw [if_pos h2]at hK;exact hK
 have h2:J5 c=0:=by simpa using h2
 rw [if_neg (by simp [h2])]at hK;have hR:=Zc h;have hlen:=hR.len;have hnum:=ZY h2;have hwo:=Z8W hl.cues c.num;have hwl:(without l.cues c.num).length≤64:=Nat.le_trans (List.length_filter_le _ _) hlen;have hwn:∀x∈without l.cues c.num,W3 x.num=0:=fun x hx=>hR.num x (Z0C.1 hx).1
 have hwv:∀x∈without l.cues c.num,Wl x≠Wl c:=fun x hx e=>(Z0C.1 hx).2 (Z39 (hwn x hx) hnum e)
 have hins:=Z59 (Z4o hR.rising c.num) hwv;rw [Zg1]at hK;have happ:∀x∈without l.cues c.num++[c],x.Ok∧W3 x.num=0:=by
   intro x hx;rcases List.mem_append.1 hx with hx|hx
   · exact⟨hwo x hx,hwn x hx⟩
   · simp at hx;subst hx;exact⟨hc,hnum⟩
 simp only [Z5i];intro b _;cases b <;> simp only [zz,reduceCtorEq]
 all_goals
   refine Z0 Z8e ⟨l,c.num,hl,by omega,by simp only [zz,reduceCtorEq,Lis.enc,Cue.enc],_,rfl,?_⟩;generalize hW:without l.cues c.num=W at *;simp only [zz,reduceCtorEq,Lis.enc,Cue.enc,List.length_append,List.length_map,List.length_cons,List.length_nil];refine⟨by omega,fun _=>⟨fun h3=>?_,fun h3=>?_⟩⟩
   · rw [if_pos (by omega)]at hK;exact hK
   · rw [if_neg (by omega)]at hK;have e1:W.map Cue.enc++[[D.str c.num,.str c.label,.slice (c.moves.map Mov.enc),.slice (c.parts.map Tim.enc),.bool c.block,.bool c.mark,.int .i64 c.follow,.str c.link,.int .i64 c.loops]]=(W++[c]).map Cue.enc:=by simp [Cue.enc]
     refine Jo ZdJ ⟨l.enc++[.slice ((W++[c]).map Cue.enc)],by simp only [zz,reduceCtorEq,Lis.enc,Cue.enc,D.push,e1];rfl,by exact Z8J hl ⟨JM fun x hx=>(happ x hx).1,trivial⟩⟩ (fun h=>by cases h) ?_;refine⟨l,W++[c],hl,fun x hx=>(happ x hx).1,fun x hx=>(happ x hx).2,by simp,by simp only [zz,reduceCtorEq,Lis.enc,Cue.enc,D.push,e1],fun cs' hp hs=>?_⟩;have e2:cs'=ins c W:=Z0o Wl (ins c W) cs' (hp.trans ((List.perm_append_comm).trans (Z2V c W).symm)) hs hins;subst e2;refine⟨(Lis.enc {l with cues:=ins c W}),rfl,?_⟩;simp only [zz,reduceCtorEq,Lis.enc];exact hK
theorem ZbF:ContractX Tryz.prog 136 [.own J9,.cell (.int .i64),.cell (.int .i64)] false fun args K=>∃(l:List Cue) (i j:Nat),(∀m∈l,m.Ok)∧l.length≤1000000∧i≤j∧j≤l.length∧args=[.own 9 (l.map Cue.enc),.d (.int .i64 i),.d (.int .i64 j)]∧K [.own 9 ((l.take i++l.drop j).map Cue.enc)]:=by
 refine .of (by kernel_rfl) Zf6 ?_;rintro _ K ⟨l,i,j,hl,hlen,hij,hjl,rfl,hK⟩;have hi:I64 i:=⟨by omega,by omega⟩
 have hj:I64 j:=⟨by omega,by omega⟩
 refine⟨[.slice (l.map Cue.enc),.int .i64 i,.int .i64 j],rfl,⟨JM hl,Y4 hi,Y4 hj,trivial⟩,?_⟩;have hw1:wr64 ((l.length:Int) - (j:Int))=((l.length - j:Nat):Int):=by rw [Z1 (by omega)];omega
 have hw2:wr64 ((i:Int)+((l.length - j:Nat):Int))=((i+(l.length - j):Nat):Int):=by rw [Z1 (by omega)];omega
 have hT:(l.map Cue.enc).take l.length=l.map Cue.enc:=List.take_of_length_le (by simp);have hA:(l.map Cue.enc).length=l.length:=by simp
 have hfin:(l.take i++l.drop j).map Cue.enc=(l.map Cue.enc).take i++(l.map Cue.enc).drop j:=by simp
 rw [hfin]at hK;generalize hAA:l.map Cue.enc=A at *;have hX:∀B:List (List D),(A.take i++A.drop j++B).take (i+(l.length - j))=A.take i++A.drop j:=fun B=>by
   have:(A.take i++A.drop j).length=i+(l.length - j):=by simp;omega
   rw [←this,List.take_left]
 simp only [zz,reduceCtorEq,t136,Z5i,hA,hw1,hw2,hT,D.rep,List.length_append,List.length_take,List.length_drop];refine fun _=>⟨by omega,hij,hjl,fun h=>?_,fun h=>?_⟩
 · have:i=j:=by omega
   subst this;rw [List.take_append_drop]at hK;exact hK
 have fin:∀R B:List (List D),((A.take i++A.drop j++A.drop (i+(l.length - j))).take (i+(l.length - j))++R++B).take (i+(l.length - j))=A.take i++A.drop j:=fun R B=>by
   rw [Z1r (by simp;omega),hX]
 intro b;refine⟨fun _=>⟨by omega,by omega,by omega,by omega,by omega,?_⟩,fun _=>⟨by omega,by omega,by omega,by omega,by omega,?_⟩⟩
 all_goals
   rw [fin];exact hK
noncomputable def t66:R:=let x0:List K:=J9;let x1:T:=Vl (Va 1) (Vl (Va 2) .lnil);.call none (.fn 135) [Vl (Va 0) x1,Va 3] [.cell (.int .i64),.cell .bool,.cell (.int .i64)] (.ite (.o2 .ne (Va 6) (Vn 0)) (.ret [.d (Vl (Vn 0) (Vl (Vn 0) (Vl .nils .lnil))),.d (.bool false),.d (Va 6)]) (.ite (Va 5) (.call none (.fn 137) [Va 2] [.own x0] (.callX false 136 [.own 9 (Va 7),.d (Va 4),.d (.o2 (.add .i64) (Va 4) (Vn 1))] [.own x0] (.ret [.d (Vl (Va 0) (Vl (Va 1) (Vl (Va 8) .lnil))),.d (.bool true),.d (Vn 0)]))) (.ret [.d (Vl (Va 0) x1),.d (Va 5),.d (Vn 0)])))
theorem ZgP:fnO Tryz.prog mdA 66 [.agg liKs,.cell .str]=t66:=by kernel_rfl
theorem Zbw:Contract Tryz.prog 66 fun args K=>∃(l:Lis) (s:List UInt8),l.Ok∧args=[.agg l.enc,.str s]∧K [.d (.agg (Z3R l s).1.enc),.d (.bool (Z3R l s).2.1),.d (.int .i64 (Z3R l s).2.2)]:=by
 refine .of (by kernel_rfl) ZgP ?_;rintro _ K ⟨l,s,hl,rfl,hK⟩ hsm;refine⟨l.enc++[.str s],rfl,by exact Z2B hl,?_⟩;refine Z0 Z5W ⟨l,s,hl,by simp only [zz,reduceCtorEq,Lis.enc],_,rfl,?_⟩;by_cases hg:Wn l s=0;rotate_left
 · have e1:WA l s=(0,false,Wn l s):=by unfold WA;rw [if_pos (by simpa using hg)]
   have e2:Z3R l s=(zeroL,false,Wn l s):=by unfold Z3R;rw [if_pos (by simpa using hg)]
   rw [e1];rw [e2]at hK;simp only [zz,reduceCtorEq,Lis.enc];exact⟨fun _=>hK,fun h=>absurd (by simpa using h) hg⟩
 obtain⟨hR,h05⟩:=Z3G hg;have hlen:=hR.len;have e2:Z3R l s=({l with cues:=without l.cues s},decide (0≤place l.cues s),0):=by unfold Z3R;rw [if_neg (by simp [hg])]
 rw [e2]at hK;by_cases hp:place l.cues s < 0
 · have e1:WA l s=(0,false,0):=by
     unfold WA;rw [if_neg (by simp [hg]),if_pos hp];have:¬0≤place l.cues s:=by omega
     simp [this]
   have e3:without l.cues s=l.cues:=List.filter_eq_self.2 fun x hx=>by
     have:=Z0Z.1 hp x hx;simpa using this
   have e4:decide (0≤place l.cues s)=false:=by simp;omega
   rw [e1];rw [e3,e4]at hK;simp only [zz,reduceCtorEq,Lis.enc];exact hK
 · obtain⟨k,hk,hpk,hks,_⟩:=Z0X hp;have e1:WA l s=((k:Int),true,0):=by
     have h0:(0:Int)≤(k:Int):=by omega
     unfold WA;rw [if_neg (by simp [hg]),if_neg hp,hpk];simp only [h0,decide_true]
   have e3:=Z8V hR.rising hk hks;have e4:decide (0≤place l.cues s)=true:=by simp;omega
   have hw:wr64 ((k:Int)+1)=((k+1:Nat):Int):=by rw [Z1 (by omega)];omega
   rw [e1];rw [e3,e4]at hK;simp only [zz,reduceCtorEq,Lis.enc];refine Z0 Z41 ⟨l.cues,hl.cues,by omega,by simp only [zz,reduceCtorEq,Lis.enc],_,rfl,?_⟩;refine Jo ZbF ⟨[.slice (l.cues.map Cue.enc),.int .i64 (k:Nat),.int .i64 ((k+1:Nat):Int)],by simp only [zz,reduceCtorEq,Lis.enc,hw];rfl,⟨JM hl.cues,Y4 ⟨by omega,by omega⟩,Y4 ⟨by omega,by omega⟩,trivial⟩⟩ (fun h=>by cases h) ?_;refine⟨l.cues,k,k+1,hl.cues,by omega,by omega,hk,by simp only [zz,reduceCtorEq,Lis.enc,hw],[.slice ((l.cues.take k++l.cues.drop (k+1)).map Cue.enc)],rfl,?_⟩;simp only [zz,reduceCtorEq,Lis.enc];exact hK
theorem Z5r:zeroL.Ok:=⟨⟨by decide,by decide⟩,⟨by decide,by decide⟩,by simp [zeroL]⟩
structure Putd (l:Lis) (c:Cue):Prop where
 right:J4 Y2 {l with cues:=ins c (without l.cues c.num)}=0
 find:∃(i:Nat) (hi:i < (ins c (without l.cues c.num)).length),WA {l with cues:=ins c (without l.cues c.num)} c.num=((i:Int),true,0)∧(ins c (without l.cues c.num))[i]=c
 drop:Z3R {l with cues:=ins c (without l.cues c.num)} c.num=({l with cues:=without l.cues c.num},true,0)
 drop0:∃b,Z3R l c.num=({l with cues:=without l.cues c.num},b,0)
def l16 (f:Nat→T):Nat→Nat→T
 |_,0=>.lnil
 |i,n+1=>.lcons (f i) (l16 f (i+1) n)
def q16:T:=.o2 (.quo .i64) (.var 16) (.int .i64 64)
def r16:T:=.o2 (.rem .i64) (.var 16) (.int .i64 64)
def s16:T:=.sel (l16 .var 0 16) q16 (.int .u64)
def o16:T:=.o2 (.or .u64) s16 (.o2 (.shl .u64) (.int .u64 1) r16)
noncomputable def n16 (r:R):R:=.need (.o2 .ne (.int .i64 64) (.int .i64 0)) (.need (.o2 .le (.int .i64 0) q16) (.need (.o2 .lt q16 (.int .i64 16)) (.need (.o2 .ge r16 (.int .i64 0)) r)))
noncomputable def t229:R:=n16 (.ret [.box (l16 (fun i=>.ite (.o2 .eq q16 (.int .i64 i)) o16 (.var i)) 0 16)])
theorem ZdS:fnUO Tryz.prog mdA 229 [.box chKs,.cell (.int .i64)]=t229:=by kernel_rfl
noncomputable def t217:R:=n16 (.ret [.d (.o2 .ne (.o2 (.and .u64) (.o2 (.shr .u64) s16 r16) (.int .u64 1)) (.int .u64 0))])
theorem ZdZ:fnO Tryz.prog mdA 217 [.agg chKs,.cell (.int .i64)]=t217:=by kernel_rfl
def encW (ws:List Nat):List D:=ws.map fun w=>.int .u64 (w:Nat)
theorem Zdl {ws:List Nat} (h:∀w∈ws,w < 2 ^ 64):HasKs (List.replicate ws.length (.int .u64)) (encW ws):=by
 induction ws with
 |nil=>trivial
 | cons w ws ih=>
   have m1:IntKind.u64.min=0:=by decide
   have m2:IntKind.u64.max=18446744073709551615:=by decide
   have:=h w List.mem_cons_self;exact⟨⟨rfl,by omega,by omega⟩,ih fun x hx=>h x (List.mem_cons_of_mem _ hx)⟩
theorem Z3Q {ws:List Nat} (hl:ws.length=16) (h:∀w∈ws,w < 2 ^ 64):HasKs chKs (encW ws):=by
 have:=Zdl h;rw [hl]at this;exact this
theorem cellW {ws:List Nat} {q:Nat} (h:q < ws.length):D.cellAt (encW ws) (.int .i64 (q:Nat)) (.int .u64)=.int .u64 ((ws.getD q 0:Nat):Int):=by
 simp [D.cellAt,encW,List.getD,h]
theorem i64n {n:Nat} (h:n < 1000000):HasK (.int .i64) (.int .i64 (n:Nat)):=by
 have m1:IntKind.i64.min= -9223372036854775808:=by decide
 have m2:IntKind.i64.max=9223372036854775807:=by decide
 exact⟨rfl,by omega,by omega⟩
theorem quo64 {c:Nat} (h:c < 1000000):wr64 ((c:Int).tdiv 64)=((c / 64:Nat):Int):=by
 have e:(c:Int).tdiv 64=((c / 64:Nat):Int):=rfl;rw [e,Z1 (by omega)]
theorem rem64 {c:Nat} (h:c < 1000000):wr64 ((c:Int).tmod 64)=((c % 64:Nat):Int):=by
 have e:(c:Int).tmod 64=((c % 64:Nat):Int):=rfl;rw [e,Z1 (by omega)]
theorem Zd9 {w c:Nat} (h:w < 2 ^ 64):(O2.eval .ne (O2.eval (.and .u64) (O2.eval (.shr .u64) (.int .u64 (w:Int)) (.int .i64 ((c % 64:Nat):Int))) (.int .u64 1)) (.int .u64 0))=.bool (w.testBit (c % 64)):=by
 have hb:IntKind.u64.bits=64:=by decide
 have hm:min (Int.toNat ((c % 64:Nat):Int)) IntKind.u64.bits=c % 64:=by rw [hb];omega
 have e1:O2.eval (.shr .u64) (.int .u64 (w:Int)) (.int .i64 ((c % 64:Nat):Int))=.int .u64 ((w / 2 ^ (c % 64):Nat):Int):=by
   simp only [O2.eval];rw [hm];have e:(w:Int).fdiv (2 ^ (c % 64))=((w / 2 ^ (c % 64):Nat):Int):=by
     rw [Int.fdiv_eq_ediv_of_nonneg _ (by exact Int.le_of_lt (Int.pow_pos (by decide)))];simp
   rw [e,Z2D (Nat.lt_of_le_of_lt (Nat.div_le_self _ _) h)]
 rw [e1];have e2:O2.eval (.and .u64) (.int .u64 ((w / 2 ^ (c % 64):Nat):Int)) (.int .u64 1)=.int .u64 ((w / 2 ^ (c % 64) &&& 1:Nat):Int):=by
   simp only [O2.eval];have:=Zgh (a:=w / 2 ^ (c % 64)) (b:=1) (Nat.lt_of_le_of_lt (Nat.div_le_self _ _) h) (by decide);rw [←this];rfl
 rw [e2];have e3:=Zge (w:=w) (c:=c);generalize w / 2 ^ (c % 64) &&& 1=z at *;generalize w.testBit (c % 64)=b at *;simp only [O2.eval,D.eqb];by_cases hz:z=0
 · subst hz;cases b <;> simp at e3 ⊢
 · have:b=true:=e3.1 hz;subst this;simp;omega
theorem ZfH {c:Nat}:O2.eval (.shl .u64) (.int .u64 1) (.int .i64 ((c % 64:Nat):Int))=.int .u64 ((2 ^ (c % 64):Nat):Int):=by
 have hb:IntKind.u64.bits=64:=by decide
 have hm:min (Int.toNat ((c % 64:Nat):Int)) IntKind.u64.bits=c % 64:=by rw [hb];omega
 simp only [O2.eval];rw [hm,Int.one_mul];have:=Z2D (n:=2 ^ (c % 64)) (Nat.pow_lt_pow_right (by decide) (Nat.mod_lt _ (by decide)));rw [←this];norm_cast
structure Ws (ws:List Nat) (c:Nat) (ρ:List D):Prop where
 q:den ρ q16=.int .i64 ((c / 64:Nat):Int)
 r:den ρ r16=.int .i64 ((c % 64:Nat):Int)
 s:den ρ s16=.int .u64 ((ws.getD (c / 64) 0:Nat):Int)
 o:den ρ o16=.int .u64 ((ws.getD (c / 64) 0 ||| 2 ^ (c % 64):Nat):Int)
theorem Zbl {ws:List Nat} (hw:∀w∈ws,w < 2 ^ 64) (i:Nat):ws.getD i 0 < 2 ^ 64:=by
 rw [List.getD_eq_getElem?_getD];cases h:ws[i]? with
 |none=>decide
 |some w=>exact hw w (List.mem_of_getElem? h)
theorem Zgj {ws:List Nat} {c:Nat} (hl:ws.length=16) (hw:∀w∈ws,w < 2 ^ 64) (hc:c < 1024):Ws ws c (encW ws++[.int .i64 (c:Nat)]):=by
 match ws,hl with
 | [a0,a1,a2,a3,a4,a5,a6,a7,a8,a9,a10,a11,a12,a13,a14,a15],_=>
 have hq:den (encW [a0,a1,a2,a3,a4,a5,a6,a7,a8,a9,a10,a11,a12,a13,a14,a15]++[.int .i64 (c:Nat)]) q16=.int .i64 ((c / 64:Nat):Int):=by
   show D.int .i64 (IntKind.i64.wrap ((c:Int).tdiv 64))=_;rw [Z8r,quo64 (by omega)]
 have hr:den (encW [a0,a1,a2,a3,a4,a5,a6,a7,a8,a9,a10,a11,a12,a13,a14,a15]++[.int .i64 (c:Nat)]) r16=.int .i64 ((c % 64:Nat):Int):=by
   show D.int .i64 (IntKind.i64.wrap ((c:Int).tmod 64))=_;rw [Z8r,rem64 (by omega)]
 have hs:den (encW [a0,a1,a2,a3,a4,a5,a6,a7,a8,a9,a10,a11,a12,a13,a14,a15]++[.int .i64 (c:Nat)]) s16=.int .u64 (([a0,a1,a2,a3,a4,a5,a6,a7,a8,a9,a10,a11,a12,a13,a14,a15].getD (c / 64) 0:Nat):Int):=by
   show D.cellAt (encW [a0,a1,a2,a3,a4,a5,a6,a7,a8,a9,a10,a11,a12,a13,a14,a15]) (den _ q16) (.int .u64)=_;rw [hq];exact cellW (by simp;omega)
 refine⟨hq,hr,hs,?_⟩;show O2.eval (.or .u64) (den _ s16) (O2.eval (.shl .u64) (.int .u64 1) (den _ r16))=_;rw [hs,hr,ZfH];simp only [O2.eval];rw [Zht (Zbl hw _) (Nat.pow_lt_pow_right (by decide) (Nat.mod_lt _ (by decide)))]
theorem Zdz {P:Program} {F:Option Nat→List RV→Prop} {r:R} {ags:Ags} {ws:List Nat} {c:Nat} {ρ:List D} (h:Ws ws c ρ) (hc:c < 1024) (hr:denR P F noK r ags ρ):denR P F noK (n16 r) ags ρ:=by
 refine⟨rfl,?_,?_,?_,hr⟩
 · show O2.eval .le (.int .i64 0) (den ρ q16)=_;rw [h.q];simp [O2.eval];omega
 · show O2.eval .lt (den ρ q16) (.int .i64 16)=_;rw [h.q];simp [O2.eval];omega
 · show O2.eval .ge (den ρ r16) (.int .i64 0)=_;rw [h.r];simp [O2.eval];omega
theorem Z7P:Contract Tryz.prog 217 fun args K=>∃(ws:List Nat) (c:Nat),ws.length=16∧(∀w∈ws,w < 2 ^ 64)∧c < 1024∧args=[.agg (encW ws),.int .i64 c]∧K [.d (.bool (hasW ws c))]:=by
 refine .of (by kernel_rfl) ZdZ ?_;rintro _ K ⟨ws,c,hl,hw,hc,rfl,hK⟩ hsm;have hlen:(encW ws).length=16:=by simp [encW,hl]
 refine⟨encW ws++[.int .i64 c],by simp [Jr,hlen,chKs],HasKs.append (Z3Q hl hw) ⟨i64n (by omega),trivial⟩,?_⟩;have W:=Zgj hl hw hc;refine Zdz W hc ?_;have e:den (encW ws++[.int .i64 (c:Nat)]) (.o2 .ne (.o2 (.and .u64) (.o2 (.shr .u64) s16 r16) (.int .u64 1)) (.int .u64 0))=.bool (hasW ws c):=by
   show O2.eval .ne (O2.eval (.and .u64) (O2.eval (.shr .u64) (den _ s16) (den _ r16)) (.int .u64 1)) (.int .u64 0)=_;rw [W.s,W.r];exact Zd9 (Zbl hw _)
 simp only [Z5X,List.map_cons,List.map_nil,RT.den,e];exact hK
theorem ZfT:ContractX Tryz.prog 229 [.box chKs,.cell (.int .i64)] true fun args K=>∃(ws:List Nat) (c:Nat),ws.length=16∧(∀w∈ws,w < 2 ^ 64)∧c < 1024∧args=[.box (encW ws),.d (.int .i64 c)]∧K [.box (encW (addW ws c))]:=by
 refine .ofU (by kernel_rfl) ZdS ?_;rintro _ K ⟨ws,c,hl,hw,hc,rfl,hK⟩;have hlen:(encW ws).length=16:=by simp [encW,hl]
 refine⟨encW ws++[.int .i64 c],by simp [Zd,hlen,chKs],HasKs.append (Z3Q hl hw) ⟨i64n (by omega),trivial⟩,?_⟩;have W:=Zgj hl hw hc;refine Zdz W hc ?_;have e:(den (encW ws++[.int .i64 (c:Nat)]) (l16 (fun i=>.ite (.o2 .eq q16 (.int .i64 i)) o16 (.var i)) 0 16)).list=encW (addW ws c):=by
   match ws,hl with
   | [a0,a1,a2,a3,a4,a5,a6,a7,a8,a9,a10,a11,a12,a13,a14,a15],_=>
   have ho:=W.o;have hq:=W.q;generalize o16=tor at ho ⊢;generalize q16=tq at hq ⊢;simp only [l16,den,D.list,ho,hq,O2.eval,D.eqb];unfold addW;generalize ([a0,a1,a2,a3,a4,a5,a6,a7,a8,a9,a10,a11,a12,a13,a14,a15].getD (c / 64) 0 ||| 2 ^ (c % 64):Nat)=z;have hcs:c / 64=0∨c / 64=1∨c / 64=2∨c / 64=3∨c / 64=4∨c / 64=5∨c / 64=6∨c / 64=7∨c / 64=8∨c / 64=9∨c / 64=10∨c / 64=11∨c / 64=12∨c / 64=13∨c / 64=14∨c / 64=15:=by omega
   rcases hcs with h|h|h|h|h|h|h|h|h|h|h|h|h|h|h|h <;> rw [h] <;> rfl
 simp only [Z5X,List.map_cons,List.map_nil,RT.den,e];exact hK
noncomputable def t52:R:=.call none (.fn 120) [Va 0,Vn 4096,.fn 117,.fn 121] [.cell (.int .i64)] (.ret [.d (Va 1)])
theorem Zh4:fnO Tryz.prog mdA 52 [.cell (.slice enKs)]=t52:=by kernel_rfl
noncomputable def t117:R:=.call none (.fn 118) [Vl (Va 0) (Vl (Va 1) .lnil),Vn 1] [.cell (.int .i64)] (.ite (.o2 .ne (Va 4) (Vn 0)) (.ret [.d (Va 4)]) (.call none (.fn 119) [Vl (Va 2) (Vl (Va 3) .lnil)] [.cell (.int .i64)] (.ret [.d (Va 5)])))
theorem Zfr:fnO Tryz.prog mdA 117 [.agg enKs]=t117:=by kernel_rfl
theorem c117:J2 Tryz.prog 117=true:=by kernel_rfl
noncomputable def t118:R:=.ite (.ite (.ite (.ite (.o2 .lt (Va 0) (Va 2)) (.bool true) (.o2 .gt (Va 0) (Vn 999))) (.bool true) (.o2 .lt (Va 1) (Vn 0))) (.bool true) (.o2 .ge (Va 1) (Vn 15))) (.ret [.d (Vn 2)]) (.ret [.d (Vn 0)])
theorem Zfq:fnO Tryz.prog mdA 118 [.agg [.int .i64,.int .i64],.cell (.int .i64)]=t118:=by kernel_rfl
noncomputable def t120:R:=let x0:T:=.o2 (.sub .i64) (Va 4) (Vn 1);let x1:T:=Vl (.idx (Va 0) (Va 4) 1 (.int .i64)) (Vl (.idx (Va 0) (Va 4) 2 (.int .i64)) (Vl (.idx (Va 0) (Va 4) 3 (.int .i64)) .lnil));let x2:T:=.o2 .gt (Va 4) (Vn 0);let x3:T:=.o1 .len (Va 0);let x4:T:=.idx (Va 0) (Va 4) 0 (.int .i64);.fact (.o2 .le x3 (Vn 140737488355328)) (.ite (.o2 .gt x3 (Va 1)) (.ret [.d (Vn 5)]) (.loop 0 [Vn 0] [.int .i64] (.ite (.o2 .lt (Va 4) x3) (.need (.o2 .le (Vn 0) (Va 4)) (.call none (.val (Va 2)) [Vl x4 x1] [.cell (.int .i64)] (.ite (.o2 .ne (Va 5) (Vn 0)) (.ret [.d (Va 5)]) (.need (.ite x2 (.o2 .le (Vn 0) x0) (.bool true)) (.need (.ite x2 (.o2 .lt x0 x3) (.bool true)) (.call (some x2) (.val (Va 3)) [Vl (.idx (Va 0) x0 0 (.int .i64)) (Vl (.idx (Va 0) x0 1 (.int .i64)) (Vl (.idx (Va 0) x0 2 (.int .i64)) (Vl (.idx (Va 0) x0 3 (.int .i64)) .lnil))),Vl x4 x1] [.cell (.int .i64)] (.ite (.ite x2 (.o2 .ge (Va 6) (Vn 0)) (.bool false)) (.ret [.d (Vn 9)]) (.again 0 [.o2 (.add .i64) (Va 4) (Vn 1)])))))))) (.ret [.d (Vn 0)]))))
theorem Zfo:fnO Tryz.prog mdA 120 [.cell (.slice enKs),.cell (.int .i64),.cell .fn,.cell .fn]=t120:=by kernel_rfl
noncomputable def t121:R:=.call none (.fn 122) [Vl (Va 0) (Vl (Va 1) .lnil),Vl (Va 4) (Vl (Va 5) .lnil)] [.cell (.int .i64)] (.ret [.d (Va 8)])
theorem Zfn:fnO Tryz.prog mdA 121 [.agg enKs,.agg enKs]=t121:=by kernel_rfl
theorem c121:J2 Tryz.prog 121=true:=by kernel_rfl
noncomputable def t122:R:=.ite (.o2 .ne (Va 0) (Va 2)) (.ret [.d (.o2 (.sub .i64) (Va 0) (Va 2))]) (.ret [.d (.o2 (.sub .i64) (Va 1) (Va 3))])
theorem Zfm:fnO Tryz.prog mdA 122 [.agg [.int .i64,.int .i64],.agg [.int .i64,.int .i64]]=t122:=by kernel_rfl
noncomputable def t14:R:=let x0:T:=.o2 (.sub .i64) (Va 1) (Vn 1);let x1:T:=.o2 .gt (Va 1) (Vn 0);let x2:T:=.o1 .len (Va 0);let x3:T:=Vl (.idx (Va 0) (Va 1) 1 (.int .i64)) .lnil;let x4:T:=.idx (Va 0) (Va 1) 0 (.int .i64);.fact (.o2 .le x2 (Vn 140737488355328)) (.ite (.o2 .gt x2 (Vn 4096)) (.ret [.d (Vn 5)]) (.loop 0 [Vn 0] [.int .i64] (.ite (.o2 .lt (Va 1) x2) (.need (.o2 .le (Vn 0) (Va 1)) (.call none (.fn 48) [Vl x4 x3] [.cell (.int .i64)] (.ite (.o2 .ne (Va 2) (Vn 0)) (.ret [.d (Va 2)]) (.call none (.fn 49) [Vl (.idx (Va 0) (Va 1) 2 (.int .i64)) (Vl (.idx (Va 0) (Va 1) 3 (.int .i64)) .lnil)] [.cell (.int .i64)] (.ite (.o2 .ne (Va 3) (Vn 0)) (.ret [.d (Va 3)]) (.need (.ite x1 (.o2 .le (Vn 0) x0) (.bool true)) (.need (.ite x1 (.o2 .lt x0 x2) (.bool true)) (.call (some x1) (.fn 50) [Vl (.idx (Va 0) x0 0 (.int .i64)) (Vl (.idx (Va 0) x0 1 (.int .i64)) .lnil),Vl x4 x3] [.cell .bool] (.ite (.ite x1 (.o1 .not (Va 4)) (.bool false)) (.ret [.d (Vn 9)]) (.again 0 [.o2 (.add .i64) (Va 1) (Vn 1)])))))))))) (.ret [.d (Vn 0)]))))
theorem Zhp:fnO Tryz.prog mdA 14 [.cell (.slice enKs)]=t14:=by kernel_rfl
noncomputable def t214:R:=let x0:T:=Vl (Va 2) (Vl (Va 3) (Vl (Va 4) (Vl (Va 5) (Vl (Va 6) (Vl (Va 7) (Vl (Va 8) (Vl (Va 9) (Vl (Va 10) (Vl (Va 11) (Vl (Va 12) (Vl (Va 13) (Vl (Va 14) (Vl (Va 15) (Vl (Va 16) (Vl (Va 17) .lnil)))))))))))))));let x1:T:=.idx (Va 0) (Va 1) 2 (.int .i64);.fact (.o2 .le (.o1 .len (Va 0)) (Vn 140737488355328)) (.loop 0 [Vn 0,.int .u64 0,.int .u64 0,.int .u64 0,.int .u64 0,.int .u64 0,.int .u64 0,.int .u64 0,.int .u64 0,.int .u64 0,.int .u64 0,.int .u64 0,.int .u64 0,.int .u64 0,.int .u64 0,.int .u64 0,.int .u64 0] [.int .i64,.int .u64,.int .u64,.int .u64,.int .u64,.int .u64,.int .u64,.int .u64,.int .u64,.int .u64,.int .u64,.int .u64,.int .u64,.int .u64,.int .u64,.int .u64,.int .u64] (.ite (.o2 .lt (Va 1) (.o1 .len (Va 0))) (.need (.o2 .le (Vn 0) (Va 1)) (.ite (.ite (.ite (.o2 .eq (.idx (Va 0) (Va 1) 1 (.int .i64)) (Vn 0)) (.o2 .ge x1 (Vn 0)) (.bool false)) (.ite (.o2 .gt x1 (Vn 0)) (.bool true) (.o2 .gt (.idx (Va 0) (Va 1) 3 (.int .i64)) (Vn 0))) (.bool false)) (.callX true 229 [.box x0,.d (.idx (Va 0) (Va 1) 0 (.int .i64))] [.box [.int .u64,.int .u64,.int .u64,.int .u64,.int .u64,.int .u64,.int .u64,.int .u64,.int .u64,.int .u64,.int .u64,.int .u64,.int .u64,.int .u64,.int .u64,.int .u64]] (.again 0 [.o2 (.add .i64) (Va 1) (Vn 1),Va 18,Va 19,Va 20,Va 21,Va 22,Va 23,Va 24,Va 25,Va 26,Va 27,Va 28,Va 29,Va 30,Va 31,Va 32,Va 33])) (.again 0 [.o2 (.add .i64) (Va 1) (Vn 1),Va 2,Va 3,Va 4,Va 5,Va 6,Va 7,Va 8,Va 9,Va 10,Va 11,Va 12,Va 13,Va 14,Va 15,Va 16,Va 17]))) (.ret [.d x0])))
theorem Ze2:fnO Tryz.prog mdA 214 [.cell (.slice enKs)]=t214:=by kernel_rfl
noncomputable def t77:R:=let x0:T:=.o1 .len (Va 0);.fact (.o2 .le x0 (Vn 140737488355328)) (.ret [.d (.ite (.o2 .le x0 (Vn 200)) (.bool true) (.o2 .gt x0 (Vn 4096)))])
instance:Inhabited Ent:=⟨⟨⟨0,0⟩,⟨0,0⟩⟩⟩
def e15 (e:Ent):Int:=if Z3 e.pa≠0 then Z3 e.pa else Y7 e.va
def WZ (xs:List Ent):Nat→List Ent→Int
 |_,[]=>0
 |i,e::es=>if e15 e≠0 then e15 e else if 0 < i∧Y3 (xs[i - 1]!).pa e.pa=false then 9 else WZ xs (i+1) es
def Yj (l:List Ent):Int:=if 4096 < l.length then 5 else WZ l 0 l
theorem Z2Y {e:Ent} (h:e15 e=0):Z3 e.pa=0∧Y7 e.va=0:=by
 unfold e15 at h;split at h
 · rename_i h1;exact absurd h h1
 · rename_i h1;exact⟨by simpa using h1,h⟩
theorem ZfO:Contract Tryz.prog 118 fun args K=>∃p:Par,p.Ok∧args=[.agg p.enc,.int .i64 1]∧K [.d (.int .i64 (Z3 p))]:=by
 refine .of (by kernel_rfl) Zfq ?_;rintro _ K ⟨p,hp,rfl,hK⟩ hsm;refine⟨p.enc++[.int .i64 1],rfl,by exact(Par.has hp).append (ZX ⟨by omega,by omega⟩),?_⟩;simp only [Z3]at hK;simp only [zz,reduceCtorEq,t118,Par.enc];grind
theorem Z9c:Contract Tryz.prog 122 fun args K=>∃p q:Par,p.Ok∧q.Ok∧args=[.agg p.enc,.agg q.enc]∧K [.d (.int .i64 (pcmp p q))]:=by
 refine .of (by kernel_rfl) Zfm ?_;rintro _ K ⟨p,q,hp,hq,rfl,hK⟩ hsm;refine⟨p.enc++q.enc,rfl,by simpa [Y1,PK.kinds]using(Par.has hp).append (Par.has hq),?_⟩;simp only [pcmp]at hK;simp only [zz,reduceCtorEq,t122,Par.enc];grind
theorem ZfP:Contract Tryz.prog 117 fun args K=>∃e:Ent,e.Ok∧args=[.agg e.enc]∧K [.d (.int .i64 (e15 e))]:=by
 refine .of c117 Zfr ?_;rintro _ K ⟨e,he,rfl,hK⟩ hsm;refine⟨e.enc,rfl,by exact Ent.has he,?_⟩;refine Z0 ZfO ⟨e.pa,he.1,by simp only [zz,reduceCtorEq,Ent.enc,Par.enc],_,rfl,?_⟩;simp only [zz,reduceCtorEq,Ent.enc];unfold e15 at hK;refine⟨fun h=>?_,fun h=>?_⟩
 · rw [if_pos (by simpa using h)]at hK;exact hK
 rw [if_neg (by simpa using h)]at hK;refine Z0 Z6s ⟨e.va,he.2,by simp only [zz,reduceCtorEq,Ent.enc,Val.enc],_,rfl,?_⟩;simp only [zz,reduceCtorEq];exact hK
theorem ZcS:Contract Tryz.prog 121 fun args K=>∃a b:Ent,a.Ok∧b.Ok∧args=[.agg a.enc,.agg b.enc]∧K [.d (.int .i64 (pcmp a.pa b.pa))]:=by
 refine .of c121 Zfn ?_;rintro _ K ⟨a,b,ha,hb,rfl,hK⟩ hsm;refine⟨a.enc++b.enc,rfl,by exact(Ent.has ha).append (Ent.has hb),?_⟩;refine Z0 Z9c ⟨a.pa,b.pa,ha.1,hb.1,by simp only [zz,reduceCtorEq,Ent.enc,Par.enc],_,rfl,?_⟩;simp only [zz,reduceCtorEq];exact hK
theorem ZfQ {e:Ent} (he:e.Ok):FvC Tryz.prog (.clo 117 []) fun as_ K=>as_=[.agg e.enc]∧K [.d (.int .i64 (e15 e))]:=by
 refine FvC.of c117 ZfP ?_;rintro _ K ⟨rfl,hK⟩;refine⟨⟨e,he,rfl,hK⟩,Z4 [some (.agg enKs)] (by kernel_rfl) ?_⟩;intro i rk d h1 h2
 match i,h1,h2 with
 |0,h1,h2=>simp at h1 h2;subst h1 h2;exact Ent.has he
theorem ZcT {a b:Ent} (ha:a.Ok) (hb:b.Ok):FvC Tryz.prog (.clo 121 []) fun as_ K=>as_=[.agg a.enc,.agg b.enc]∧K [.d (.int .i64 (pcmp a.pa b.pa))]:=by
 refine FvC.of c121 ZcS ?_;rintro _ K ⟨rfl,hK⟩;refine⟨⟨a,b,ha,hb,rfl,hK⟩,Z4 [some (.agg enKs),some (.agg enKs)] (by kernel_rfl) ?_⟩;intro i rk d h1 h2
 match i,h1,h2 with
 |0,h1,h2=>simp at h1 h2;subst h1 h2;exact Ent.has ha
 |1,h1,h2=>simp at h1 h2;subst h1 h2;exact Ent.has hb
theorem Zg5 (e:Ent):I64 (e15 e):=by
 unfold e15 Z3 Y7;split <;> split <;> exact⟨by omega,by omega⟩
theorem ZcU {p q:Par} (hp:Z3 p=0) (hq:Z3 q=0):I64 (pcmp p q):=by
 have h1:=Wc hp;have h2:=Wc hq;unfold pcmp;split <;> rw [Z1 (by omega)] <;> exact⟨by omega,by omega⟩
theorem ZcP:Contract Tryz.prog 120 fun args K=>∃l:List Ent,(∀e∈l,e.Ok)∧args=[.slice (l.map Ent.enc),.int .i64 4096,.clo 117 [],.clo 121 []]∧K [.d (.int .i64 (Yj l))]:=by
 refine .of (by kernel_rfl) Zfo ?_;rintro _ K ⟨l,hl,rfl,hK⟩ hsm;refine⟨[.slice (l.map Ent.enc),.int .i64 4096,.clo 117 [],.clo 121 []],rfl,⟨Zi hl,Y4 ⟨by omega,by omega⟩,trivial,trivial,trivial⟩,?_⟩;simp only [Yj]at hK;simp only [zz,reduceCtorEq,t120,List.length_map];refine fun hcap=>⟨fun h=>by rw [if_pos (by omega)]at hK;exact hK,fun h=>?_⟩
 rw [if_neg (by omega)]at hK;refine Jj l (fun i l' (_:Unit)=>WZ l i l') (fun i _=>[.int .i64 i]) (fun i _=>∀j (hj:j < l.length),j < i→e15 l[j]=0) () _ rfl (fun j _ h=>by omega) 0 (fun _ _=>rfl) rfl ?_ ?_
 · intro i hi _ hI hgo;simp only [WZ]at hgo;have he:=hl l[i] (List.getElem_mem hi);simp only [zz,reduceCtorEq,hi,List.length_map];refine⟨by omega,W6 (ZfQ he) ⟨by simp only [zz,reduceCtorEq,J0 hi,Ent.enc],[.int .i64 (e15 l[i])],rfl,⟨Y4 (Zg5 _),trivial⟩,?_⟩⟩;simp only [zz,reduceCtorEq,List.length_map];refine⟨fun h1=>?_,fun h1=>?_⟩
   · rw [if_pos (by simpa using h1)]at hgo;rw [←hgo]at hK;exact hK
   have h1:e15 l[i]=0:=by simpa using h1
   rw [if_neg (by simp [h1])]at hgo;have hw:0 < i→wr64 (↑i - 1)=((i - 1:Nat):Int):=fun h=>by rw [Z1] <;> omega
   have hI2:∀j (hj:j < l.length),j < i+1→e15 l[j]=0:=fun j hj hlt=>by
     by_cases h:j=i
     · subst h;exact h1
     · exact hI j hj (by omega)
   refine⟨?_,?_,?_⟩
   · split
     · rename_i h0;rw [hw h0];simp
     · rfl
   · split
     · rename_i h0;rw [hw h0];simp;omega
     · rfl
   by_cases h0:0 < i
   · have hp:l[i - 1]! =l[i - 1]'(by omega):=getElem!_pos l (i - 1) (by omega);have hR:=(Z2Y (hI (i - 1) (by omega) (by omega))).1;have hR2:=(Z2Y h1).1;have hneg:=Z2N hR hR2;refine JB (s:=fun as_ K=>as_=[.agg (l[i - 1]'(by omega)).enc,.agg l[i].enc]∧K [.d (.int .i64 (pcmp (l[i - 1]'(by omega)).pa l[i].pa))]) true [.int .i64 (pcmp (l[i - 1]'(by omega)).pa l[i].pa)] (by simp only [zz,reduceCtorEq,h0]) (fun _=>⟨ZcT (a:=l[i - 1]'(by omega)) (b:=l[i]) (hl _ (List.getElem_mem _)) he,by simp only [zz,reduceCtorEq,hw h0,J0 hi,J0 (show i - 1 < l.length by omega),Ent.enc],[.int .i64 (pcmp (l[i - 1]'(by omega)).pa l[i].pa)],rfl,⟨Y4 (ZcU hR hR2),trivial⟩,rfl⟩) (fun e=>by cases e) ?_;simp only [zz,reduceCtorEq,h0];rw [hp]at hgo;refine⟨fun h2=>?_,fun h2=>?_⟩
     · rw [if_pos ⟨h0,by rw [Bool.eq_false_iff];intro hb;have:=hneg.2 hb;omega⟩]at hgo;rw [←hgo]at hK;exact hK
     · rw [if_neg (by rintro⟨_,hb⟩;have:=hneg.1 (by omega);rw [this]at hb;cases hb)]at hgo;exact⟨(),by rw [Z1] <;> omega,hI2,hgo⟩
   · refine JB (s:=fun _ _=>True) false [.int .i64 0] (by simp only [zz,reduceCtorEq,h0]) (fun e=>by cases e) (fun _=>rfl) ?_;simp only [zz,reduceCtorEq,h0];rw [if_neg (by omega)]at hgo;exact⟨(),by rw [Z1] <;> omega,hI2,hgo⟩
 · intro _ _ hgo;simp only [zz,reduceCtorEq,List.length_map,Nat.lt_irrefl];simp only [WZ]at hgo;rw [←hgo]at hK;exact hK
theorem Z5A:Contract Tryz.prog 52 fun args K=>∃l:List Ent,(∀e∈l,e.Ok)∧args=[.slice (l.map Ent.enc)]∧K [.d (.int .i64 (Yj l))]:=by
 refine .of (by kernel_rfl) Zh4 ?_;rintro _ K ⟨l,hl,rfl,hK⟩ hsm;refine⟨[.slice (l.map Ent.enc)],rfl,⟨Zi hl,trivial⟩,?_⟩;refine Z0 ZcP ⟨l,hl,by simp only [zz,reduceCtorEq],_,rfl,?_⟩;simp only [zz,reduceCtorEq];exact hK
theorem Zbr:Contract Tryz.prog 14 fun args K=>∃l:List Ent,(∀e∈l,e.Ok)∧args=[.slice (l.map Ent.enc)]∧K [.d (.int .i64 (Yj l))]:=by
 refine .of (by kernel_rfl) Zhp ?_;rintro _ K ⟨l,hl,rfl,hK⟩ hsm;refine⟨[.slice (l.map Ent.enc)],rfl,⟨Zi hl,trivial⟩,?_⟩;simp only [Yj]at hK;simp only [zz,reduceCtorEq,t14,List.length_map];refine fun hcap=>⟨fun h=>by rw [if_pos (by omega)]at hK;exact hK,fun h=>?_⟩
 rw [if_neg (by omega)]at hK;refine Jc l (fun i l' (_:Unit)=>WZ l i l') (fun i _=>[.int .i64 i]) () _ rfl 0 (fun _ _=>rfl) rfl ?_ ?_
 · intro i hi _ hgo;simp only [WZ]at hgo;have hm:=hl l[i] (List.getElem_mem hi);simp only [zz,reduceCtorEq,hi,List.length_map];refine⟨by omega,Z0 Z4Q ⟨(l[i]).pa,hm.1,by simp only [zz,reduceCtorEq,J0 hi,Ent.enc,Par.enc],_,rfl,?_⟩⟩;simp only [zz,reduceCtorEq];refine⟨fun h1=>?_,fun h1=>?_⟩
   · have h1:Z3 l[i].pa≠0:=by simpa using h1
     have he:e15 l[i]=Z3 l[i].pa:=by unfold e15;rw [if_pos h1]
     rw [if_pos (by rw [he];exact h1),he]at hgo;rw [←hgo]at hK;exact hK
   have h1:Z3 l[i].pa=0:=by simpa using h1
   have he:e15 l[i]=Y7 l[i].va:=by unfold e15;rw [if_neg (by simp [h1])]
   refine Z0 Z4C ⟨(l[i]).va,hm.2,by simp only [zz,reduceCtorEq,J0 hi,Ent.enc,Val.enc],_,rfl,?_⟩;simp only [zz,reduceCtorEq,List.length_map];refine⟨fun h2=>?_,fun h2=>?_⟩
   · have h2:Y7 l[i].va≠0:=by simpa using h2
     rw [if_pos (by rw [he];exact h2),he]at hgo;rw [←hgo]at hK;exact hK
   have h2:Y7 l[i].va=0:=by simpa using h2
   rw [if_neg (by rw [he];simp [h2])]at hgo;have hw:0 < i→wr64 (↑i - 1)=((i - 1:Nat):Int):=fun h=>by rw [Z1] <;> omega
   refine⟨?_,?_,?_⟩
   · split
     · rename_i h0;rw [hw h0];simp
     · rfl
   · split
     · rename_i h0;rw [hw h0];simp;omega
     · rfl
   have hp:0 < i→l[i - 1]! =l[i - 1]'(by omega):=fun h=>getElem!_pos l (i - 1) (by omega)
   refine W5 Z4g (decide (0 < i)) [.bool (decide (0 < i)&&Y3 (l[i - 1]!).pa (l[i]).pa)] (by simp only [zz,reduceCtorEq]) (fun h=>⟨(l[i - 1]!).pa,(l[i]).pa,?_,hm.1,?_,by rw [h];rfl⟩) (fun h=>by rw [h];rfl) ?_
   · have h:0 < i:=by simpa using h
     rw [hp h];exact(hl _ (List.getElem_mem _)).1
   · have h:0 < i:=by simpa using h
     rw [hp h];simp only [zz,reduceCtorEq,hw h,J0 hi,J0 (show i - 1 < l.length by omega),Ent.enc,Par.enc]
   · simp only [zz,reduceCtorEq];grind [Z1]
 · intro _ hgo;simp only [zz,reduceCtorEq,List.length_map,Nat.lt_irrefl];simp only [WZ]at hgo;rw [←hgo]at hK;exact hK
theorem ZdB:Contract Tryz.prog 214 fun args K=>∃l:List Ent,(∀e∈l,e.Ok)∧(∀e∈l,Z3 e.pa=0)∧args=[.slice (l.map Ent.enc)]∧K [.d (.agg (encW (litW l)))]:=by
 refine .of (by kernel_rfl) Ze2 ?_;rintro _ K ⟨l,hl,hp,rfl,hK⟩ hsm;refine⟨[.slice (l.map Ent.enc)],rfl,⟨Zi hl,trivial⟩,?_⟩;simp only [zz,reduceCtorEq,t214,List.length_map];intro hcap;refine Jj l (fun _ l' ws=>Z4q l' ws) (fun i ws=>.int .i64 i::encW ws) (fun _ ws=>ws.length=16∧∀w∈ws,w < 2 ^ 64) (List.replicate 16 0) (litW l) rfl ⟨by simp,by simp⟩ 0 (fun _ _=>rfl) rfl ?_ ?_
 · rintro i hi ws ⟨hwl,hw⟩ hgo;simp only [Z4q]at hgo;have hpi:=Wc (hp _ (List.getElem_mem hi));have hch:(l[i].pa.ch.toNat:Int)=l[i].pa.ch:=by omega
   have haw:=Zck (c:=l[i].pa.ch.toNat) hw;have hal:=Z6d ws l[i].pa.ch.toNat
   match ws,hwl with
   | [a0,a1,a2,a3,a4,a5,a6,a7,a8,a9,a10,a11,a12,a13,a14,a15],_=>
   simp only [zz,reduceCtorEq,hi,List.length_map,J0 hi,Ent.enc,encW];refine⟨by omega,fun h=>?_,fun h=>?_⟩
   · rw [if_pos ⟨h.1.1,by simp [litV,h.1.2,h.2]⟩]at hgo;generalize hz:addW [a0,a1,a2,a3,a4,a5,a6,a7,a8,a9,a10,a11,a12,a13,a14,a15] l[i].pa.ch.toNat=zs at hgo haw hal
     match zs,hal with
     | [b0,b1,b2,b3,b4,b5,b6,b7,b8,b9,b10,b11,b12,b13,b14,b15],_=>
     refine Jo ZfT ⟨encW [a0,a1,a2,a3,a4,a5,a6,a7,a8,a9,a10,a11,a12,a13,a14,a15]++[.int .i64 l[i].pa.ch.toNat],by simp only [zz,reduceCtorEq,J0 hi,Ent.enc,encW,hch];rfl,HasKs.append (Z3Q rfl hw) ⟨i64n (by omega),trivial⟩⟩ (fun _=>by kernel_rfl)
       ⟨[a0,a1,a2,a3,a4,a5,a6,a7,a8,a9,a10,a11,a12,a13,a14,a15],l[i].pa.ch.toNat,rfl,hw,by omega,by simp only [zz,reduceCtorEq,J0 hi,Ent.enc,encW,hch],?_⟩
     rw [hz];refine⟨encW [b0,b1,b2,b3,b4,b5,b6,b7,b8,b9,b10,b11,b12,b13,b14,b15],rfl,?_⟩;simp only [zz,reduceCtorEq,encW];exact⟨_,⟨by rw [Z1] <;> omega,rfl⟩,⟨rfl,haw⟩,hgo⟩
   · rw [if_neg (fun e=>by have:=e.2;simp only [litV,Bool.and_eq_true,Bool.or_eq_true,decide_eq_true_eq]at this;have:=e.1;omega)]at hgo;exact⟨_,⟨by rw [Z1] <;> omega,rfl⟩,⟨rfl,hw⟩,hgo⟩
 · rintro ws ⟨hwl,hw⟩ hgo;have hgo:ws=litW l:=hgo;rw [←hgo]at hK
   match ws,hwl with
   | [a0,a1,a2,a3,a4,a5,a6,a7,a8,a9,a10,a11,a12,a13,a14,a15],_=>
   simp only [zz,reduceCtorEq,List.length_map,Nat.lt_irrefl,encW];exact hK
theorem Z3O {xs:List Ent}:∀(cs:List Ent) (i:Nat),cs=xs.drop i→WZ xs i cs=0→(∀c∈cs,e15 c=0)∧(∀j,i≤j→0 < j→(hj:j < xs.length)→Y3 (xs[j - 1]'(by omega)).pa (xs[j]).pa=true)
 | [],i,he,_=>⟨by simp,fun j h1 h2 h3=>by
     have:=congrArg List.length he;simp at this;omega⟩
 | c ::cs,i,he,h=>by
   have hlt:i < xs.length:=by
     rcases Nat.lt_or_ge i xs.length with h|h
     · exact h
     · rw [List.drop_eq_nil_of_le h]at he;cases he
   rw [List.drop_eq_getElem_cons hlt]at he;obtain⟨rfl,rfl⟩:=List.cons.inj he;simp only [WZ]at h;split at h
   · rename_i hc;exact absurd h hc
   rename_i hc;have hc:e15 xs[i]=0:=by simpa using hc
   split at h
   · cases h
   rename_i ho;obtain⟨g1,g2⟩:=Z3O (xs.drop (i+1)) (i+1) rfl h;refine⟨fun d hd=>?_,fun j h1 h2 h3=>?_⟩
   · rcases List.mem_cons.1 hd with rfl|hd
     · exact hc
     · exact g1 d hd
   · rcases Nat.eq_or_lt_of_le h1 with rfl|h1
     · rw [getElem!_pos xs (i - 1) (by omega)]at ho;rcases Bool.eq_false_or_eq_true (Y3 (xs[i - 1]'(by omega)).pa (xs[i]).pa)with hb|hb
       · exact hb
       · exact absurd ⟨h2,hb⟩ ho
     · exact g2 j h1 h2 h3
theorem Z0U {es:List Ent} (hok:∀e∈es,e.Ok) (h:Yj es=0):RightE es:=by
 unfold Yj at h;split at h
 · cases h
 rename_i hl;obtain⟨g1,g2⟩:=Z3O es 0 rfl h;refine⟨hok,fun e he=>(Z2Y (g1 e he)).1,fun e he=>(Z2Y (g1 e he)).2,?_,by omega⟩;rw [List.pairwise_iff_getElem];have step:∀(n i:Nat) (hi:i+n+1 < es.length),Y3 (es[i]'(by omega)).pa (es[i+n+1]).pa=true:=by
   intro n;induction n with
   |zero=>intro i hi;exact g2 (i+1) (Nat.zero_le _) (by omega) hi
   |succ n ih=>intro i hi;exact Wj (ih i (by omega)) (g2 (i+(n+1)+1) (Nat.zero_le _) (by omega) hi)
 intro i j hi hj hij;obtain⟨n,rfl⟩:∃n,j=i+n+1:=⟨j - i - 1,by omega⟩
 exact step n i hj
structure Split (cs:List Cue) (s:List UInt8) (A X B:List Cue):Prop where
 eq:cs=A++X++B
 x:X=[]∨∃c,X=[c]∧c.num=s
 lo:∀c∈A,Wl c < We s
 hi:∀c∈B,We s < Wl c
theorem ZU {s:List UInt8} (hs:W3 s=0):∀ {cs:List Cue},Zs cs→(∀c∈cs,W3 c.num=0)→∃A X B,Split cs s A X B
 | [],_,_=>⟨[],[],[],rfl,.inl rfl,by simp,by simp⟩
 | c ::cs,hr,hn=>by
   have hr':=List.pairwise_cons.1 hr;rcases Int.lt_trichotomy (Wl c) (We s)with h|h|h
   · obtain⟨A,X,B,h1⟩:=ZU hs hr'.2 fun d hd=>hn d (by simp [hd])
     refine⟨c::A,X,B,by rw [h1.eq];simp,h1.x,fun d hd=>?_,h1.hi⟩;rcases List.mem_cons.1 hd with rfl|hd
     · exact h
     · exact h1.lo d hd
   · exact⟨[],[c],cs,rfl,.inr ⟨c,rfl,Z39 (hn c (by simp)) hs h⟩,by simp,fun d hd=>by have:=hr'.1 d hd;omega⟩
   · refine⟨[],[],c::cs,rfl,.inl rfl,by simp,fun d hd=>?_⟩;rcases List.mem_cons.1 hd with rfl|hd
     · exact h
     · have:=hr'.1 d hd;omega
theorem YC {A R:List Cue} {c:Cue} {s:List UInt8} (hA:∀a∈A,a.num≠s) (hc:c.num=s):place (A++c::R) s=(A.length:Int):=by
 have hn:¬place (A++c::R) s < 0:=fun h=>Z0Z.1 h c (by simp) hc
 obtain⟨j,hj,h1,h2,h3⟩:=Z0X hn;rw [h1];rcases Nat.lt_trichotomy j A.length with h|h|h
 · rw [List.getElem_append_left h]at h2;exact absurd h2 (hA _ (List.getElem_mem h))
 · omega
 · have:=h3 A.length h;rw [List.getElem_append_right (Nat.le_refl _)]at this;simp at this;exact absurd hc this
theorem Z6K {c:Cue} {B:List Cue} (hB:∀b∈B,Wl c < Wl b):∀ {A:List Cue},(∀a∈A,Wl a < Wl c)→ins c (A++B)=A++c::B
 | [],_=>by
   cases B with
   |nil=>rfl
   | cons b B=>
     have:=hB b (by simp);simp only [List.nil_append,ins];rw [if_neg (by omega)]
 | a::A,h=>by
   simp only [List.cons_append,ins];rw [if_pos (h a (by simp)),Z6K hB fun x hx=>h x (by simp [hx])]
section
variable {cs A X B:List Cue} {s:List UInt8}
theorem Split.lo_ne (h:Split cs s A X B):∀c∈A,c.num≠s:=fun c hc e=>by
 have:=h.lo c hc;unfold Wl at this;rw [e]at this;omega
theorem Split.hi_ne (h:Split cs s A X B):∀c∈B,c.num≠s:=fun c hc e=>by
 have:=h.hi c hc;unfold Wl at this;rw [e]at this;omega
theorem Split.without (h:Split cs s A X B):without cs s=A++B:=by
 have e1:A.filter (fun c=>!(c.num==s))=A:=List.filter_eq_self.2 fun c hc=>by simpa using h.lo_ne c hc
 have e2:B.filter (fun c=>!(c.num==s))=B:=List.filter_eq_self.2 fun c hc=>by simpa using h.hi_ne c hc
 have e3:X.filter (fun c=>!(c.num==s))=[]:=by
   rcases h.x with rfl|⟨c,rfl,hc⟩
   · rfl
   · simp [hc]
 unfold La.without;rw [h.eq,List.filter_append,List.filter_append,e1,e2,e3,List.append_nil]
theorem Split.ins (h:Split cs s A X B) {c:Cue} (hc:c.num=s):ins c (A++B)=A++c::B:=
 Z6K (fun b hb=>by have:=h.hi b hb;unfold Wl;rw [hc];exact this) (fun a ha=>by have:=h.lo a ha;unfold Wl;rw [hc];exact this)
theorem Split.place (h:Split cs s A X B):(X=[]∧place cs s= -1)∨∃c,X=[c]∧c.num=s∧place cs s=(A.length:Int):=by
 rcases h.x with rfl|⟨c,rfl,hc⟩
 · refine .inl ⟨rfl,?_⟩;have:place cs s < 0:=Z0Z.2 fun c hc=>by
     rw [h.eq]at hc;simp only [List.append_nil,List.mem_append]at hc;rcases hc with hc|hc
     · exact h.lo_ne c hc
     · exact h.hi_ne c hc
   rcases Z8G cs s with h|h <;> omega
 · refine .inr ⟨c,rfl,hc,?_⟩;rw [h.eq,show A++[c]++B=A++c::B by simp];exact YC h.lo_ne hc
end
def ZaQ (cs:List Cue) (s:List UInt8):Option Cue:=cs.find? fun c=>decide (0 < Y2 c.num s)
theorem Z9o (l:Lis) (s:List UInt8):((names l).find? fun x=>decide (0 < Y2 x s))=(ZaQ l.cues s).map (·.num):=by
 simp only [names,ZaQ,List.find?_map];rfl
theorem Split.next {cs A X B:List Cue} {s:List UInt8} (h:Split cs s A X B):ZaQ cs s=B.head?:=by
 unfold ZaQ;rw [h.eq,List.find?_append,List.find?_append];have e1:A.find? (fun c=>decide (0 < Y2 c.num s))=none:=List.find?_eq_none.2 fun c hc=>by
   have:=h.lo c hc;unfold Wl at this;simp only [decide_eq_true_eq,Z3o];omega
 have e2:X.find? (fun c=>decide (0 < Y2 c.num s))=none:=List.find?_eq_none.2 fun c hc=>by
   rcases h.x with rfl|⟨d,rfl,hd⟩
   · simp at hc
   · simp at hc;subst hc;simp only [decide_eq_true_eq,Z3o,hd];omega
 rw [e1,e2];cases B with
 |nil=>rfl
 | cons b B=>
   have:=h.hi b (by simp);unfold Wl at this;simp [Z3o,this]
theorem Split.rising {cs A X B:List Cue} {s:List UInt8} (h:Split cs s A X B) (hr:Zs cs):∀b B',B=b::B'→(∀c∈A++X,c.num≠b.num)∧∀c∈A,c.num≠b.num:=by
 rintro b B' rfl;have key:∀c∈A++X,c.num≠b.num:=fun c hc e=>by
   have h1:=h.hi b (by simp);unfold Wl at h1;rw [←e]at h1;rcases List.mem_append.1 hc with hc|hc
   · have:=h.lo c hc;unfold Wl at this;omega
   · rcases h.x with rfl|⟨d,rfl,hd⟩
     · simp at hc
     · simp at hc;subst hc;rw [hd]at h1;omega
 exact⟨key,fun c hc=>key c (by simp [hc])⟩
def zeroC:Cue:=⟨[],[],[],[],false,false,0,[],0⟩
def setC (c:Cue) (es:List Ent) (part:Int):Cue:= {c with moves:=Ww c.moves (givM es part)}
def setR (c:Cue) (es:List Ent) (part:Int):Cue×Int:=
 if J5 c≠0 then(zeroC,J5 c)else if Yj es≠0 then(zeroC,Yj es)else if part < 1∨(c.parts.length:Int) < part then(zeroC,6)
 else if 128 < (setC c es part).moves.length then(zeroC,5)else(setC c es part,0)
def Z0p (s:List UInt8):Cue:=⟨s,[],[],[zt],false,false, -1,[],0⟩
def Zgd (cs:List Cue) (s:List UInt8):Option Cue:=cs.find? fun c=>c.num==s
def oldC (cs:List Cue) (s:List UInt8):Cue:=(Zgd cs s).getD (Z0p s)
def Z7U (cs:List Cue) (i:Nat) (es:List Ent):List Cue:=cs.modify i fun c=>setC c es 1
def Wq (l:Lis):Lis×Int:=if 64 < l.cues.length∨(l.cues.any fun c=>decide (128 < c.moves.length))=true then(zeroL,5)else(l,0)
def JE (cs:List Cue) (n:Nat) (d:Cue) (es:List Ent):List Ent:=(es.filter fun e=>!Wg e.pa d).map fun e=>⟨e.pa,J3 cs e.pa n⟩
def Yg (cs:List Cue) (s:List UInt8) (es:List Ent) (part:Int) (only:Bool):List Cue:=
 match ZaQ cs s with
 |none=>ins (setC (oldC cs s) es part) (without cs s)
 |some d=>if only=false∨d.block=true then ins (setC (oldC cs s) es part) (without cs s)else
     Z7U (ins (setC (oldC cs s) es part) (without cs s)) (place (ins (setC (oldC cs s) es part) (without cs s)) d.num).toNat (JE cs ((place cs d.num).toNat+1) d es)
def YI (l:Lis) (s:List UInt8) (es:List Ent) (part:Int) (only:Bool):Lis×Int:=
 if J4 Y2 l≠0 then(zeroL,J4 Y2 l)else if W3 s≠0 then(zeroL,W3 s)else if Yj es≠0 then(zeroL,Yj es)
 else if part < 1∨((oldC l.cues s).parts.length:Int) < part then(zeroL,6)else Wq {l with cues:=Yg l.cues s es part only}
def Yc (cs out:List Cue) (n:Nat):List Ent:=((Yd cs).filter fun p=>decide (J3 cs p (n+1)≠J3 out p n)).map fun p=>⟨p,J3 cs p (n+1)⟩
def W9 (cs:List Cue) (s:List UInt8) (keep:Bool):List Cue:=
 if keep=false∨upto ⟨0,0,cs⟩ s=cs.length then without cs s else Z7U (without cs s) (upto ⟨0,0,cs⟩ s - 1) (Yc cs (without cs s) (upto ⟨0,0,cs⟩ s))
def WN (l:Lis) (s:List UInt8) (keep:Bool):Lis×Int:=if Ya l s≠0 then(zeroL,Ya l s)else Wq {l with cues:=W9 l.cues s keep}
def Z6p (ms:List Mov) (e:Ent):List Mov:=ms.map fun m=>if m.pa=e.pa then {m with va:=e.va}else m
def updC (e:Ent) (c:Cue):Cue:= {c with moves:=Z6p c.moves e}
def upd1 (cs0:List Cue) (n:Nat) (cs:List Cue) (e:Ent):List Cue:=cs.modify (src cs0 e.pa n).toNat (updC e)
def srcd (cs0:List Cue) (n:Nat) (e:Ent):Bool:=decide (0≤src cs0 e.pa n)
def updL (cs0:List Cue) (n:Nat) (es:List Ent):List Cue:=(es.filter (srcd cs0 n)).foldl (upd1 cs0 n) cs0
def ownE (cs0:List Cue) (n:Nat) (es:List Ent):List Ent:=es.filter fun e=>!srcd cs0 n e
def Z0z (cs:List Cue) (n:Nat) (es:List Ent):List Cue:=Z7U (updL cs n es) (n - 1) (ownE cs n es)
def Z1p (l:Lis) (s:List UInt8) (es:List Ent):Lis×Int:=if Ya l s≠0 then(zeroL,Ya l s)else if Yj es≠0 then(zeroL,Yj es)else Wq {l with cues:=Z0z l.cues (upto l s) es}
theorem Z4c {cs A X B:List Cue} {s:List UInt8} (h:Split cs s A X B):Zgd cs s=X.head?:=by
 unfold Zgd;rw [h.eq,List.find?_append,List.find?_append];have e1:A.find? (fun c=>c.num==s)=none:=List.find?_eq_none.2 fun c hc=>by simpa using h.lo_ne c hc
 have e3:B.find? (fun c=>c.num==s)=none:=List.find?_eq_none.2 fun c hc=>by simpa using h.hi_ne c hc
 rw [e1,e3];rcases h.x with rfl|⟨c,rfl,hc⟩
 · rfl
 · simp [hc]
theorem Z11 {cs A X B:List Cue} {s:List UInt8} (h:Split cs s A X B):(oldC cs s).num=s:=by
 unfold oldC;rw [Z4c h];rcases h.x with rfl|⟨c,rfl,hc⟩
 · rfl
 · exact hc
theorem Z2M (c:Cue) (es:List Ent) (part:Int):(setC c es part).num=c.num:=rfl
theorem Z2n {A B:List Cue} {d:Cue} {es:List Ent}:Z7U (A++d::B) A.length es=A++setC d es 1::B:=by
 unfold Z7U;induction A with
 |nil=>simp
 |cons a A ih=>simp only [List.cons_append,List.length_cons,List.modify_succ_cons,ih]
theorem YG {cs A X B:List Cue} {s:List UInt8} (h:Split cs s A X B) (hr:Zs cs) (es:List Ent) (part:Int) (only:Bool):
   (B=[]∧Yg cs s es part only=A++[setC (oldC cs s) es part])∨
   ∃d B',B=d::B'∧Yg cs s es part only=A++setC (oldC cs s) es part::(if only=false∨d.block=true then d else setC d (JE cs ((A++X).length+1) d es) 1)::B':=by
 have hp:=h.ins (c:=setC (oldC cs s) es part) (by rw [Z2M];exact Z11 h);unfold Yg;rw [h.without,hp,h.next];cases B with
 |nil=>exact .inl ⟨rfl,rfl⟩
 | cons d B'=>
   refine .inr ⟨d,B',rfl,?_⟩;simp only [List.head?_cons];obtain⟨g1,g2⟩:=h.rising hr d B' rfl;split
   · rfl
   · have e1:place (A++setC (oldC cs s) es part::d::B') d.num=((A++[setC (oldC cs s) es part]).length:Nat):=by
       rw [show A++setC (oldC cs s) es part::d::B'=(A++[setC (oldC cs s) es part])++d::B' by simp];refine YC (fun c hc=>?_) rfl;rcases List.mem_append.1 hc with hc|hc
       · exact g2 c hc
       · simp at hc;subst hc;rw [Z2M,Z11 h];exact fun e=>h.hi_ne d (by simp) e.symm
     have e2:place cs d.num=((A++X).length:Nat):=by
       rw [h.eq];exact YC g1 rfl
     rw [e1,e2];simp only [Int.toNat_natCast];rw [show A++setC (oldC cs s) es part::d::B'=(A++[setC (oldC cs s) es part])++d::B' by simp,Z2n];simp
theorem Z7r {c:Cue} {es:List Ent} (hn:(es.map (·.pa)).Nodup) (part:Int) (Z:List Cue) (p:Par):
   vl (setC c es part::Z) p=match ZL es p with|some e=>e.va|none=>vl (c::Z) p:=by
 simp only [vl,setC];rw [Z2m (Z3J hn part),Z7Q];cases ZL es p with
 |some e=>rfl
 |none=>rfl
theorem Z1K (q:Par→Bool) (g:Par→Val) (p:Par):∀ps:List Par,ZL ((ps.filter q).map fun p=>(⟨p,g p⟩:Ent)) p=if p∈ps∧q p=true then some ⟨p,g p⟩else none
 | []=>by simp [ZL]
 | x ::ps=>by
   have ih:=Z1K q g p ps;unfold ZL at ih ⊢;by_cases hq:q x=true
   · rw [List.filter_cons_of_pos hq,List.map_cons,List.find?_cons];by_cases hx:x=p
     · subst hx;simp [hq]
     · have:¬p=x:=fun e=>hx e.symm
       simp only [hx,decide_false,ih,List.mem_cons,this,false_or]
   · rw [List.filter_cons_of_neg hq,ih];by_cases hx:p=x
     · subst hx;simp [hq]
     · simp [hx]
theorem Z9e {ps:List Par} (h:ps.Nodup) (q:Par→Bool) (g:Par→Val):(((ps.filter q).map fun p=>(⟨p,g p⟩:Ent)).map (·.pa)).Nodup:=by
 rw [List.map_map];have:((fun e:Ent=>e.pa) ∘ fun p=>(⟨p,g p⟩:Ent))=id:=rfl;rw [this,List.map_id];exact h.sublist List.filter_sublist
theorem Z8K {d:Cue} {ps:List Par} (hn:ps.Nodup) (q:Par→Bool) (g:Par→Val) (Z:List Cue) (p:Par):
   vl (setC d ((ps.filter q).map fun p=>(⟨p,g p⟩:Ent)) 1::Z) p=if p∈ps∧q p=true then g p else vl (d::Z) p:=by
 rw [Z7r (Z9e hn q g),Z1K];by_cases h:p∈ps∧q p=true
 · rw [if_pos h,if_pos h]
 · rw [if_neg h,if_neg h]
theorem Zd3 (cs:List Cue) (n:Nat) (d:Cue) (es:List Ent):JE cs n d es=((es.map (·.pa)).filter fun p=>!Wg p d).map fun p=>(⟨p,J3 cs p n⟩:Ent):=by
 simp only [JE,List.filter_map,List.map_map];rfl
theorem Zcm {d:Cue} {p:Par} (h:Wg p d=true) (Z Z':List Cue):vl (d::Z) p=vl (d::Z') p:=by
 unfold Wg at h;simp only [vl];cases hm:Ze d.moves p with
 |some m=>rfl
 |none=>rw [hm]at h;cases h
theorem Zco {d:Cue} (h:d.block=true) (Z Z':List Cue) (p:Par):vl (d::Z) p=vl (d::Z') p:=by
 simp only [vl,h,if_true]
theorem Z5s {d:Cue} {p:Par} (h:Wg p d=false) (hb:d.block=false) (Z:List Cue):vl (d::Z) p=vl Z p:=by
 unfold Wg at h;simp only [vl];cases hm:Ze d.moves p with
 |some m=>rw [hm]at h;cases h
 |none=>simp [hb]
theorem Z31 {p:Par}:∀ {Z:List Cue},(∀c∈Z,Wg p c=false)→vl Z p=hval
 | [],_=>rfl
 | c ::Z,h=>by
   have hc:=h c (by simp);by_cases hb:c.block=true
   · unfold Wg at hc;simp only [vl];cases hm:Ze c.moves p with
     |some m=>rw [hm]at hc;cases hc
     |none=>simp [hb]
   · rw [Z5s hc (by simpa using hb)];exact Z31 fun d hd=>h d (by simp [hd])
theorem ZaT {p:Par} {c:Cue} (h:Wg p c=true) {cs:List Cue} (hc:c∈cs):p∈Yd cs:=by
 unfold Wg at h;obtain⟨m,hm⟩:=Option.isSome_iff_exists.1 h;rw [ZI];refine List.mem_flatMap.2 ⟨c,hc,List.mem_map.2 ⟨m,List.mem_of_find?_eq_some hm,?_⟩⟩;simpa using List.find?_some hm
theorem Z3s {p:Par} {cs:List Cue} (h:p∉Yd cs):∀c∈cs,Wg p c=false:=fun c hc=>by
 rcases Bool.eq_false_or_eq_true (Wg p c)with h'|h'
 · exact absurd (ZaT h' hc) h
 · exact h'
theorem Z2e (cs:List Cue):(Yd cs).Nodup:=Z26 (WG (by simp [Yz]))
theorem ZcY {A X:List Cue} {c' old d:Cue} {es:List Ent} {part:Int} {cs:List Cue} (hn:(es.map (·.pa)).Nodup) (hv:∀p,J3 cs p ((A++X).length+1)=vl (d::(A++X).reverse) p)
   (hc:c'=setC old es part) (ho:(X=[]∧∃s,old=Z0p s)∨X=[old]) (p:Par):
   vl (d::(A++X).reverse) p=vl ((if d.block=true then d else setC d (JE cs ((A++X).length+1) d es) 1)::c'::A.reverse) p:=by
 by_cases hb:d.block=true
 · rw [if_pos hb];exact Zco hb _ _ p
 rw [if_neg hb,Zd3,Z8K hn];have hb':d.block=false:=by simpa using hb
 split
 · exact(hv p).symm
 rename_i hk;rcases Bool.eq_false_or_eq_true (Wg p d)with hm|hm
 · exact Zcm hm _ _
 rw [Z5s hm hb',Z5s hm hb',hc,Z7r hn];have he:ZL es p=none:=List.find?_eq_none.2 fun e he=>by
   simp only [decide_eq_true_eq];intro e1;exact hk ⟨List.mem_map.2 ⟨e,he,e1⟩,by simp [hm]⟩
 rw [he];rcases ho with⟨rfl,s,rfl⟩|rfl
 · simp only [List.append_nil];exact(Z5s (by simp [Wg,Ze,Z0p]) rfl _).symm
 · simp
theorem Zd4 {A B':List Cue} {c d:Cue} {cs out:List Cue} {n:Nat} (hcs:cs=A++c::d::B') (ho:out=A++d::B')
   (h1:∀p,J3 cs p (n+1)=vl (d::c::A.reverse) p) (h2:∀p,J3 out p n=vl (d::A.reverse) p) (p:Par):
   vl (setC d (Yc cs out n) 1::A.reverse) p=vl (d::c::A.reverse) p:=by
 unfold Yc;rw [Z8K (Z2e cs)];split
 · exact h1 p
 rename_i hk;by_cases hm:p∈Yd cs
 · have:¬(decide (J3 cs p (n+1)≠J3 out p n)=true):=fun h=>hk ⟨hm,h⟩
   simp only [ne_eq,decide_not,Bool.not_eq_eq_eq_not,Bool.not_true,decide_eq_false_iff_not,Decidable.not_not]at this;rw [←h1, ←h2,this]
 · have hno:=Z3s hm;rw [Z31 (Z:=d::A.reverse) fun x hx=>hno x (by rw [hcs];simp at hx ⊢;rcases hx with h|h <;> simp [h]),
     Z31 (Z:=d::c::A.reverse) fun x hx=>hno x (by rw [hcs];simp at hx ⊢;rcases hx with h|h|h <;> simp [h])]
def leave (c:Cue) (W:Par→Val):List Mov:=c.moves.filter fun m=>decide (m.va≠W m.pa)
end Go.Sx.La
open Go Go.Proofs Go.RowKit
namespace Go.Sx
theorem YM {P:Program} (w:World) (dT sT ty elem:TypeId) (i:TypeInfo) (hu:P.underlying dT=some (.slice elem)) (hi:P.info? elem=some i)
   (g o dLen dCap:Nat) (x:Value) (n:Nat) (cs:List Value) (cur:Array Value) (t:TypeId) (hg:w.heap[g]? =some (.cells cur t (0,0)))
   (hl:(Builtin.lenOf x).run P w=.ok n w) (hf:(Builtin.firstCells i.size (Nat.min n dLen) x).run P w=.ok cs.toArray w) (hfit:o+cs.length≤cur.size) (h1:∀v∈cs,v.oneCell'=true):
   (Builtin.copy_ #[dT,sT] ty #[.slice (some ⟨g,o,none⟩) dLen dCap,x]).run P w=.ok (goInt (Nat.min n dLen)) (w.setRow g (putCells cur o cs)):=by
 have hst:=run_storeCells_at P g o t cs 0 cur w hg (by simpa using hfit) h1;have hs:=ZW cur o cs (by simpa using hfit);simp only [Nat.add_zero]at hst;rw [hs]at hst;simp [Builtin.copy_,run_underlying hu,sizeOf,typeInfo,hi,hl,hf,hst]
theorem ZD {P:Program} {w:World} {g:Nat} {cur:Array Value} {t:TypeId} {fz:Nat×Nat} (hg:w.heap[g]? =some (.cells cur t fz)) (e n o len c:Nat) (hfit:o+n * e≤cur.size):
   (Builtin.firstCells e n (.slice (some ⟨g,o,none⟩) len c)).run P w=.ok (W2 cur o (n * e)).toArray w:=by
 refine run_firstCells_some w e n ⟨g,o,none⟩ len c (W2 cur o (n * e)) (W7 hfit) fun j v hj=>?_
 have hjl:j < n * e:=by
   have:=(List.getElem?_eq_some_iff.1 hj).1;rw [W7 hfit]at this;exact this
 rw [Z8 hjl]at hj;rw [Addr.add_lit];simp [World.cell?,hg,hj]
theorem Za6 {P:Program} (w:World) {o:Oper} {a:Act} {K:Act→World→Prop} {Q:Exit→Act→World→Prop} (d s:Operand) (t t':TypeId)
   (ho:o.op=.call {callee:=.builtin .copy,args:= #[d,s],argTypes:= #[t,t']}) (v u:Value) (hd:a.eval d=v) (hs:a.eval s=u) {v':Value} {w':World}
   (hr:(Builtin.copy_ #[t,t'] o.type #[v,u]).run P w=.ok v' w') (h:K (a.put o.dst v') w'):o.wp P a w K Q:=by
 unfold Oper.wp execOp;simp only [ho,resolve,invoke,builtin,Sem.run_bind,Sem.run_pure,Result.andThen_ok,List.map_toArray,List.map_cons,List.map_nil,hd,hs,hr];exact h
theorem Z0y {P:Program} (w:World) {ops:Array Oper} {rest:List Oper} {o:Oper} {a:Act} {Q:Exit→Act→World→Prop} (hgd:o.guard=none) (d s:Operand) (t t':TypeId)
   (ho:o.op=.call {callee:=.builtin .copy,args:= #[d,s],argTypes:= #[t,t']}) (v u:Value) (hd:a.eval d=v) (hs:a.eval s=u) {v':Value} {w':World}
   (hr:(Builtin.copy_ #[t,t'] o.type #[v,u]).run P w=.ok v' w') (h:wpList P ops Q rest (a.put o.dst v') w'):wpList P ops Q (o::rest) a w:=
 wpList_plain hgd fun _ hK=>Za6 w d s t t' ho v u hd hs hr (hK _ _ h)
theorem Z6k {P:Program} {ops:Array Oper} {o:Oper} {a:Act} {w:World} {K:Act→World→Prop} {Q:Exit→Act→World→Prop} {E:Prop}
   (hg:o.guard=none) (d x:Operand) (dT sT:TypeId) (hop:o.op=Op.call {callee:=Callee.builtin Builtin.copy,args:= #[d,x],argTypes:= #[dT,sT]})
   (v u:Value) (hd:a.eval d=v) (hx:a.eval x=u) {v':Value} {w':World} (hr:(Builtin.copy_ #[dT,sT] o.type #[v,u]).run P w=.ok v' w') (hK:K (a.put o.dst v') w'):
   if Region.wanted o (yielded ops a.tmps)=true then Oper.wp P o a w K Q else E:=by
 have hw:Region.wanted o (yielded ops a.tmps)=true:=by simp [Region.wanted,hg]
 rw [if_pos hw];exact Za6 w d x dT sT hop v u hd hx hr hK
theorem u35:Tryz.prog.underlying 35=some (.slice 67):=by kernel_rfl
theorem u3:Tryz.prog.underlying 3=some (.int .i64):=by kernel_rfl
theorem i67:∃i z,Tryz.prog.info? 67=some i∧i.size=5∧i.zero=some z∧i.bytes=40∧z.cells.size=5:=by
 have h:(Tryz.prog.info? 67).map (fun i=>(i.size,i.bytes,i.zero.map fun z=>z.cells.size))=some (5,40,some 5):=by kernel_rfl
 obtain⟨i,hi,h⟩:=Option.map_eq_some_iff.1 h;simp only [Prod.mk.injEq,Option.map_eq_some_iff]at h;obtain⟨h1,h2,z,h3,h4⟩:=h;exact⟨i,z,hi,h1,h3,h2,h4⟩
set_option maxHeartbeats 4000000 in
theorem Zbc (b n c i vb vc:Nat) (cur vcur:Array Value) (t tv:TypeId) (w:World) (hb:w.heap[b]? =some (.cells cur t (0,0))) (hv:w.heap[vb]? =some (.cells vcur tv (0,0))) (hvb:vb≠b)
   (hi:i < n) (hroom:n+1≤c) (hc63:c≤9223372036854775807) (hsz:cur.size=c * 5) (hvsz:5≤vcur.size)
   (h1c:∀u∈W2 cur 0 (n * 5),u.oneCell'=true) (h1v:∀u∈W2 vcur 0 5,u.oneCell'=true):
   Calls Tryz.prog 191 #[.slice (some ⟨b,0,none⟩) n c,.int .i64 i,.slice (some ⟨vb,0,none⟩) 1 vc] w fun e w'=>
     e=.returned (.slice (some ⟨b,0,none⟩) (n+1) c)∧w'=(w.drew.setRow b (putCells cur ((i+1) * 5) (W2 cur (i * 5) ((n - i) * 5)))).setRow b (putCells (putCells cur ((i+1) * 5) (W2 cur (i * 5) ((n - i) * 5))) (i * 5) (W2 vcur 0 5)):=by
 obtain⟨inf,z,hinf,hsz2,hz,hbytes,hzc⟩:=i67;have t35:=u35;have t3:=u3;have mixed:Tryz.prog.follows Departure.mixedOrders=true:=by kernel_rfl
 have hz2:¬((i:Int)=(n:Int)):=by omega
 have hsh:∀g (arr:Array Value) ty,w.heap[g]? =some (.cells arr ty (0,0))→w.shape? g=some (ty,arr.size):=fun g arr ty h=>by simp [World.shape?,h]
 have hov:∀lb cb,(callFunc 222 #[.slice (some ⟨vb,0,none⟩) 1 vc,.slice (some ⟨b,(i+1) * 5,none⟩) lb cb]).run Tryz.prog w=.ok (.value (.bool false)) w:=fun lb cb=>by
   rw [run_callFunc_extern Tryz.func222 (by kernel_rfl) (by kernel_rfl) (by kernel_rfl) (e:=Extern.SlicesOverlaps.overlaps #[35,35] #[4]) (by kernel_rfl),
     Lib.run_overlaps_apart w 35 4 67 u35 5 (fun w=>by simp [sizeOf,typeInfo,hinf,hsz2]) ⟨vb,0,none⟩ ⟨b,(i+1) * 5,none⟩ 1 vc lb cb hvb tv t vcur.size cur.size (hsh _ _ _ hv) (hsh _ _ _ hb) (by omega) (by simp [World.frozen?,hv]) (by simp [World.frozen?,hv])]
   rfl
 obtain⟨A1,hA1⟩:∃A1,A1=putCells cur ((i+1) * 5) (W2 cur (i * 5) ((n - i) * 5)):=⟨_,rfl⟩
 have hl1:(W2 cur (i * 5) ((n - i) * 5)).length=(n - i) * 5:=W7 (by omega);have hl2:(W2 vcur 0 5).length=5:=W7 (by omega);have hA1s:A1.size=cur.size:=by rw [hA1,Y9]
 have hcp1:∀ty dc sc,(Builtin.copy_ #[35,35] ty #[.slice (some ⟨b,(i+1) * 5,none⟩) (n - i) dc,.slice (some ⟨b,i * 5,none⟩) (n+1 - i) sc]).run Tryz.prog w.drew=.ok (goInt ((n - i:Nat):Int)) (w.drew.setRow b A1):=fun ty dc sc=>by
   have h:=YM w.drew 35 35 ty 67 inf u35 hinf b ((i+1) * 5) (n - i) dc (.slice (some ⟨b,i * 5,none⟩) (n+1 - i) sc) (n+1 - i) (W2 cur (i * 5) ((n - i) * 5)) cur t hb (by simp [Builtin.lenOf])
     (by rw [hsz2,show Nat.min (n+1 - i) (n - i)=n - i by simp only [Nat.min_def];split <;> omega];exact ZD (w:=w.drew) hb 5 (n - i) (i * 5) _ _ (by omega)) (by rw [hl1];omega)
     (fun u hu=>by
       obtain⟨q,hq,rfl⟩:=List.mem_iff_getElem.1 hu;refine h1c _ (List.mem_of_getElem? (i:=i * 5+q) ?_);have hq2:q < (n - i) * 5:=by simpa [hl1]using hq
       have h1:=Z8 (arr:=cur) (off:=i * 5) hq2;rw [Z8 (by omega),Nat.zero_add, ←h1,List.getElem?_eq_getElem])
   rw [show Nat.min (n+1 - i) (n - i)=n - i by simp only [Nat.min_def];split <;> omega]at h;rw [hA1];exact h
 have hcp2:∀(W:World),W.heap=(w.drew.setRow b A1).heap→∀ty dc,(Builtin.copy_ #[35,35] ty #[.slice (some ⟨b,i * 5,none⟩) (n+1 - i) dc,.slice (some ⟨vb,0,none⟩) 1 vc]).run Tryz.prog W=.ok (goInt 1) (W.setRow b (putCells A1 (i * 5) (W2 vcur 0 5))):=fun W hW ty dc=>by
   have hbW:W.heap[b]? =some (.cells A1 t (0,0)):=by rw [hW];exact setRow_heap w.drew b cur A1 t (0,0) hb
   have hvW:W.heap[vb]? =some (.cells vcur tv (0,0)):=by rw [hW,setRow_other w.drew b vb A1 (by omega)];exact hv
   have h:=YM W 35 35 ty 67 inf u35 hinf b (i * 5) (n+1 - i) dc (.slice (some ⟨vb,0,none⟩) 1 vc) 1 (W2 vcur 0 5) A1 t hbW (by simp [Builtin.lenOf])
     (by rw [hsz2,show Nat.min 1 (n+1 - i)=1 by simp only [Nat.min_def];split <;> omega];exact ZD hvW 5 1 0 _ _ (by omega)) (by rw [hl2];omega) h1v
   rw [show Nat.min 1 (n+1 - i)=1 by simp only [Nat.min_def];split <;> omega]at h;exact h
 rw [←hA1];clear hA1 hA1s hl1 hl2 h1c h1v;have hn1:n+1 - (i+1)=n - i:=by omega
 have hw1:IntKind.i64.wrap ((i:Int)+1)=(i:Int)+1:=by rw [IntKind.wrap_i64];omega
 have hb1:(0:Int)≤(i:Int)+1:=by omega
 have hin:i≤n:=by omega
 have htn:((i:Int)+1).toNat=i+1:=by omega
 have hb2:¬(c=i+1):=by omega
 have hb3:(i:Int)≤(n:Int)+1:=by omega
 have hb4:¬(c=i):=by omega
 go_enter Tryz.func191,Tryz.ntmps191
 go_wp2_with (simp only [hov])
 go_region_law_o (refine Z6k rfl _ _ 35 35 rfl _ _ (by simp [Act.eval,Act.put]) (by simp [Act.eval,Act.put]) (hcp1 _ _ _) ?_)
 go_wp2_with (at_builtin;refine Z0y _ rfl _ _ 35 35 rfl _ _ rfl rfl (hcp2 _ rfl _ _) ?_)
 go_ret
 exact⟨rfl,rfl⟩
set_option maxHeartbeats 4000000 in
theorem Z6L (b n c vb vc:Nat) (cur vcur:Array Value) (t tv:TypeId) (w:World) (hb:w.heap[b]? =some (.cells cur t (0,0))) (hv:w.heap[vb]? =some (.cells vcur tv (0,0)))
   (hroom:n+1≤c) (hc63:c≤9223372036854775807) (hsz:cur.size=c * 5) (hvsz:5≤vcur.size) (h1v:∀u∈W2 vcur 0 5,u.oneCell'=true):
   Calls Tryz.prog 191 #[.slice (some ⟨b,0,none⟩) n c,.int .i64 n,.slice (some ⟨vb,0,none⟩) 1 vc] w fun e w'=>
     e=.returned (.slice (some ⟨b,0,none⟩) (n+1) c)∧w'=w.setRow b (putCells cur (n * 5) (W2 vcur 0 5)):=by
 obtain⟨inf,z,hinf,hsz2,hz,hbytes,hzc⟩:=i67;have t35:=u35;have t3:=u3;have mixed:Tryz.prog.follows Departure.mixedOrders=true:=by kernel_rfl
 have hl2:(W2 vcur 0 5).length=5:=W7 (by omega);have hrun:∀ty,(Builtin.append_ #[35,35] ty #[.slice (some ⟨b,0,none⟩) n c,.slice (some ⟨vb,0,none⟩) 1 vc]).run Tryz.prog w=.ok (.slice (some ⟨b,0,none⟩) (n+1) c) (w.setRow b (putCells cur (n * 5) (W2 vcur 0 5))):=fun ty=>by
   have h:=JC (P:=Tryz.prog) (w:=w) 35 ty 67 t inf u35 hinf b n c cur hb (.slice (some ⟨vb,0,none⟩) 1 vc) 1 (W2 vcur 0 5) (by simp [Builtin.lenOf]) (by rw [hsz2];exact ZD hv 5 1 0 _ _ (by omega)) h1v hroom (by rw [hsz2,hl2];omega);rw [hsz2,ZW _ _ _ (by rw [hl2];omega)]at h;exact h
 clear hl2 h1v
 go_enter Tryz.func191,Tryz.ntmps191
 go_wp2_with (at_builtin;refine Lib.wpList_append_run _ rfl _ _ _ _ rfl _ _ rfl rfl _ _ (hrun _) ?_)
 go_ret
 exact⟨rfl,rfl⟩
set_option maxHeartbeats 4000000 in
theorem Z6N (base:Option Addr) (n c vb vc:Nat) (olds vcur:Array Value) (tv:TypeId) (w:World) (hold:(Builtin.firstCells 5 n (.slice base n c)).run Tryz.prog w.drew=.ok olds w.drew) (hnil:base=none→n=0) (hv:w.heap[vb]? =some (.cells vcur tv (0,0)))
   (hnc:n≤c) (hroom:c < n+1) (hn:n≤1000000) (hvsz:5≤vcur.size):
   Calls Tryz.prog 191 #[.slice base n c,.int .i64 n,.slice (some ⟨vb,0,none⟩) 1 vc] w fun e w'=>
     ∃z:Value,z.cells.size=5∧e=.returned (.slice (some ⟨w.heap.size,0,none⟩) (n+1) (grownCap w (n+1) c 67))∧
     w'=w.drew.alloc (.cells (olds++(W2 vcur 0 5).toArray++Builtin.zeroCells z.cells (grownCap w (n+1) c 67 - (n+1))) 67):=by
 obtain⟨inf,z,hinf,hsz2,hz,hbytes,hzc⟩:=i67;have t35:=u35;have t3:=u3;have mixed:Tryz.prog.follows Departure.mixedOrders=true:=by kernel_rfl
 obtain⟨ROW,hROW⟩:∃ROW,ROW=olds++(W2 vcur 0 5).toArray++Builtin.zeroCells z.cells (grownCap w (n+1) c 67 - (n+1)):=⟨_,rfl⟩
 have hrun:∀ty,(Builtin.append_ #[35,35] ty #[.slice base n c,.slice (some ⟨vb,0,none⟩) 1 vc]).run Tryz.prog w=.ok (.slice (some ⟨w.heap.size,0,none⟩) (n+1) (grownCap w (n+1) c 67)) (w.drew.alloc (.cells ROW 67)):=fun ty=>by
   rw [hROW];exact Wr w 35 ty 67 inf z u35 hinf hz base n c olds (by rw [hsz2];exact hold) (.slice (some ⟨vb,0,none⟩) 1 vc) 1 (W2 vcur 0 5).toArray (by simp [Builtin.lenOf]) (by rw [hsz2];exact ZD (w:=w.drew) hv 5 1 0 _ _ (by omega)) hroom (by omega)
     (by rw [hbytes];exact growslice_fits hroom (by omega))
 suffices hh:Calls Tryz.prog 191 #[.slice base n c,.int .i64 n,.slice (some ⟨vb,0,none⟩) 1 vc] w (fun e w'=>e=.returned (.slice (some ⟨w.heap.size,0,none⟩) (n+1) (grownCap w (n+1) c 67))∧w'=w.drew.alloc (.cells ROW 67))from
   hh.mono fun e w' h=>⟨z,hzc,h.1,by rw [h.2,hROW]⟩
 clear hROW hold hz hzc hbytes
 go_enter Tryz.func191,Tryz.ntmps191
 cases base with
 | none=>
   have h0:=hnil rfl;subst h0
   go_wp2_with (at_builtin;refine Lib.wpList_append_run _ rfl _ _ _ _ rfl _ _ rfl rfl _ _ (hrun _) ?_)
   all_goals (go_ret;exact⟨rfl,rfl⟩)
 | some a=>
   obtain⟨ab,ao,asp⟩:=a
   go_wp2_with (at_builtin;refine Lib.wpList_append_run _ rfl _ _ _ _ rfl _ _ rfl rfl _ _ (hrun _) ?_)
   all_goals (go_ret;exact⟨rfl,rfl⟩)
set_option maxHeartbeats 4000000 in
theorem Zd8 (b n c i vb vc:Nat) (cur vcur:Array Value) (t tv:TypeId) (w:World) (hb:w.heap[b]? =some (.cells cur t (0,0))) (hv:w.heap[vb]? =some (.cells vcur tv (0,0)))
   (hi:i < n) (hnc:n≤c) (hroom:c < n+1) (hn:n≤1000000) (hsz:cur.size=c * 5) (hvsz:5≤vcur.size)
   (h1c:∀u∈W2 cur 0 (n * 5),u.oneCell'=true) (h1v:∀u∈W2 vcur 0 5,u.oneCell'=true):
   Calls Tryz.prog 191 #[.slice (some ⟨b,0,none⟩) n c,.int .i64 i,.slice (some ⟨vb,0,none⟩) 1 vc] w fun e w'=>
     ∃(z:Value) (ROW:Array Value),z.cells.size=5∧ROW=(W2 cur 0 (i * 5)).toArray++Builtin.zeroCells z.cells (n+1 - i)++Builtin.zeroCells z.cells (grownCap w (n+1) c 67 - (n+1))∧
     e=.returned (.slice (some ⟨w.heap.size,0,none⟩) (n+1) (grownCap w (n+1) c 67))∧
     w'=(((w.alloc (.cells ROW 67)).drew.setRow w.heap.size (putCells ROW (i * 5) (W2 vcur 0 5))).drew).setRow w.heap.size (putCells (putCells ROW (i * 5) (W2 vcur 0 5)) ((i+1) * 5) (W2 cur (i * 5) ((n - i) * 5))):=by
 obtain⟨inf,z,hinf,hsz2,hz,hbytes,hzc⟩:=i67;have t35:=u35;have t3:=u3;have mixed:Tryz.prog.follows Departure.mixedOrders=true:=by kernel_rfl
 have hz2:¬((i:Int)=(n:Int)):=by omega
 have hz3:(c:Int) < (n:Int)+1:=by omega
 have hbw:b < w.heap.size:=(Array.getElem?_eq_some_iff.1 hb).1;have hvw:vb < w.heap.size:=(Array.getElem?_eq_some_iff.1 hv).1;have hkk:(n:Int)+1 - (i:Int)=((n+1 - i:Nat):Int):=by omega
 have hik:i+(n+1 - i)=n+1:=by omega
 obtain⟨G,hG⟩:∃G,G=grownCap w (n+1) c 67:=⟨_,rfl⟩
 obtain⟨ROW,hROW⟩:∃ROW,ROW=(W2 cur 0 (i * 5)).toArray++Builtin.zeroCells z.cells (n+1 - i)++Builtin.zeroCells z.cells (G - (n+1)):=⟨_,rfl⟩
 have hrz:∀ty,(Builtin.append_ #[35,3] ty #[.slice (some ⟨b,0,none⟩) i c,.int .i64 ((n:Int)+1 - (i:Int))]).run Tryz.prog w=.ok (.slice (some ⟨w.heap.size,0,none⟩) (n+1) G) (w.drew.alloc (.cells ROW 67)):=fun ty=>by
   have h:=Lib.run_append_grow_zeros w 35 3 ty 67 inf z .i64 .i64 u35 u3 hinf hz (some ⟨b,0,none⟩) i c (W2 cur 0 (i * 5)) (by rw [hsz2];exact ZD (w:=w.drew) hb 5 i 0 _ _ (by omega)) (n+1 - i) (by omega) (by omega) (by omega) (by omega) (by rw [hbytes];omega)
     (by rw [hbytes,hik];exact growslice_fits hroom (by omega))
   rw [hik]at h;rw [hkk,hROW,hG];exact h
 have hGn:n+1≤G:=by rw [hG];exact grownCap_ge w _ _ _
 have hG63:G≤9223372036854775807:=by
   have:=grownCap_le_maxLen w (n+1) c 67 (by unfold maxLen;omega);rw [←hG]at this;unfold maxLen at this;omega
 have hzs:∀k,(Builtin.zeroCells z.cells k).size=k * 5:=fun k=>by simp [Builtin.zeroCells,hzc]
 have hRs:ROW.size=G * 5:=by
   rw [hROW];simp only [Array.size_append,List.size_toArray,hzs,W7 (arr:=cur) (off:=0) (n:=i * 5) (by omega)];omega
 have hl1:(W2 cur (i * 5) ((n - i) * 5)).length=(n - i) * 5:=W7 (by omega);have hl2:(W2 vcur 0 5).length=5:=W7 (by omega);obtain⟨R1,hR1⟩:∃R1,R1=putCells ROW (i * 5) (W2 vcur 0 5):=⟨_,rfl⟩
 have hR1s:R1.size=G * 5:=by rw [hR1,Y9];exact hRs
 have hnew:∀(W:World),W.heap=(w.drew.alloc (.cells ROW 67)).heap→W.heap[w.heap.size]? =some (.cells ROW 67 (0,0))∧W.heap[vb]? =some (.cells vcur tv (0,0))∧W.heap[b]? =some (.cells cur t (0,0)):=fun W hW=>by
   rw [hW];refine⟨by show(w.heap.push (Obj.cells ROW 67 (0,0)))[w.heap.size]? =_;exact Array.getElem?_push_size,?_,?_⟩
   · rw [←hv];exact heap_alloc_old w.drew _ hvw
   · rw [←hb];exact heap_alloc_old w.drew _ hbw
 have hcpA:∀(W:World),W.heap=(w.drew.alloc (.cells ROW 67)).heap→∀ty dc,(Builtin.copy_ #[35,35] ty #[.slice (some ⟨w.heap.size,i * 5,none⟩) (n+1 - i) dc,.slice (some ⟨vb,0,none⟩) 1 vc]).run Tryz.prog W=.ok (goInt 1) (W.setRow w.heap.size R1):=fun W hW ty dc=>by
   obtain⟨h1,h2,_⟩:=hnew W hW;have h:=YM W 35 35 ty 67 inf u35 hinf w.heap.size (i * 5) (n+1 - i) dc (.slice (some ⟨vb,0,none⟩) 1 vc) 1 (W2 vcur 0 5) ROW 67 h1 (by simp [Builtin.lenOf])
     (by rw [hsz2,show Nat.min 1 (n+1 - i)=1 by simp only [Nat.min_def];split <;> omega];exact ZD h2 5 1 0 _ _ (by omega)) (by rw [hl2];omega) h1v
   rw [show Nat.min 1 (n+1 - i)=1 by simp only [Nat.min_def];split <;> omega]at h;rw [hR1];exact h
 have hcpB:∀(W:World),W.heap=((w.drew.alloc (.cells ROW 67)).setRow w.heap.size R1).heap→∀ty dc sc,(Builtin.copy_ #[35,35] ty #[.slice (some ⟨w.heap.size,(i+1) * 5,none⟩) (n - i) dc,.slice (some ⟨b,i * 5,none⟩) (n - i) sc]).run Tryz.prog W=.ok (goInt ((n - i:Nat):Int)) (W.setRow w.heap.size (putCells R1 ((i+1) * 5) (W2 cur (i * 5) ((n - i) * 5)))):=fun W hW ty dc sc=>by
   obtain⟨h1,h2,h3⟩:=hnew (w.drew.alloc (.cells ROW 67)) rfl;have k1:W.heap[w.heap.size]? =some (.cells R1 67 (0,0)):=by rw [hW];exact setRow_heap _ _ ROW R1 67 (0,0) h1
   have k2:W.heap[b]? =some (.cells cur t (0,0)):=by rw [hW,setRow_other _ _ b R1 (by omega)];exact h3
   have h:=YM W 35 35 ty 67 inf u35 hinf w.heap.size ((i+1) * 5) (n - i) dc (.slice (some ⟨b,i * 5,none⟩) (n - i) sc) (n - i) (W2 cur (i * 5) ((n - i) * 5)) R1 67 k1 (by simp [Builtin.lenOf])
     (by rw [hsz2,show Nat.min (n - i) (n - i)=n - i from Nat.min_self _];exact ZD k2 5 (n - i) (i * 5) _ _ (by omega)) (by rw [hl1];omega)
     (fun u hu=>by
       obtain⟨q,hq,rfl⟩:=List.mem_iff_getElem.1 hu;refine h1c _ (List.mem_of_getElem? (i:=i * 5+q) ?_);have hq2:q < (n - i) * 5:=by simpa [hl1]using hq
       have h1:=Z8 (arr:=cur) (off:=i * 5) hq2;rw [Z8 (by omega),Nat.zero_add, ←h1,List.getElem?_eq_getElem])
   rw [show Nat.min (n - i) (n - i)=n - i from Nat.min_self _]at h;exact h
 suffices hh:Calls Tryz.prog 191 #[.slice (some ⟨b,0,none⟩) n c,.int .i64 i,.slice (some ⟨vb,0,none⟩) 1 vc] w (fun e w'=>e=.returned (.slice (some ⟨w.heap.size,0,none⟩) (n+1) G)∧
     w'=(((w.alloc (.cells ROW 67)).drew.setRow w.heap.size R1).drew).setRow w.heap.size (putCells R1 ((i+1) * 5) (W2 cur (i * 5) ((n - i) * 5))))from
   hh.mono fun e w' h=>⟨z,ROW,hzc,by rw [←hG];exact hROW,by rw [←hG];exact h.1,by rw [←hR1];exact h.2⟩
 have hGi:¬(G=i):=by omega
 have hGim:¬(G=i+1):=by omega
 have hci:¬(c=i):=by omega
 have hn1:n+1 - (i+1)=n - i:=by omega
 have hw1:IntKind.i64.wrap ((i:Int)+1)=(i:Int)+1:=by rw [IntKind.wrap_i64];omega
 have hb1:(0:Int)≤(i:Int)+1:=by omega
 have hin:i≤n:=by omega
 have htn:((i:Int)+1).toNat=i+1:=by omega
 have hb3:(i:Int)≤(n:Int):=by omega
 have hE1:((w.alloc (.cells ROW 67)).drew).heap=(w.drew.alloc (.cells ROW 67)).heap:=rfl;have hE2:((w.alloc (.cells ROW 67)).drew.setRow w.heap.size R1).heap=((w.drew.alloc (.cells ROW 67)).setRow w.heap.size R1).heap:=rfl;have hF1:(((w.alloc (.cells ROW 67)).drew.setRow w.heap.size R1).drew).heap=((w.drew.alloc (.cells ROW 67)).setRow w.heap.size R1).heap:=rfl;clear hkk hik hG hROW hR1 hR1s hRs hl1 hl2 hnew hz hzc hzs hbytes h1c h1v
 go_enter Tryz.func191,Tryz.ntmps191
 go_wp2_with (first
   |(at_builtin;refine Lib.wpList_append_run _ rfl _ _ _ _ rfl _ _ rfl rfl _ _ (hrz _) ?_)
   |(at_builtin;refine Z0y _ rfl _ _ 35 35 rfl _ _ rfl rfl (hcpA _ hE1 _ _) ?_)
   |(at_builtin;refine Z0y _ rfl _ _ 35 35 rfl _ _ rfl rfl (hcpB _ hE2 _ _ _) ?_))
 trace_state
 go_region_law_o (refine Z6k rfl _ _ 35 35 rfl (.slice (some ⟨w.heap.size,(i+1) * 5,none⟩) (n - i) (G - (i+1))) (.slice (some ⟨b,i * 5,none⟩) (n - i) (c - i)) (by simp [Act.eval,Act.put]) (by simp [Act.eval,Act.put]) (hcpB _ hF1 3 (G - (i+1)) (c - i)) ?_)
 go_wp2
 go_ret
 exact⟨rfl,rfl⟩
end Go.Sx
namespace Go.Sx.La
open Go Go.Sx Go.RowKit Go.Proofs
theorem Zdy {m:Mem} {d:D} {v:Value} {k:K} (hr:RepD m d v) (hk:HasK k d) (hf:k.flat=true):v.oneCell'=true:=by
 cases hr <;> first|rfl|(cases k <;> simp [HasK,K.flat]at hk hf)
theorem Z2W {m:Mem} {e:Nat} {xs:List (List D)} {y:List D} {cur arr:Array Value} {news:List Value} {i:Nat} (h:Flat m e xs cur) (hy:y.length=e) (hny:∀(j:Nat) d v,y[j]? =some d→news[j]? =some v→RepD m d v)
   (hi:i≤xs.length) (hfit:(xs.length+1) * e≤arr.size) (h1:∀q,q < i * e→arr[q]? =cur[q]?) (h2:∀j,j < e→arr[i * e+j]? =news[j]?) (h3:∀q,i * e≤q→q < xs.length * e→arr[q+e]? =cur[q]?):
   Flat m e (xs.take i++y::xs.drop i) arr:=by
 have htl:(xs.take i).length=i:=by simp;omega
 have hmul:∀a b:Nat,a≤b→a * e≤b * e:=fun a b h=>Nat.mul_le_mul_right _ h
 have hsucc:∀a:Nat,(a+1) * e=a * e+e:=fun a=>by rw [Nat.add_mul,Nat.one_mul]
 refine⟨?_,?_,?_⟩
 · have:(xs.take i++y::xs.drop i).length=xs.length+1:=by simp;omega
   rw [this];exact hfit
 · intro x hx;rcases List.mem_append.1 hx with hx|hx
   · exact h.he x (List.mem_of_mem_take hx)
   · rcases List.mem_cons.1 hx with rfl|hx
     · exact hy
     · exact h.he x (List.mem_of_mem_drop hx)
 · intro p j x d v hp hj hv;rw [List.getElem?_append,htl]at hp;split at hp
   · rename_i hlt;have hx:xs[p]? =some x:=by rw [List.getElem?_take,if_pos hlt]at hp;exact hp
     have hje:j < e:=by rw [←h.he x (List.mem_of_getElem? hx)];exact(List.getElem?_eq_some_iff.1 hj).1
     have:=hmul (p+1) i (by omega);have:=hsucc p;rw [h1 _ (by omega)]at hv;exact h.hv p j x d v hx hj hv
   · rename_i hge;cases hpi:p - i with
     | zero=>
       rw [hpi]at hp;have hpe:p=i:=by omega
       subst hpe;obtain rfl:y=x:=by simpa using hp
       have hje:j < e:=by rw [←hy];exact(List.getElem?_eq_some_iff.1 hj).1
       rw [h2 j hje]at hv;exact hny j d v hj hv
     | succ q=>
       rw [hpi,List.getElem?_cons_succ,List.getElem?_drop]at hp;have hlt:=(List.getElem?_eq_some_iff.1 hp).1;have hje:j < e:=by rw [←h.he x (List.mem_of_getElem? hp)];exact(List.getElem?_eq_some_iff.1 hj).1
       have e1:p * e+j=((i+q) * e+j)+e:=by
         have:p=i+q+1:=by omega
         rw [this,hsucc];omega
       have:=hmul i (i+q) (by omega);have:=hmul (i+q+1) xs.length (by omega);have:=hsucc (i+q);rw [e1,h3 _ (by omega) (by omega)]at hv;exact h.hv (i+q) j x d v hp hj hv
def Z8q (K:List RV→Prop) (xs:List (List D)) (y:List D) (i:Nat) (v0:Value) (vb vc:Nat) (w:World) (m:Mem) (e:Ending) (w':World):Prop:=
 ∃rs us v m',K rs∧Yy Tryz.prog 191 (if false=true then Za [.own mvKs,.cell (.int .i64),.own mvKs]else []) rs∧e=.returned v∧v=Z0i us∧
       RepRs m' w' (fun b=>w.heap.size≤b∨Yb [.own 5 xs,.d (.int .i64 i),.own 5 [y]] [v0,.int .i64 i,.slice (some ⟨vb,0,none⟩) 1 vc] b) rs (us++if false=true then Z5 [.own 5 xs,.d (.int .i64 i),.own 5 [y]] [v0,.int .i64 i,.slice (some ⟨vb,0,none⟩) 1 vc]else [])∧
       m.le m'∧MemOk m' w'∧(∀b,b < w.heap.size→¬Yb [.own 5 xs,.d (.int .i64 i),.own 5 [y]] [v0,.int .i64 i,.slice (some ⟨vb,0,none⟩) 1 vc] b→m' b=m b)∧Apart (Yb [.own 5 xs,.d (.int .i64 i),.own 5 [y]] [v0,.int .i64 i,.slice (some ⟨vb,0,none⟩) 1 vc]) w w'
theorem WC (W:World) (g:Nat) (A:Array Value):(W.setRow g A).heap.size=W.heap.size:=by simp [World.setRow]
set_option maxHeartbeats 2000000 in
theorem Zba:ContractX Tryz.prog 191 [.own mvKs,.cell (.int .i64),.own mvKs] false fun args K=>∃(xs:List (List D)) (i:Nat) (y:List D),i≤xs.length∧xs.length≤1000000∧args=[.own 5 xs,.d (.int .i64 i),.own 5 [y]]∧K [.own 5 (xs.take i++y::xs.drop i)]:=by
 have hcl:J2 Tryz.prog 191=true:=by kernel_rfl
 have hres:J7 Tryz.prog false (Wp Tryz.prog 191)=some [.cell (.slice mvKs)]:=by kernel_rfl
 refine⟨hcl,?_⟩;rintro _ K ⟨xs,i,y,hi,hlen,rfl,hK⟩ ⟨ρ,hρ,hks⟩ w m vs hm hr;have hρ':ρ=[.slice xs,.int .i64 i,.slice [y]]:=by
   simp [Zd]at hρ;exact hρ.symm
 subst hρ';have hkx:HasK (.slice mvKs) (.slice xs):=hks.1;have hky:HasKs mvKs y:=by
   have:=hks.2.2.1;exact this y (by simp)
 have hyl:y.length=5:=hky.length;have hxl:∀x∈xs,x.length=5:=fun x hx=>(hkx x hx).length
 have hout:HasKs [.slice mvKs] [.slice (xs.take i++y::xs.drop i)]:=by
   refine⟨?_,trivial⟩;intro x hx;rcases List.mem_append.1 hx with hx|hx
   · exact hkx x (List.mem_of_mem_take hx)
   · rcases List.mem_cons.1 hx with rfl|hx
     · exact hky
     · exact hkx x (List.mem_of_mem_drop hx)
 have hty:Yy Tryz.prog 191 [] [.own 5 (xs.take i++y::xs.drop i)]:=by
   intro rk hrk;rw [hres]at hrk;cases hrk;exact⟨[.slice (xs.take i++y::xs.drop i)],rfl,hout⟩
 have hol:(xs.take i++y::xs.drop i).length=xs.length+1:=by simp;omega
 have hlen3:vs.length=3:=hr.len
 match vs,hlen3 with
 | [v0,v1,v2],_=>
 have r0:=hr.rep 0 _ v0 rfl rfl;have r1:=hr.rep 1 _ v1 rfl rfl;have r2:=hr.rep 2 _ v2 rfl rfl;obtain rfl:v1=.int .i64 i:=by cases r1 with|d h=>cases h;rfl
 obtain⟨vb,vc,vcur,tv,hv2,_,hvm,hvb,_,hvc,_,_,hvsz,_,hvv⟩:=ZaO r2 (by simp);simp only [List.length_singleton]at hv2 hvc;subst hv2;have hvsz2:5≤vcur.size:=by omega
 have hnew:∀(j:Nat) d v,y[j]? =some d→(W2 vcur 0 5)[j]? =some v→RepD m d v:=by
   intro j d v hj hv;have hje:j < 5:=by rw [←hyl];exact(List.getElem?_eq_some_iff.1 hj).1
   rw [Z8 hje]at hv;exact hvv 0 j y d v rfl hj (by simpa using hv)
 have hl2:(W2 vcur 0 5).length=5:=W7 (by omega);have h1v:∀u∈W2 vcur 0 5,u.oneCell'=true:=by
   intro u hu;obtain⟨j,hj,rfl⟩:=List.mem_iff_getElem.1 hu;have hj2:j < y.length:=by omega
   obtain⟨d,hd,hkd⟩:=HasKs.get hky (i:=j) (k:=mvKs[j]'(by simp;omega)) (by simp);refine Zdy (hnew j d _ hd (by rw [List.getElem?_eq_getElem])) hkd ?_;have:j=0∨j=1∨j=2∨j=3∨j=4:=by omega
   rcases this with rfl|rfl|rfl|rfl|rfl <;> rfl
 have done:∀(e:Ending) (w':World) (rb c:Nat) (arr:Array Value) (t:TypeId),e=.returned (.slice (some ⟨rb,0,none⟩) (xs.length+1) c)→
     (w.heap.size≤rb∨v0=.slice (some ⟨rb,0,none⟩) xs.length c∧0 < c)→(∀b,b≠rb→b < w.heap.size→w'.heap[b]? =w.heap[b]?)→w'.heap[rb]? =some (.cells arr t (0,0))→m rb=none→Flat m 5 (xs.take i++y::xs.drop i) arr→arr.size=c * 5→xs.length+1≤c→c≤maxLen→
     (w'.os=w.os∧w'.tape=w.tape∧w'.output=w.output∧w.drawn≤w'.drawn∧w.heap.size≤w'.heap.size)→
     Z8q K xs y i v0 vb vc w m e w':=by
   intro e w' rb c arr t he hrb hoth hnb hmb hfl hsz hc hcm ⟨o1,o2,o3,o4,o5⟩;have hB:w.heap.size≤rb∨Yb [.own 5 xs,.d (.int .i64 i),.own 5 [y]] [v0,.int .i64 i,.slice (some ⟨vb,0,none⟩) 1 vc] rb:=by
     rcases hrb with h|⟨h,h0⟩
     · exact .inl h
     · exact .inr ⟨0,_,v0,rfl,rfl,rfl,by rw [h];simp [blk];omega⟩
   refine⟨[.own 5 (xs.take i++y::xs.drop i)],[.slice (some ⟨rb,0,none⟩) (xs.length+1) c],_,m,hK,hty,he,rfl,⟨rfl,?_,?_⟩,Mem.le_refl m,?_,fun _ _ _=>rfl,⟨o1,o2,o3,o4,o5,?_⟩⟩
   · intro p r u h2 h3;cases p with
     |succ p=>simp at h2
     | zero=>
       simp at h2 h3;subst h2 h3;have:=RepR.own (m:=m) (w:=w') (B:=fun b=>w.heap.size≤b∨Yb [.own 5 xs,.d (.int .i64 i),.own 5 [y]] [v0,.int .i64 i,.slice (some ⟨vb,0,none⟩) 1 vc] b) (e:=5) (xs:=xs.take i++y::xs.drop i) (b:=rb) (c:=c) (arr:=arr) (t:=t) hB hmb hnb (by omega) (by omega) hcm (by rw [hol];unfold cap;omega) hsz hfl.he hfl.hv;rw [hol]at this;exact this
   · intro p q r r' u u' b hpq h2 h3;have h4:=(List.getElem?_eq_some_iff.1 h2).1;have h5:=(List.getElem?_eq_some_iff.1 h3).1;simp only [List.length_singleton]at h4 h5;omega
   · intro b o ho;have hne:b≠rb:=by rintro rfl;rw [hmb]at ho;cases ho
     have hb:=hm b o ho;have hlt:b < w.heap.size:=(Array.getElem?_eq_some_iff.1 hb).1;rw [hoth b hne hlt];exact hb
   · intro b hb hnb';refine hoth b ?_ hb;rintro rfl;rcases hB with h|h
     · omega
     · exact hnb' h
 have hml:maxLen≤9223372036854775807:=by unfold maxLen;omega
 have hfresh:m w.heap.size=none:=by
   cases h:m w.heap.size with
   |none=>rfl
   | some o=>
     have:=hm _ _ h;have:=(Array.getElem?_eq_some_iff.1 this).1;omega
 have alloc_at:∀(W:World) (o:Obj),(W.alloc o).heap[W.heap.size]? =some o:=fun W o=>by
   show(W.heap.push o)[W.heap.size]? =_;exact Array.getElem?_push_size
 have grow_le:∀n c,n+1≤1000001→grownCap w (n+1) c 67≤maxLen∧n+1≤grownCap w (n+1) c 67:=fun n c hn=>⟨grownCap_le_maxLen w (n+1) c 67 (by unfold maxLen;omega),grownCap_ge w _ _ _⟩
 have endGrow:∀(base:Option Addr) (c:Nat) (olds:Array Value),v0=.slice base xs.length c→i=xs.length→(base=none→xs.length=0)→xs.length≤c→c < xs.length+1→
     (Builtin.firstCells 5 xs.length (.slice base xs.length c)).run Tryz.prog w.drew=.ok olds w.drew→olds.size=xs.length * 5→Flat m 5 xs olds→Calls Tryz.prog 191 #[v0,.int .i64 i,.slice (some ⟨vb,0,none⟩) 1 vc] w (Z8q K xs y i v0 vb vc w m):=fun base c olds hv0 hie hnil hnc hroom hold hos hfl=>by
   have hc:=Z6N base xs.length c vb vc olds vcur tv w hold hnil hvb hnc hroom hlen hvsz2;rw [←hv0, ←hie]at hc;refine hc.mono ?_;rintro e w' ⟨z,hz,he,rfl⟩;rw [hie]at he ⊢;obtain⟨g1,g2⟩:=grow_le xs.length c (by omega);have hzs:∀k,(Builtin.zeroCells z.cells k).size=k * 5:=fun k=>by simp [Builtin.zeroCells,hz]
   have hsz:(olds++(W2 vcur 0 5).toArray++Builtin.zeroCells z.cells (grownCap w (xs.length+1) c 67 - (xs.length+1))).size=grownCap w (xs.length+1) c 67 * 5:=by
     simp only [Array.size_append,List.size_toArray,hos,hl2,hzs];omega
   rw [←hie]at hsz g1 g2 he ⊢;refine done _ _ w.heap.size _ _ 67 (by rw [he,hie]) (.inl (Nat.le_refl _)) (fun b hb hbs=>heap_alloc_old w.drew _ hbs) (alloc_at w.drew _) hfresh ?_ hsz (by omega) g1 ⟨rfl,rfl,rfl,Nat.le_succ _,by show w.heap.size≤(w.heap.push _).size;simp⟩;refine Z2W hfl hyl hnew hi (by rw [hsz];omega) (fun q hq=>?_) (fun j hj=>?_) (fun q h1 h2=>by omega)
   · rw [Array.getElem?_append_left (by simp only [Array.size_append,List.size_toArray,hos,hl2];omega),Array.getElem?_append_left (by omega)]
   · rw [Array.getElem?_append_left (by simp only [Array.size_append,List.size_toArray,hos,hl2];omega),Array.getElem?_append_right (by omega),hos];simp [hie]
 show Calls Tryz.prog 191 #[v0,.int .i64 i,.slice (some ⟨vb,0,none⟩) 1 vc] w (Z8q K xs y i v0 vb vc w m);have hcase:(∃a,v0=.slice a 0 0∧xs=[])∨(∃b c cur t,v0=.slice (some ⟨b,0,none⟩) xs.length c∧m b=none∧w.heap[b]? =some (.cells cur t (0,0))∧0 < c∧xs.length≤c∧c≤maxLen∧cur.size=c * 5∧
     ∀(i j:Nat) x d v,xs[i]? =some x→x[j]? =some d→cur[i * 5+j]? =some v→RepD m d v):=by
   cases r0 with
   |none=>exact .inl ⟨_,rfl,rfl⟩
   |own hB hmb hb h0 hc hcc hcap hsz he hv=>exact .inr ⟨_,_,_,_,rfl,hmb,hb,h0,hc,hcc,hsz,hv⟩
 rcases hcase with⟨a,rfl,rfl⟩|⟨b,c,cur,t,rfl,hmb,hb,h0,hc,hcc,hsz,hv⟩
 · have hi0:i=0:=by simpa using hi
   refine endGrow a 0 #[] rfl (by simpa using hi0) (fun _=>rfl) (Nat.le_refl _) (by simp) ?_ rfl ⟨by simp,by simp,by simp⟩;cases a with
   |none=>simp [Builtin.firstCells]
   |some b=>simp [Builtin.firstCells,loadCells,loadCellsFrom]
 · have hbv:vb≠b:=by
     have:=hr.sep 0 2 _ _ _ _ b (by decide) rfl rfl rfl rfl rfl rfl (by simp [blk];omega);intro e;subst e;exact this (by simp [blk];omega)
   have hfl:Flat m 5 xs cur:=⟨by rw [hsz];exact Nat.mul_le_mul_right _ hc,hxl,hv⟩
   have hls:∀off n,off+n≤cur.size→(W2 cur off n).length=n:=fun off n h=>W7 h
   have h1c:∀u∈W2 cur 0 (xs.length * 5),u.oneCell'=true:=by
     intro u hu;obtain⟨q,hq,rfl⟩:=List.mem_iff_getElem.1 hu;rw [hls 0 _ (by omega)]at hq;have hqi:q / 5 < xs.length:=by omega
     have hx:=List.getElem_mem hqi;have hk:=hkx _ hx;have hxl2:=hxl _ hx;have hj:q % 5 < 5:=Nat.mod_lt _ (by omega);obtain⟨d,hd,hkd⟩:=HasKs.get hk (i:=q % 5) (k:=mvKs[q % 5]'(by simp;omega)) (by simp);refine Zdy (hv (q / 5) (q % 5) _ d _ (List.getElem?_eq_getElem hqi) hd ?_) hkd ?_
     · have e1:q / 5 * 5+q % 5=q:=by omega
       have:=Z8 (arr:=cur) (off:=0) hq;rw [e1];rw [Nat.zero_add]at this;rw [←this,List.getElem?_eq_getElem]
     · have:q % 5=0∨q % 5=1∨q % 5=2∨q % 5=3∨q % 5=4:=by omega
       rcases this with h|h|h|h|h <;> simp only [h] <;> rfl
   have hxs2:xs.length * 5≤c * 5:=Nat.mul_le_mul_right _ hc;rcases Nat.lt_or_ge xs.length c with hroom|hroom
   · -- room
     rcases Nat.lt_or_ge i xs.length with hlt|hge
     · refine(Zbc b xs.length c i vb vc cur vcur t tv w hb hvb hbv hlt hroom (by omega) hsz hvsz2 h1c h1v).mono ?_;rintro e w' ⟨he',rfl⟩;have hq1:=hls (i * 5) ((xs.length - i) * 5) (by omega);have hp1:=Wf cur ((i+1) * 5) (W2 cur (i * 5) ((xs.length - i) * 5)) (by rw [hq1];omega);have hs1:=Y9 cur ((i+1) * 5) (W2 cur (i * 5) ((xs.length - i) * 5));have k1:=setRow_heap w.drew b cur (putCells cur ((i+1) * 5) (W2 cur (i * 5) ((xs.length - i) * 5))) t (0,0) hb;generalize hA:putCells cur ((i+1) * 5) (W2 cur (i * 5) ((xs.length - i) * 5))=A at hp1 hs1 k1;have hp2:=Wf A (i * 5) (W2 vcur 0 5) (by rw [hl2];omega);have hs2:=Y9 A (i * 5) (W2 vcur 0 5);have k2:=setRow_heap _ b A (putCells A (i * 5) (W2 vcur 0 5)) t (0,0) k1;refine done _ _ b c _ t he' (.inr ⟨rfl,h0⟩) (fun g hg hgs=>?_) k2 hmb ?_ (by rw [hs2,hs1,hsz]) hroom hcc ⟨rfl,rfl,rfl,Nat.le_succ _,by rw [WC,WC];exact Nat.le_refl _⟩
       · rw [setRow_other _ b g _ hg,setRow_other _ b g _ hg];rfl
       · refine Z2W hfl hyl hnew hi (by rw [hs2,hs1,hsz];omega) (fun q hq=>?_) (fun j hj=>?_) (fun q h1 h2=>?_)
         · rw [hp2,if_neg (by omega),hp1,if_neg (by omega)]
         · rw [hp2,if_pos (by omega)];congr 1;omega
         · rw [hp2,if_neg (by omega),hp1,if_pos (by omega),Z8 (by omega)];congr 1;omega
     · have hie:i=xs.length:=by omega
       have e5:Value.int .i64 (i:Int)=.int .i64 ((xs.length:Nat):Int):=by rw [hie]
       rw [e5];refine(Z6L b xs.length c vb vc cur vcur t tv w hb hvb hroom (by omega) hsz hvsz2 h1v).mono ?_;rintro e w' ⟨he',rfl⟩;rw [show putCells cur (xs.length * 5) (W2 vcur 0 5)=putCells cur (i * 5) (W2 vcur 0 5) by rw [hie]];have hp2:=Wf cur (i * 5) (W2 vcur 0 5) (by rw [hl2];omega);have hs2:=Y9 cur (i * 5) (W2 vcur 0 5);have k2:=setRow_heap _ b cur (putCells cur (i * 5) (W2 vcur 0 5)) t (0,0) hb;refine done _ _ b c _ t he' (.inr ⟨rfl,h0⟩) (fun g hg hgs=>setRow_other _ b g _ hg) k2 hmb ?_ (by rw [hs2,hsz]) hroom hcc ⟨rfl,rfl,rfl,Nat.le_refl _,by rw [WC];exact Nat.le_refl _⟩;refine Z2W hfl hyl hnew hi (by rw [hs2,hsz];omega) (fun q hq=>?_) (fun j hj=>?_) (fun q h1 h2=>by omega)
       · rw [hp2,if_neg (by omega)]
       · rw [hp2,if_pos (by omega)];congr 1;omega
   · -- no room
     have hce:c=xs.length:=by omega
     rcases Nat.lt_or_ge i xs.length with hlt|hge
     · refine(Zd8 b xs.length c i vb vc cur vcur t tv w hb hvb hlt hc (by omega) hlen hsz hvsz2 h1c h1v).mono ?_;rintro e w' ⟨z,ROW,hz,hROW,he',rfl⟩;obtain⟨g1,g2⟩:=grow_le xs.length c (by omega);have hzs:∀k,(Builtin.zeroCells z.cells k).size=k * 5:=fun k=>by simp [Builtin.zeroCells,hz]
       have hq0:=hls 0 (i * 5) (by omega);have hRs:ROW.size=grownCap w (xs.length+1) c 67 * 5:=by
         rw [hROW];simp only [Array.size_append,List.size_toArray,hq0,hzs];omega
       have hRg:∀q,q < i * 5→ROW[q]? =cur[q]?:=fun q hq=>by
         rw [hROW,Array.getElem?_append_left (by simp only [Array.size_append,List.size_toArray,hq0];omega),Array.getElem?_append_left (by simp only [List.size_toArray,hq0];omega)];have:=Z8 (arr:=cur) (off:=0) hq;simpa using this
       generalize hG:grownCap w (xs.length+1) c 67=G at *;have hq1:=hls (i * 5) ((xs.length - i) * 5) (by omega);have hp1:=Wf ROW (i * 5) (W2 vcur 0 5) (by rw [hl2];omega);have hs1:=Y9 ROW (i * 5) (W2 vcur 0 5);have k0:=alloc_at w (.cells ROW 67);have k1:=setRow_heap ((w.alloc (.cells ROW 67)).drew) w.heap.size ROW (putCells ROW (i * 5) (W2 vcur 0 5)) 67 (0,0) k0;generalize putCells ROW (i * 5) (W2 vcur 0 5)=A at hp1 hs1 k1;have hp2:=Wf A ((i+1) * 5) (W2 cur (i * 5) ((xs.length - i) * 5)) (by rw [hq1];omega);have hs2:=Y9 A ((i+1) * 5) (W2 cur (i * 5) ((xs.length - i) * 5));have k2:=setRow_heap (((w.alloc (.cells ROW 67)).drew.setRow w.heap.size A).drew) w.heap.size A (putCells A ((i+1) * 5) (W2 cur (i * 5) ((xs.length - i) * 5))) 67 (0,0) k1;refine done _ _ w.heap.size G _ 67 he' (.inl (Nat.le_refl _)) (fun g hg hgs=>?_) k2 hfresh ?_ (by rw [hs2,hs1,hRs]) g2 g1 ⟨rfl,rfl,rfl,Nat.le_trans (Nat.le_succ _) (Nat.le_succ _),by rw [WC];show w.heap.size≤((w.alloc (.cells ROW 67)).drew.setRow w.heap.size A).heap.size;rw [WC];show w.heap.size≤(w.heap.push _).size;simp⟩
       · rw [setRow_other _ w.heap.size g _ hg];show(((w.alloc (.cells ROW 67)).drew.setRow w.heap.size A)).heap[g]? =_;rw [setRow_other _ w.heap.size g _ hg];exact heap_alloc_old w _ hgs
       · refine Z2W hfl hyl hnew hi (by rw [hs2,hs1,hRs];omega) (fun q hq=>?_) (fun j hj=>?_) (fun q h1 h2=>?_)
         · rw [hp2,if_neg (by omega),hp1,if_neg (by omega),hRg q hq]
         · rw [hp2,if_neg (by omega),hp1,if_pos (by omega)];congr 1;omega
         · rw [hp2,if_pos (by omega),Z8 (by omega)];congr 1;omega
     · refine endGrow (some ⟨b,0,none⟩) c (W2 cur 0 (xs.length * 5)).toArray rfl (by omega) (fun h=>by cases h) hc (by omega) (ZD (w:=w.drew) hb 5 xs.length 0 _ _ (by omega)) (by simp only [List.size_toArray];exact hls 0 _ (by omega)) ⟨?_,hxl,?_⟩
       · simp only [List.size_toArray];rw [hls 0 _ (by omega)];omega
       · intro p j x d v hp hj hu;have hpl:=(List.getElem?_eq_some_iff.1 hp).1;have hje:j < 5:=by rw [←hxl x (List.mem_of_getElem? hp)];exact(List.getElem?_eq_some_iff.1 hj).1
         rw [List.getElem?_toArray,Z8 (by omega),Nat.zero_add]at hu;exact hv p j x d v hp hj hu
end Go.Sx.La
