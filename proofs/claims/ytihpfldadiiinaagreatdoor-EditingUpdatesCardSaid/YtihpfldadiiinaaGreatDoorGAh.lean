/-
 Part 8 of the proof: the executor over the kit's code with its soundness, or contracts of functions.
-/
import Derived.Test.YtihpfldadiiinaaGreatDoorGAg
import Derived.Test.YtihpfldadiiinaaGreatDoorProg
import Derived.WalkKit
import Derived.WalkSpells
import Derived.WalkLawsBesides
import Derived.Lib.Walk
import Derived.Shelf.RegionOpenPlain
import Derived.Lib.SliceRun
import Derived.Lib.AppendZeros
import Derived.Lib.AppendZerosOnto
import Derived.Lib.Overlaps
import Derived.Laws.CopyRow
import Derived.Laws.IdiomCopy
set_option linter.unusedSimpArgs false
set_option linter.unusedVariables false
set_option linter.unusedSectionVars false
set_option linter.defProp false
set_option maxRecDepth 100000
namespace Go.Sx.La
open Go Go.Sx Go.RowKit Go.Proofs
noncomputable def t21:R:=let x0:T:=.o1 .len (Va 0);let x1:T:=.o1 .len (Va 1);.fact (.o2 .le x0 (Vn 140737488355328)) (.fact (.o2 .le x1 (Vn 140737488355328)) (.ite (.o2 .ne x0 x1) (.ret [.d (.bool false)]) (.loop 0 [Vn 0] [.int .i64] (.ite (.o2 .lt (Va 2) x0) (.need (.o2 .le (Vn 0) (Va 2)) (.need (.o2 .lt (Va 2) x1) (.ite (.o1 .not (.o2 .band (.o2 .band (.o2 .eq (.idx (Va 0) (Va 2) 0 (.int .i64)) (.idx (Va 1) (Va 2) 0 (.int .i64))) (.o2 .band (.o2 .eq (.idx (Va 0) (Va 2) 1 (.int .i64)) (.idx (Va 1) (Va 2) 1 (.int .i64))) (.bool true))) (.o2 .band (.o2 .band (.o2 .eq (.idx (Va 0) (Va 2) 2 (.int .i64)) (.idx (Va 1) (Va 2) 2 (.int .i64))) (.o2 .band (.o2 .eq (.idx (Va 0) (Va 2) 3 (.int .i64)) (.idx (Va 1) (Va 2) 3 (.int .i64))) (.bool true))) (.bool true)))) (.ret [.d (.bool false)]) (.again 0 [.o2 (.add .i64) (Va 2) (Vn 1)])))) (.ret [.d (.bool true)])))))
theorem Z6x {ps:List Par} (h:Js ps):ps.Nodup:=h.imp fun {a b} hab e=>by subst e;rw [Wa]at hab;cases hab
theorem Z7b {cs:List Cue} {n:Nat} (hn:n < cs.length) (p:Par):W7 cs p (n+1)=((Zb cs[n].moves p).map (·.va)).getD (if cs[n].block then hval else W7 cs p n):=by
 have hb:Wn cs (n+1)=cs[n]::if cs[n].block then []else Wn cs n:=by simp [Wn,hn]
 simp only [W7,Z7x,hb,List.findSome?_cons];cases Zb cs[n].moves p with
 |some m=>rfl
 | none=>
   by_cases h:cs[n].block=true
   · simp [h]
   · simp [h]
theorem Z8y {l:Lis} (h:W8 W4 l=0) {i:Nat} (hi:i < l.cues.length):Jf l l.cues[i].num=0∧upto l l.cues[i].num=i+1∧place l.cues l.cues[i].num=i:=by
 have hR:=Wd h;have hp:¬place l.cues l.cues[i].num < 0:=fun hn=>Z19.1 hn _ (List.getElem_mem hi) rfl
 obtain⟨j,hj,e1,e2,_⟩:=Z18 hp;have hij:j=i:=by
   rcases Nat.lt_trichotomy j i with h1|h1|h1
   · exact absurd (by simp [Yl,e2]) (Z11 hR.rising hj hi (by omega))
   · exact h1
   · exact absurd (by simp [Yl,e2]) (Z11 hR.rising hj hi (by omega))
 subst hij;refine⟨?_,by simp [upto,e1],e1⟩;unfold Jf Yn;rw [if_neg (by simp [h]),if_neg (by simp [hR.num _ (List.getElem_mem hi)]),if_neg hp]
structure RightE (es:List Ent):Prop where
 ok:∀e∈es,e.Ok
 par:∀e∈es,Z3 e.pa=0
 val:∀e∈es,J8 e.va=0
 rising:es.Pairwise fun a b=>W3 a.pa b.pa=true
 len:es.length≤10000
theorem Z2j {xs:List Mov}:∀(cs:List Mov) (i:Nat),Yg xs i cs=0→∀c∈cs,J8 c.va=0
 | [],i,_=>by simp
 | c::cs,i,h=>by
   simp only [Yg]at h;split at h
   · rename_i hc;exact absurd h hc
   split at h
   · rename_i hc;exact absurd h hc
   rename_i hv;split at h
   · cases h
   split at h
   · cases h
   intro d hd;rcases List.mem_cons.1 hd with rfl|hd
   · simpa using hv
   · exact Z2j cs (i+1) h d hd
theorem Z9c {ms:List Mov} (h:Wi ms=0):∀m∈ms,J8 m.va=0:=by
 unfold Wi at h;split at h
 · cases h
 · exact Z2j ms 0 h
theorem Z1B {l:Lis} (h:W8 W4 l=0) (p:Par) (n:Nat):J8 (W7 l.cues p n)=0:=by
 unfold W7 Z7x;cases h1:(Wn l.cues n).findSome? fun c=>Zb c.moves p with
 |none=>decide
 | some m=>
   obtain⟨c,hc,hm⟩:=List.exists_of_findSome?_eq_some h1;exact Z9c (WW ((Wd h).cues c (ZR hc))) m (List.mem_of_find?_eq_some hm)
def unmark (c:Cue):Cue:= {c with mark:=false}
theorem Z9v {l:Lis} (h0:¬(l.num < 1∨1048576 < l.num∨l.prio < 0∨9 < l.prio)) (h1:l.cues.length≤64) (h2:∀c∈l.cues,J5 c=0) (h3:Wx l.cues):W8 W4 l=0:=by
 have key:∀(cs:List Cue) (i:Nat),cs=l.cues.drop i→ZI W4 l.cues i cs=0:=by
   intro cs;induction cs with
   |nil=>intro i _;rfl
   | cons c cs ih=>
     intro i he;have hlt:i < l.cues.length:=by
       rcases Nat.lt_or_ge i l.cues.length with h|h
       · exact h
       · rw [List.drop_eq_nil_of_le h]at he;cases he
     rw [List.drop_eq_getElem_cons hlt]at he;obtain⟨rfl,rfl⟩:=List.cons.inj he;simp only [ZI];rw [if_neg (by simp [h2 _ (List.getElem_mem hlt)]),if_neg ?_]
     · exact ih (i+1) rfl
     · rintro⟨hi,ho⟩;rw [getElem!_pos l.cues (i - 1) (by omega)]at ho;rw [Wx,List.pairwise_iff_getElem]at h3;have:=h3 (i - 1) i (by omega) hlt (by omega);have:=(Z3q _ _).2 this;omega
 simp only [W8];rw [if_neg h0,if_neg (by omega)];exact key l.cues 0 rfl
theorem Zcp {l:Lis} (h:W8 W4 l=0):¬(l.num < 1∨1048576 < l.num∨l.prio < 0∨9 < l.prio):=by
 simp only [W8]at h;split at h
 · cases h
 · assumption
def putM:List Mov→Mov→List Mov
 | [],m=>[m]
 |x::xs,m=>if W3 x.pa m.pa then x::putM xs m else if x.pa=m.pa then m::xs else m::x::xs
def Zh (a b:List Mov):List Mov:=b.foldl putM a
def givM (es:List Ent) (part:Int):List Mov:=es.map fun e=>⟨e.pa,e.va,part⟩
theorem Z1h {m x:Mov}:∀ {ms:List Mov},x∈putM ms m→x=m∨x∈ms
 | [],h=>by simp [putM]at h;exact .inl h
 | y ::ys,h=>by
   simp only [putM]at h;split at h
   · rcases List.mem_cons.1 h with rfl|h
     · exact .inr (by simp)
     · rcases Z1h h with h|h
       · exact .inl h
       · exact .inr (by simp [h])
   split at h
   · rcases List.mem_cons.1 h with rfl|h
     · exact .inl rfl
     · exact .inr (by simp [h])
   · rcases List.mem_cons.1 h with rfl|h
     · exact .inl rfl
     · exact .inr h
theorem JS {m:Mov}:∀ {ms:List Mov},Jg ms→Jg (putM ms m)
 | [],_=>by simp [putM,Jg]
 | y ::ys,h=>by
   have h':=List.pairwise_cons.1 h;simp only [putM];split
   · rename_i hb;refine List.pairwise_cons.2 ⟨fun z hz=>?_,JS h'.2⟩;rcases Z1h hz with rfl|hz
     · exact hb
     · exact h'.1 z hz
   split
   · rename_i hb he;exact List.pairwise_cons.2 ⟨fun z hz=>by rw [←he];exact h'.1 z hz,h'.2⟩
   · rename_i hb he;have hlt:W3 m.pa y.pa=true:=by
       rcases Bool.eq_false_or_eq_true (W3 m.pa y.pa)with h|h
       · exact h
       · exact absurd (ZM (by simpa using hb) h) he
     refine List.pairwise_cons.2 ⟨fun z hz=>?_,h⟩;rcases List.mem_cons.1 hz with rfl|hz
     · exact hlt
     · exact Yj hlt (h'.1 z hz)
theorem Z4B {m:Mov} {p:Par}:∀ {ms:List Mov},Zb (putM ms m) p=if m.pa=p then some m else Zb ms p
 | []=>by
   by_cases h:m.pa=p <;> simp [putM,Zb,h]
 | y ::ys=>by
   simp only [putM];split
   · rename_i hb;have hne:y.pa≠m.pa:=fun e=>by rw [e,Wa]at hb;cases hb
     have ih:=Z4B (m:=m) (p:=p) (ms:=ys);simp only [Zb]at ih;simp only [Zb,List.find?_cons];by_cases hy:y.pa=p
     · have:m.pa≠p:=fun e=>hne (hy.trans e.symm)
       simp [hy,this]
     · simp [hy,ih]
   split
   · rename_i hb he;simp only [Zb,List.find?_cons];by_cases hm:m.pa=p
     · simp [hm]
     · have:¬y.pa=p:=fun e=>hm (he▸e)
       simp [hm,this]
   · simp only [Zb,List.find?_cons];by_cases hm:m.pa=p <;> simp [hm]
theorem Z1S {x:Mov}:∀ {b a:List Mov},x∈Zh a b→x∈a∨x∈b
 | [],a,h=>.inl h
 | m ::b,a,h=>by
   rcases Z1S (b:=b) (a:=putM a m) h with h|h
   · rcases Z1h h with rfl|h
     · exact .inr (by simp)
     · exact .inl h
   · exact .inr (by simp [h])
theorem ZT:∀ {b a:List Mov},Jg a→Jg (Zh a b)
 | [],a,h=>h
 |m::b,a,h=>ZT (b:=b) (JS h)
theorem Z2n {p:Par}:∀ {b a:List Mov},(b.map (·.pa)).Nodup→Zb (Zh a b) p=(Zb b p).or (Zb a p)
 | [],a,_=>by simp [Zh,Zb]
 | m ::b,a,hn=>by
   simp only [List.map_cons,List.nodup_cons]at hn;have ih:=Z2n (p:=p) (b:=b) (a:=putM a m) hn.2;show Zb (Zh (putM a m) b) p=_;rw [ih,Z4B];by_cases hm:m.pa=p
   · have hb:Zb b p=none:=List.find?_eq_none.2 fun x hx=>by
       simp only [decide_eq_true_eq];intro e;exact hn.1 (List.mem_map.2 ⟨x,hx,e.trans hm.symm⟩)
     have hc:Zb (m::b) p=some m:=by simp [Zb,hm]
     rw [hb,hc];simp [hm]
   · have hc:Zb (m::b) p=Zb b p:=by simp [Zb,hm]
     rw [hc];simp [hm]
theorem Z2M (m:Mov):∀ms:List Mov,ms.length≤(putM ms m).length∧(putM ms m).length≤ms.length+1
 | []=>by simp [putM]
 | y::ys=>by
   have:=Z2M m ys;simp only [putM];split
   · simp only [List.length_cons];omega
   split <;> simp
theorem Z4C:∀(b a:List Mov),a.length≤(Zh a b).length∧(Zh a b).length≤a.length+b.length
 | [],a=>by simp [Zh]
 | m::b,a=>by
   have h1:=Z2M m a;have h2:=Z4C b (putM a m);show a.length≤(Zh (putM a m) b).length∧(Zh (putM a m) b).length≤_;simp only [List.length_cons];omega
theorem Z8j {m:Mov}:∀ {ms:List Mov},Jg ms→
   ((∃x,Zb ms m.pa=some x)∧low ms m.pa < ms.length∧putM ms m=ms.set (low ms m.pa) m)∨(Zb ms m.pa=none∧low ms m.pa≤ms.length∧putM ms m=ms.take (low ms m.pa)++m::ms.drop (low ms m.pa))
 | [],_=>.inr (by simp [Zb,putM,low])
 | y ::ys,h=>by
   have h':=List.pairwise_cons.1 h;by_cases hb:W3 y.pa m.pa=true
   · have hne:y.pa≠m.pa:=fun e=>by rw [e,Wa]at hb;cases hb
     have e1:low (y::ys) m.pa=low ys m.pa+1:=by simp [low,hb]
     have e2:putM (y::ys) m=y::putM ys m:=by simp [putM,hb]
     have e3:Zb (y::ys) m.pa=Zb ys m.pa:=by simp [Zb,hne]
     rw [e1,e2,e3];rcases Z8j (m:=m) h'.2 with⟨g1,g2,g3⟩|⟨g1,g2,g3⟩
     · exact .inl ⟨g1,by simp;omega,by rw [g3];rfl⟩
     · exact .inr ⟨g1,by simp;omega,by rw [g3];rfl⟩
   · have hb':W3 y.pa m.pa=false:=by simpa using hb
     have e1:low (y::ys) m.pa=0:=by simp [low,hb']
     by_cases he:y.pa=m.pa
     · exact .inl ⟨⟨y,by simp [Zb,he]⟩,by rw [e1];simp,by rw [e1];simp [putM,hb',he,Wa]⟩
     · have hlt:W3 m.pa y.pa=true:=by
         rcases Bool.eq_false_or_eq_true (W3 m.pa y.pa)with h|h
         · exact h
         · exact absurd (ZM hb' h) he
       refine .inr ⟨List.find?_eq_none.2 fun z hz=>?_,by rw [e1];simp,by rw [e1];simp [putM,hb',he]⟩;simp only [decide_eq_true_eq];rcases List.mem_cons.1 hz with rfl|hz
       · exact he
       · intro e;have:=Yj hlt (h'.1 z hz);rw [e,Wa]at this;cases this
def Wg (m:Mov):List Mov→List Mov×Bool→List Mov×Bool
 | [],a=>a
 | x::xs,a=>
   let a1:=if !a.2&&!W3 x.pa m.pa then(a.1++[m],true)else a
   Wg m xs (if x.pa=m.pa then a1 else(a1.1++[x],a1.2))
def Zan (ms:List Mov) (m:Mov):List Mov:=if(Wg m ms ([],false)).2 then(Wg m ms ([],false)).1 else(Wg m ms ([],false)).1++[m]
theorem Z01 {m:Mov}:∀ {xs acc:List Mov},(∀x∈xs,x.pa≠m.pa)→Wg m xs (acc,true)=(acc++xs,true)
 | [],acc,_=>by simp [Wg]
 | x::xs,acc,h=>by
   have hx:=h x (by simp);simp only [Wg,Bool.not_true,Bool.false_and,Bool.false_eq_true,if_false,if_neg hx];rw [Z01 fun y hy=>h y (by simp [hy])];simp
theorem Z17 {m:Mov}:∀ {xs acc:List Mov},Jg xs→(if(Wg m xs (acc,false)).2 then(Wg m xs (acc,false)).1 else(Wg m xs (acc,false)).1++[m])=acc++putM xs m
 | [],acc,_=>by simp [Wg,putM]
 | x ::xs,acc,h=>by
   have h':=List.pairwise_cons.1 h;by_cases hb:W3 x.pa m.pa=true
   · have hne:x.pa≠m.pa:=fun e=>by rw [e,Wa]at hb;cases hb
     have e1:Wg m (x::xs) (acc,false)=Wg m xs (acc++[x],false):=by simp [Wg,hb,hne]
     rw [e1,Z17 h'.2];simp [putM,hb]
   · have hb':W3 x.pa m.pa=false:=by simpa using hb
     have later:∀y∈xs,y.pa≠m.pa:=fun y hy e=>by
       have:=h'.1 y hy;rw [e,hb']at this;cases this
     by_cases he:x.pa=m.pa
     · have e1:Wg m (x::xs) (acc,false)=Wg m xs (acc++[m],true):=by simp [Wg,hb',he,Wa]
       rw [e1,Z01 later];simp [putM,he,Wa]
     · have e1:Wg m (x::xs) (acc,false)=Wg m xs (acc++[m]++[x],true):=by simp [Wg,hb',he]
       rw [e1,Z01 later];simp [putM,hb',he]
theorem Zam {ms:List Mov} {m:Mov} (h:Jg ms):Zan ms m=putM ms m:=by
 have:=Z17 (m:=m) (acc:=[]) h;simpa [Zan]using this
structure RC (n:Nat) (ms:List Mov):Prop where
 rising:Jg ms
 each:∀m∈ms,Z3 m.pa=0∧J8 m.va=0∧1≤m.part∧m.part≤(n:Int)
theorem Z4z {xs:List Mov}:∀(cs:List Mov) (i:Nat),cs=xs.drop i→(∀m∈cs,Z3 m.pa=0∧J8 m.va=0∧1≤m.part∧m.part≤4)→(∀j,i≤j→0 < j→(hj:j < xs.length)→W3 (xs[j - 1]'(by omega)).pa (xs[j]).pa=true)→Yg xs i cs=0
 | [],_,_,_,_=>rfl
 | c ::cs,i,he,h1,h2=>by
   have hlt:i < xs.length:=by
     rcases Nat.lt_or_ge i xs.length with h|h
     · exact h
     · rw [List.drop_eq_nil_of_le h]at he;cases he
   rw [List.drop_eq_getElem_cons hlt]at he;obtain⟨rfl,rfl⟩:=List.cons.inj he;have hc:=h1 _ List.mem_cons_self;simp only [Yg,hc.1,hc.2.1,ne_eq,not_true_eq_false,if_false];rw [if_neg (by omega),if_neg]
   · exact Z4z _ (i+1) rfl (fun m hm=>h1 m (List.mem_cons_of_mem _ hm)) (fun j a b hj=>h2 j (by omega) b hj)
   · rintro⟨h0,hb⟩;have:=h2 i (Nat.le_refl _) h0 hlt;rw [getElem!_pos xs (i - 1) (by omega)]at hb;rw [this]at hb;cases hb
theorem Z2k {xs:List Mov}:∀(cs:List Mov) (i:Nat),Yg xs i cs=0→∀m∈cs,Z3 m.pa=0∧J8 m.va=0∧1≤m.part∧m.part≤4
 | [],_,_=>by simp
 | c::cs,i,h=>by
   simp only [Yg]at h;split at h
   · rename_i hc;exact absurd h hc
   rename_i h1;split at h
   · rename_i hc;exact absurd h hc
   rename_i h2;split at h
   · cases h
   rename_i h3;split at h
   · cases h
   intro m hm;rcases List.mem_cons.1 hm with rfl|hm
   · exact⟨by simpa using h1,by simpa using h2,by omega,by omega⟩
   · exact Z2k cs (i+1) h m hm
theorem Z1Q (n:Nat):∀ms:List Mov,YO n ms=true↔∀m∈ms,m.part≤(n:Int)
 | []=>by simp [YO]
 | m ::ms=>by
   have ih:=Z1Q n ms;simp only [YO,List.mem_cons,forall_eq_or_imp, ←ih];split
   · constructor
     · intro h;cases h
     · rintro⟨h,_⟩;omega
   · constructor
     · intro h;exact⟨by omega,h⟩
     · exact fun h=>h.2
theorem Z9e {ms:List Mov} {n:Nat} (hn:n≤4) (h:RC n ms) (hl:ms.length≤128):Wi ms=0:=by
 unfold Wi;rw [if_neg (by omega)];refine Z4z ms 0 rfl (fun m hm=>?_) fun j _ h0 hj=>?_
 · have:=h.each m hm;exact⟨this.1,this.2.1,this.2.2.1,by omega⟩
 · exact List.pairwise_iff_getElem.1 h.rising (j - 1) j (by omega) hj (by omega)
theorem Z3S {c:Cue} (h:J5 c=0):Z4 c.num=0∧Yv c.label=0∧Wi c.moves=0∧Wq c.parts=0∧YO c.parts.length c.moves=true∧YD c=0:=by
 unfold J5 at h;split at h
 · rename_i h1;exact absurd h h1
 rename_i h1;split at h
 · rename_i h1;exact absurd h h1
 rename_i h2;split at h
 · rename_i h1;exact absurd h h1
 rename_i h3;split at h
 · rename_i h1;exact absurd h h1
 rename_i h4;split at h
 · cases h
 rename_i h5;exact⟨by simpa using h1,by simpa using h2,by simpa using h3,by simpa using h4,by simpa using h5,h⟩
theorem Z3k {l:List Tim} (h:Wq l=0):1≤l.length∧l.length≤4:=by
 unfold Wq at h;split at h
 · cases h
 split at h
 · cases h
 · omega
structure RightC (c:Cue):Prop where
 rc:RC c.parts.length c.moves
 len:c.moves.length≤128
 one:1≤c.parts.length
 four:c.parts.length≤4
theorem Z0H {c:Cue} (h:J5 c=0):RightC c:=by
 obtain⟨_,_,h3,h4,h5,_⟩:=Z3S h;obtain⟨p1,p2⟩:=Z3k h4;have hR:=Z3f h3;refine⟨⟨hR.rising,fun m hm=>?_⟩,hR.len,p1,p2⟩;have h128:¬128 < c.moves.length:=by have:=hR.len;omega
 unfold Wi at h3;rw [if_neg h128]at h3;have:=Z2k c.moves 0 h3 m hm;exact⟨this.1,this.2.1,this.2.2.1,(Z1Q _ _).1 h5 m hm⟩
theorem Z0g {c:Cue} {ms:List Mov} (h:J5 c=0) (hr:RC c.parts.length ms) (hl:ms.length≤128):J5 {c with moves:=ms}=0:=by
 obtain⟨h1,h2,_,h4,_,h6⟩:=Z3S h;have h3:=Z9e (Z3k h4).2 hr hl;have h5:YO c.parts.length ms=true:=(Z1Q _ _).2 fun m hm=>(hr.each m hm).2.2.2
 have h6':YD {c with moves:=ms}=0:=h6;unfold J5;simp only [h1,h2,h3,h4,h5,ne_eq,not_true_eq_false,if_false,Bool.true_eq_false];exact h6'
theorem Z5Q {c:Cue} {b:Bool} (h:J5 c=0):J5 {c with block:=b}=0:=h
theorem RC.merge {n:Nat} {a b:List Mov} (h:RC n a) (hb:∀m∈b,Z3 m.pa=0∧J8 m.va=0∧1≤m.part∧m.part≤(n:Int)):RC n (Zh a b):=
 ⟨ZT h.rising,fun x hx=>by
   rcases Z1S hx with hx|hx
   · exact h.each x hx
   · exact hb x hx⟩
theorem RC.right {n:Nat} {ms:List Mov} (h:RC n ms) (hl:ms.length≤128):RightM ms:=⟨fun m hm=>(h.each m hm).1,h.rising,hl⟩
theorem RC.filter {n:Nat} {ms:List Mov} (h:RC n ms) (p:Mov→Bool):RC n (ms.filter p):=⟨List.Pairwise.filter p h.rising,fun m hm=>h.each m (List.mem_filter.1 hm).1⟩
theorem Z9p {n:Nat} {es:List Ent} {part:Int} (h:RightE es) (h1:1≤part) (h2:part≤(n:Int)):∀m∈givM es part,Z3 m.pa=0∧J8 m.va=0∧1≤m.part∧m.part≤(n:Int):=by
 intro m hm;obtain⟨e,he,rfl⟩:=List.mem_map.1 hm;exact⟨h.par e he,h.val e he,h1,h2⟩
theorem Z7D {es:List Ent} (h:(es.map (·.pa)).Nodup) (part:Int):((givM es part).map (·.pa)).Nodup:=by
 simpa [givM,Function.comp_def]using h
def Z2F (es:List Ent) (p:Par):Option Ent:=es.find? fun e=>decide (e.pa=p)
def vl:List Cue→Par→Val
 | [],_=>hval
 | c::r,p=>match Zb c.moves p with
   |some m=>m.va
   |none=>if c.block then hval else vl r p
theorem Z32 (cs:List Cue) (p:Par):∀n,n≤cs.length→W7 cs p n=vl (cs.take n).reverse p
 |0,_=>by simp [W7,Z7x,Wn,vl]
 | n+1,h=>by
   have hn:n < cs.length:=by omega
   rw [Z7b hn,Z32 cs p n (by omega),List.take_succ_eq_append_getElem hn,List.reverse_append,List.reverse_singleton,List.singleton_append,vl];cases Zb cs[n].moves p <;> rfl
noncomputable def t192:R:=let x2:T:=.o1 .len (Va 5);let x3:List K:=tmKs;let x4:T:=.o1 .not (Va 6);let x5:List K:=mvKs;let x6:T:=.o2 .le (Vn 0) (Va 3);let x7:T:=.idx (Va 5) (Va 4) 0 .str;let x0:T:=Vl (.idx (Va 5) (Va 4) 1 .str) (Vl (.idx (Va 5) (Va 4) 2 (.slice x5)) (Vl (.idx (Va 5) (Va 4) 3 (.slice x3)) (Vl (.idx (Va 5) (Va 4) 4 .bool) (Vl (.idx (Va 5) (Va 4) 5 .bool) (Vl (.idx (Va 5) (Va 4) 6 (.int .i64)) (Vl (.idx (Va 5) (Va 4) 7 .str) (Vl (.idx (Va 5) (Va 4) 8 (.int .i64)) .lnil)))))));let x1:T:=.o2 .app (.o2 .app (.sub (Va 5) (Vn 0) (Va 3)) (.rep (.o2 (.sub .i64) x2 (Va 3)) (Vl (.str []) (Vl (.str []) (Vl .nils (Vl .nils (Vl (.bool false) (Vl (.bool false) (Vl (Vn 0) (Vl (.str []) (Vl (Vn 0) .lnil))))))))))) (.sub (Va 5) x2 x2);.call none (.fn 31) [Va 0,Va 1] [.cell (.int .i64)] (.ite (.o2 .eq (Va 2) (Vn (-1))) (.ret [.own 9 (Va 0)]) (.loop 0 [Va 2,.o2 (.add .i64) (Va 2) (Vn 1),Va 0] [.int .i64,.int .i64,.slice [.str,.str,.slice x5,.slice x3,.bool,.bool,.int .i64,.str,.int .i64]] (.fact (.o2 .le x2 (Vn 140737488355328)) (.ite (.o2 .lt (Va 4) x2) (.need (.o2 .le (Vn 0) (Va 4)) (.call none (.val (Va 1)) [Vl x7 x0] [.cell .bool] (.need (.ite x4 x6 (.bool true)) (.need (.ite x4 (.o2 .lt (Va 3) x2) (.bool true)) (.lets [.ite x4 (.o2 (.add .i64) (Va 3) (Vn 1)) (Va 3),.ite x4 (.upd (Va 5) (Va 3) 0 (Vl x7 x0)) (Va 5)] (.again 0 [Va 7,.o2 (.add .i64) (Va 4) (Vn 1),Va 8])))))) (.need x6 (.need (.o2 .le (Va 3) x2) (.need (.o2 .le (Va 3) (.o1 .len x1)) (.ret [.own 9 (.sub x1 (Vn 0) (Va 3))]))))))))
theorem ZdM:fnXO Tryz.prog mdA 192 [.own J9,.cell .fn]=t192:=by kernel_rfl
def kept {X:Type} (p:X→Bool) (l:List X) (n:Nat):List X:=(l.take n).filter fun x=>!p x
theorem Z1m {X:Type} (p:X→Bool) {l:List X} {n:Nat} (h:n < l.length):kept p l (n+1)=kept p l n++if p l[n]then []else [l[n]]:=by
 unfold kept;rw [List.take_succ_eq_append_getElem h,List.filter_append];congr 1;by_cases hp:p l[n]=true
 · simp [hp]
 · simp [hp]
theorem Z8s {X:Type} (p:X→Bool) (l:List X):kept p l l.length=l.filter fun x=>!p x:=by simp [kept]
theorem Z9k {X:Type} {p:X→Bool} {l:List X} {j:Nat} (hj:j < l.length) (h1:p l[j]=true) (h2:∀k (hk:k < j),p (l[k]'(by omega))=false):kept p l (j+1)=l.take j:=by
 rw [Z1m p hj,if_pos h1,List.append_nil];unfold kept;refine List.filter_eq_self.2 fun x hx=>?_
 obtain⟨k,hk,rfl⟩:=List.getElem_of_mem hx;simp only [List.length_take]at hk;rw [List.getElem_take,h2 k (by omega)];rfl
structure Swept {X:Type} (p:X→Bool) (l a:List X) (n:Nat):Prop where
 len:a.length=l.length
 le:n≤l.length
 lt:(kept p l n).length < n
 head:a.take (kept p l n).length=kept p l n
 rest:a.drop n=l.drop n
theorem Swept.get {X:Type} {p:X→Bool} {l a:List X} {n:Nat} (h:Swept p l a n) (hn:n < l.length):a[n]'(by rw [h.len];exact hn)=l[n]:=by
 have h1:=h.rest;have hn':n < a.length:=by rw [h.len];exact hn
 rw [List.drop_eq_getElem_cons hn,List.drop_eq_getElem_cons hn']at h1;exact(List.cons.inj h1).1
theorem Swept.skip {X:Type} {p:X→Bool} {l a:List X} {n:Nat} (h:Swept p l a n) (hn:n < l.length) (hp:p l[n]=true):Swept p l a (n+1):=by
 have e:kept p l (n+1)=kept p l n:=by rw [Z1m p hn,if_pos hp,List.append_nil]
 exact⟨h.len,hn,by rw [e];have:=h.lt;omega,by rw [e];exact h.head,by rw [←List.drop_drop, ←List.drop_drop,h.rest]⟩
theorem Swept.keep {X:Type} {p:X→Bool} {l a:List X} {n:Nat} (h:Swept p l a n) (hn:n < l.length) (hp:p l[n]=false):Swept p l (a.set (kept p l n).length l[n]) (n+1)∧(kept p l (n+1)).length=(kept p l n).length+1:=by
 have e:kept p l (n+1)=kept p l n++[l[n]]:=by rw [Z1m p hn,if_neg (by simp [hp])]
 have el:(kept p l (n+1)).length=(kept p l n).length+1:=by rw [e];simp
 have hlt:=h.lt;refine⟨⟨by simp [h.len],hn,by rw [el];omega,?_,?_⟩,el⟩
 · rw [el,List.take_succ_eq_append_getElem (by simp [h.len];omega),e];rw [List.getElem_set_self,List.take_set_of_le (Nat.le_refl _),h.head]
 · rw [List.drop_set_of_lt (by omega), ←List.drop_drop, ←List.drop_drop,h.rest]
theorem Z4h {A R B:List (List D)} {i:Nat} (h:i≤A.length):(A.take i++R++B).take i=A.take i:=by
 rw [List.append_assoc,List.take_append_of_le_length (by simp;omega),List.take_take,Nat.min_self]
theorem Za5 {l:List Cue} {k:Nat} (hk:k < l.length) (e:Cue):((l.map Cue.enc).modify k fun x=>Ze x 0 e.enc)=(l.set k e).map Cue.enc:=by
 apply List.ext_getElem?;intro i;rw [List.getElem?_modify,List.getElem?_map,List.getElem?_map,List.getElem?_set];by_cases h:k=i
 · subst h;simp [hk,Ze,Cue.enc]
 · simp [h]
theorem Zbc:ContractX Tryz.prog 192 [.own J9,.cell .fn] false fun args K=>∃(l:List Cue) (p:Cue→Bool) (f:FuncId) (caps:List D),(∀m∈l,m.Ok)∧l.length≤1000000∧args=[.own 9 (l.map Cue.enc),.d (.clo f caps)]∧YC Tryz.prog (.clo f caps) Cue.enc l p∧K [.own 9 ((l.filter fun c=>!p c).map Cue.enc)]:=by
 refine .of (by kernel_rfl) ZdM ?_;rintro _ K ⟨l,p,f,caps,hl,hlen,rfl,hsay,hK⟩;have hhas:HasK (.slice J9) (.slice (l.map Cue.enc)):=Y6 fun m hm=>Cue.has (hl m hm)
 refine⟨[.slice (l.map Cue.enc),.clo f caps],rfl,⟨hhas,trivial,trivial⟩,?_⟩;refine Z0 Z0O ⟨l,p,f,caps,hl,by simp only [zz,reduceCtorEq],hsay,_,rfl,?_⟩;simp only [zz,reduceCtorEq];rcases Yz p l 0 with⟨h1,h2⟩|⟨j,hj,h1,h2,h3⟩
 · rw [h1];have e:(l.filter fun c=>!p c)=l:=List.filter_eq_self.2 fun x hx=>by rw [h2 x hx];rfl
   rw [e]at hK;refine⟨fun _=>hK,fun h=>by simp at h⟩
 · rw [h1];simp only [Nat.zero_add];refine⟨fun h=>by omega,fun _=>?_⟩;obtain⟨sf,hf,hs⟩:=hsay;have hks:=Z9k hj h2 h3;rw [JP];refine⟨fun c ys=>c=none∧∃(n:Nat) (a:List Cue),Swept p l a n∧ys=[.int .i64 ((kept p l n).length:Nat),.int .i64 n,.slice (a.map Cue.enc)],
     fun _ ys=>match ys with| [_,.int _ n,_]=>l.length - n.toNat|_=>0,⟨rfl,j+1,l,⟨rfl,hj,by rw [hks];simp <;> omega,by rw [hks];simp <;> omega,rfl⟩,?_⟩,?_⟩
   · rw [hks];simp only [zz,reduceCtorEq];rw [Z1 (by omega)];simp;omega
   rintro _ _ _ ⟨rfl,n,a,hw,rfl⟩;have hle:=hw.le;have hal:=hw.len;have hkl:=hw.lt;simp only [zz,reduceCtorEq,List.length_map,hal,D.rep];intro hcap;refine⟨fun h=>?_,fun h=>?_⟩
   · have hn:n < l.length:=by omega
     have hna:n < a.length:=by omega
     have hga:=hw.get hn;refine⟨by omega,Z7 (FvC.up' (s:=sf) (fv:=.clo f caps) hf) ⟨fun rs=>rs=[.d (.bool (p l[n]))],?_,fun rs h=>⟨[.bool (p l[n])],by rw [h];rfl,by simp [RK.all,RK.kinds,HasKs,HasK],?_⟩⟩⟩
     · simp only [zz,reduceCtorEq,J0 hna,hga,Cue.enc];exact hs l[n] (List.getElem_mem hn)
     · have hia:(kept p l n).length < a.length:=by omega
       have hset:=Za5 hia l[n];simp only [Cue.enc]at hset;cases hp:p l[n]with
       | true=>
         have hsk:=hw.skip hn hp;have ek:kept p l (n+1)=kept p l n:=by rw [Z1m p hn,if_pos hp,List.append_nil]
         simp only [zz,reduceCtorEq,hp];refine⟨⟨rfl,n+1,a,hsk,by rw [ek],by rw [Z1] <;> omega,rfl⟩,?_⟩;rw [Z1 (by omega)];show l.length - ((n:Int)+1).toNat < l.length - ((n:Int)).toNat;omega
       | false=>
         obtain⟨hsk,ek⟩:=hw.keep hn hp;simp only [zz,reduceCtorEq,hp,List.length_map,hia,J0 hna,hga,Cue.enc,D.upd,hset];refine⟨by omega,⟨rfl,n+1,_,hsk,by rw [ek,Z1] <;> omega,by rw [Z1] <;> omega,rfl⟩,?_⟩;rw [Z1 (n:=(n:Int)+1) (by omega)];show l.length - ((n:Int)+1).toNat < l.length - ((n:Int)).toNat;omega
   · have hn:n=l.length:=by omega
     subst hn;rw [Z8s]at hkl ⊢;have hh:=hw.head;rw [Z8s]at hh;generalize hfl:(l.filter fun c=>!p c)=fl at *;have hia:fl.length≤(a.map Cue.enc).length:=by simp;omega
     have e2:((a.map Cue.enc).take fl.length)=fl.map Cue.enc:=by rw [←List.map_take,hh]
     refine⟨by omega,by omega,by simp <;> omega,?_⟩;rw [Z4h hia,e2];exact hK
theorem ZgR {l:List Mov} {k:Nat} (hk:k < l.length) (e:Mov):((l.map Mov.enc).modify k fun x=>Ze x 0 e.enc)=(l.set k e).map Mov.enc:=by
 apply List.ext_getElem?;intro i;rw [List.getElem?_modify,List.getElem?_map,List.getElem?_map,List.getElem?_set];by_cases h:k=i
 · subst h;simp [hk,Ze,Mov.enc]
 · simp [h]
noncomputable def t84:R:=let x1:T:=.o1 .not (Va 18);let x2:T:=.o1 .len (Va 12);let x3:T:=.o1 .len (Va 3);let x0:T:=.o2 .le x3 (Vn 140737488355328);.ite (.ite (.ite (.ite (.ite (.ite (.ite (.o2 .ne (Va 0) (Va 9)) (.bool true) (.o2 .ne (Va 1) (Va 10))) (.bool true) (.o2 .ne (Va 4) (Va 13))) (.bool true) (.o2 .ne (Va 5) (Va 14))) (.bool true) (.o2 .ne (Va 6) (Va 15))) (.bool true) (.o2 .ne (Va 7) (Va 16))) (.bool true) (.o2 .ne (Va 8) (Va 17))) (.ret [.d (.bool false)]) (.call none (.fn 153) [Va 2,Va 11] [.cell .bool] (.fact (.ite (.o1 .not x1) x0 (.bool true)) (.fact (.ite (.o1 .not x1) (.o2 .le x2 (Vn 140737488355328)) (.bool true)) (.ite (.ite x1 (.bool true) (.o2 .ne x3 x2)) (.ret [.d (.bool false)]) (.loop 0 [Vn 0] [.int .i64] (.fact x0 (.ite (.o2 .lt (Va 19) x3) (.need (.o2 .le (Vn 0) (Va 19)) (.need (.o2 .lt (Va 19) x2) (.ite (.o1 .not (.o2 .band (.o2 .eq (.idx (Va 3) (Va 19) 0 (.int .i64)) (.idx (Va 12) (Va 19) 0 (.int .i64))) (.o2 .band (.o2 .eq (.idx (Va 3) (Va 19) 1 (.int .i64)) (.idx (Va 12) (Va 19) 1 (.int .i64))) (.o2 .band (.o2 .eq (.idx (Va 3) (Va 19) 2 (.int .i64)) (.idx (Va 12) (Va 19) 2 (.int .i64))) (.o2 .band (.o2 .eq (.idx (Va 3) (Va 19) 3 (.int .i64)) (.idx (Va 12) (Va 19) 3 (.int .i64))) (.o2 .band (.o2 .eq (.idx (Va 3) (Va 19) 4 (.int .i64)) (.idx (Va 12) (Va 19) 4 (.int .i64))) (.o2 .band (.o2 .eq (.idx (Va 3) (Va 19) 5 (.int .i64)) (.idx (Va 12) (Va 19) 5 (.int .i64))) (.bool true)))))))) (.ret [.d (.bool false)]) (.again 0 [.o2 (.add .i64) (Va 19) (Vn 1)])))) (.ret [.d (.bool true)]))))))))
theorem ZfY:fnO Tryz.prog mdA 84 [.agg J9,.agg J9]=t84:=by kernel_rfl
noncomputable def t153:R:=let x0:T:=.o1 .len (Va 0);let x1:T:=.o1 .len (Va 1);.fact (.o2 .le x0 (Vn 140737488355328)) (.fact (.o2 .le x1 (Vn 140737488355328)) (.ite (.o2 .ne x0 x1) (.ret [.d (.bool false)]) (.loop 0 [Vn 0] [.int .i64] (.ite (.o2 .lt (Va 2) x0) (.need (.o2 .le (Vn 0) (Va 2)) (.need (.o2 .lt (Va 2) x1) (.ite (.o1 .not (.o2 .band (.o2 .band (.o2 .eq (.idx (Va 0) (Va 2) 0 (.int .i64)) (.idx (Va 1) (Va 2) 0 (.int .i64))) (.o2 .band (.o2 .eq (.idx (Va 0) (Va 2) 1 (.int .i64)) (.idx (Va 1) (Va 2) 1 (.int .i64))) (.bool true))) (.o2 .band (.o2 .band (.o2 .eq (.idx (Va 0) (Va 2) 2 (.int .i64)) (.idx (Va 1) (Va 2) 2 (.int .i64))) (.o2 .band (.o2 .eq (.idx (Va 0) (Va 2) 3 (.int .i64)) (.idx (Va 1) (Va 2) 3 (.int .i64))) (.bool true))) (.o2 .band (.o2 .eq (.idx (Va 0) (Va 2) 4 (.int .i64)) (.idx (Va 1) (Va 2) 4 (.int .i64))) (.bool true))))) (.ret [.d (.bool false)]) (.again 0 [.o2 (.add .i64) (Va 2) (Vn 1)])))) (.ret [.d (.bool true)])))))
theorem Zeg:fnO Tryz.prog mdA 153 [.cell (.slice mvKs),.cell (.slice mvKs)]=t153:=by kernel_rfl
noncomputable def t25:R:=let x0:T:=.o1 .not (.ite (.o2 .ne (Va 0) (Va 3)) (.bool true) (.o2 .ne (Va 1) (Va 4)));let x1:List K:=tmKs;let x3:List K:=mvKs;let x4:T:=.o1 .len (Va 5);let x5:T:=.o1 .len (Va 2);let x2:T:=.o2 .le x5 (Vn 140737488355328);.fact (.ite x0 x2 (.bool true)) (.fact (.ite x0 (.o2 .le x4 (Vn 140737488355328)) (.bool true)) (.ite (.ite (.ite (.o2 .ne (Va 0) (Va 3)) (.bool true) (.o2 .ne (Va 1) (Va 4))) (.bool true) (.o2 .ne x5 x4)) (.ret [.d (.bool false)]) (.loop 0 [Vn 0] [.int .i64] (.fact x2 (.ite (.o2 .lt (Va 6) x5) (.need (.o2 .le (Vn 0) (Va 6)) (.need (.o2 .lt (Va 6) x4) (.call none (.fn 84) [Vl (.idx (Va 2) (Va 6) 0 .str) (Vl (.idx (Va 2) (Va 6) 1 .str) (Vl (.idx (Va 2) (Va 6) 2 (.slice x3)) (Vl (.idx (Va 2) (Va 6) 3 (.slice x1)) (Vl (.idx (Va 2) (Va 6) 4 .bool) (Vl (.idx (Va 2) (Va 6) 5 .bool) (Vl (.idx (Va 2) (Va 6) 6 (.int .i64)) (Vl (.idx (Va 2) (Va 6) 7 .str) (Vl (.idx (Va 2) (Va 6) 8 (.int .i64)) .lnil)))))))),Vl (.idx (Va 5) (Va 6) 0 .str) (Vl (.idx (Va 5) (Va 6) 1 .str) (Vl (.idx (Va 5) (Va 6) 2 (.slice x3)) (Vl (.idx (Va 5) (Va 6) 3 (.slice x1)) (Vl (.idx (Va 5) (Va 6) 4 .bool) (Vl (.idx (Va 5) (Va 6) 5 .bool) (Vl (.idx (Va 5) (Va 6) 6 (.int .i64)) (Vl (.idx (Va 5) (Va 6) 7 .str) (Vl (.idx (Va 5) (Va 6) 8 (.int .i64)) .lnil))))))))] [.cell .bool] (.ite (.o1 .not (Va 7)) (.ret [.d (.bool false)]) (.again 0 [.o2 (.add .i64) (Va 6) (Vn 1)]))))) (.ret [.d (.bool true)]))))))
theorem ZgH:fnO Tryz.prog mdA 25 [.agg liKs,.agg liKs]=t25:=by kernel_rfl
theorem Z69:Contract Tryz.prog 153 fun args K=>∃(a b:List Mov),(∀m∈a,m.Ok)∧(∀m∈b,m.Ok)∧args=[.slice (a.map Mov.enc),.slice (b.map Mov.enc)]∧K [.d (.bool (decide (a=b)))]:=by
 refine .of (by kernel_rfl) Zeg ?_;rintro _ K ⟨a,b,ha,hb,rfl,hK⟩ hsm;refine⟨[.slice (a.map Mov.enc),.slice (b.map Mov.enc)],rfl,⟨Y6 fun m hm=>Mov.has (ha m hm),Y6 fun m hm=>Mov.has (hb m hm),trivial⟩,?_⟩;simp only [zz,reduceCtorEq,t153,List.length_map];refine fun h1 h2=>⟨fun h=>?_,fun h=>?_⟩
 · have:a≠b:=by rintro rfl;simp at h
   simpa [this]using hK
 · have hl:a.length=b.length:=by
     have h':(a.length:Int)=b.length:=by simpa using h
     omega
   refine Jb a (fun i l' (_:Unit)=>decide (l'=b.drop i)) (fun i _=>[.int .i64 i]) () (decide (a=b)) (by simp) 0 (fun _ _=>rfl) rfl ?_ ?_
   · intro i hi _ hgo;have hib:i < b.length:=by omega
     rw [List.drop_eq_getElem_cons hib]at hgo;simp only [List.cons.injEq]at hgo;simp only [zz,reduceCtorEq,List.length_map,hi,hib,J0 hi,J0 hib,Mov.enc];have key:(a[i]=b[i])↔((a[i]).pa.ch=(b[i]).pa.ch∧(a[i]).pa.at_=(b[i]).pa.at_)∧((a[i]).va.pal=(b[i]).va.pal∧(a[i]).va.lev=(b[i]).va.lev)∧(a[i]).part=(b[i]).part:=by
       generalize a[i]=x;generalize b[i]=y;obtain⟨⟨x1,x2⟩,⟨x3,x4⟩,x5⟩:=x;obtain⟨⟨y1,y2⟩,⟨y3,y4⟩,y5⟩:=y;simp
     refine⟨by omega,fun h=>?_,fun h=>⟨(),by rw [Z1] <;> omega,?_⟩⟩
     · have h':¬a[i]=b[i]:=by rw [key];grind
       have:decide (a=b)=false:=by rw [←hgo];simp [h']
       rw [this]at hK;exact hK
     · have h':a[i]=b[i]:=by rw [key];grind
       simpa [h']using hgo
   · intro _ hgo;simp only [zz,reduceCtorEq,List.length_map];have:decide (a=b)=true:=by rw [←hgo,hl,List.drop_length];simp
     rw [this]at hK;exact hK
def Z4o (a b:Cue):Bool:=decide (a.num=b.num∧a.label=b.label∧a.block=b.block∧a.mark=b.mark∧a.follow=b.follow∧a.link=b.link∧a.loops=b.loops)&&decide (a.moves=b.moves)&&decide (a.parts=b.parts)
theorem Za7:Contract Tryz.prog 84 fun args K=>∃(a b:Cue),a.Ok∧b.Ok∧args=[.agg a.enc,.agg b.enc]∧K [.d (.bool (Z4o a b))]:=by
 refine .of (by kernel_rfl) ZfY ?_;rintro _ K ⟨a,b,ha,hb,rfl,hK⟩ hsm;refine⟨a.enc++b.enc,rfl,by exact(Cue.has ha).append (Cue.has hb),?_⟩;simp only [Z4o]at hK;simp only [zz,reduceCtorEq,t84,Cue.enc];by_cases h:a.num=b.num∧a.label=b.label∧a.block=b.block∧a.mark=b.mark∧a.follow=b.follow∧a.link=b.link∧a.loops=b.loops;rotate_left
 · simp only [h,decide_false,Bool.false_and]at hK;refine⟨fun _=>hK,fun hh=>absurd ?_ h⟩;simpa [and_assoc]using hh
 obtain⟨e1,e2,e3,e4,e5,e6,e7⟩:=h;simp only [e1,e2,e3,e4,e5,e6,e7,and_self,decide_true,Bool.true_and]at hK ⊢;refine⟨fun h=>by simp at h,fun _=>?_⟩;refine Z0 Z69 ⟨a.moves,b.moves,ha.moves,hb.moves,rfl,_,rfl,?_⟩;by_cases hm:a.moves=b.moves;rotate_left
 · simp only [hm,decide_false,Bool.false_and]at hK;simp only [zz,reduceCtorEq,hm,decide_false];exact hK
 simp only [hm,decide_true,Bool.true_and]at hK;simp only [zz,reduceCtorEq,hm,decide_true,List.length_map];refine fun h1 h2=>⟨fun h=>?_,fun h=>?_⟩
 · have:a.parts≠b.parts:=by intro e;rw [e]at h;simp at h
   simpa [this]using hK
 · have hl:a.parts.length=b.parts.length:=by
     have h':(a.parts.length:Int)=b.parts.length:=by simpa using h
     omega
   refine Jb a.parts (fun i l' (_:Unit)=>decide (l'=b.parts.drop i)) (fun i _=>[.int .i64 i]) () (decide (a.parts=b.parts)) (by simp) 0 (fun _ _=>rfl) rfl ?_ ?_
   · intro i hi _ hgo;have hib:i < b.parts.length:=by omega
     rw [List.drop_eq_getElem_cons hib]at hgo;simp only [List.cons.injEq]at hgo;simp only [zz,reduceCtorEq,List.length_map,hi,hib,J0 hi,J0 hib,Tim.enc];have key:(a.parts[i]=b.parts[i])↔((a.parts[i]).up=(b.parts[i]).up∧(a.parts[i]).down=(b.parts[i]).down∧(a.parts[i]).pos=(b.parts[i]).pos∧(a.parts[i]).col=(b.parts[i]).col∧(a.parts[i]).beam=(b.parts[i]).beam∧(a.parts[i]).delay=(b.parts[i]).delay):=by
       generalize a.parts[i]=x;generalize b.parts[i]=y;obtain⟨x1,x2,x3,x4,x5,x6⟩:=x;obtain⟨y1,y2,y3,y4,y5,y6⟩:=y;simp
     refine fun _=>⟨by omega,fun h=>?_,fun h=>⟨(),by rw [Z1] <;> omega,?_⟩⟩
     · have h':¬a.parts[i]=b.parts[i]:=by rw [key];grind
       have:decide (a.parts=b.parts)=false:=by rw [←hgo];simp [h']
       rw [this]at hK;exact hK
     · have h':a.parts[i]=b.parts[i]:=by rw [key];grind
       simpa [h']using hgo
   · intro _ hgo;simp only [zz,reduceCtorEq,List.length_map];have:decide (a.parts=b.parts)=true:=by rw [←hgo,hl,List.drop_length];simp
     rw [this]at hK;exact fun _=>hK
theorem Z8W (a b:Cue):Z4o a b=true↔a=b:=by
 obtain⟨a1,a2,a3,a4,a5,a6,a7,a8,a9⟩:=a;obtain⟨b1,b2,b3,b4,b5,b6,b7,b8,b9⟩:=b;simp only [Z4o,Bool.and_eq_true,decide_eq_true_eq,Cue.mk.injEq];constructor
 · rintro⟨⟨⟨h1,h2,h3,h4,h5,h6,h7⟩,h8⟩,h9⟩;exact⟨h1,h2,h8,h9,h3,h4,h5,h6,h7⟩
 · rintro⟨h1,h2,h8,h9,h3,h4,h5,h6,h7⟩;exact⟨⟨⟨h1,h2,h3,h4,h5,h6,h7⟩,h8⟩,h9⟩
def Z29:List Cue→List Cue→Bool
 | [],_=>true
 |a::as_,b::bs=>if Z4o a b then Z29 as_ bs else false
 |_::_,[]=>true
def Z8f (a b:Lis):Bool:=if a.num≠b.num∨a.prio≠b.prio∨a.cues.length≠b.cues.length then false else Z29 a.cues b.cues
theorem Z6a:Contract Tryz.prog 25 fun args K=>∃(a b:Lis),a.Ok∧b.Ok∧args=[.agg a.enc,.agg b.enc]∧K [.d (.bool (Z8f a b))]:=by
 refine .of (by kernel_rfl) ZgH ?_;rintro _ K ⟨a,b,ha,hb,rfl,hK⟩ hsm;refine⟨a.enc++b.enc,rfl,by exact Z4O ha (Lis.has hb),?_⟩;simp only [Z8f]at hK;simp only [zz,reduceCtorEq,t25,Lis.enc,List.length_map];refine fun _ _=>⟨fun h=>?_,fun h=>?_⟩
 · rw [if_pos (by grind)]at hK;exact hK
 have h':a.num=b.num∧a.prio=b.prio∧a.cues.length=b.cues.length:=by grind
 rw [if_neg (by grind)]at hK;have hl:=h'.2.2;refine Jb a.cues (fun i l' (_:Unit)=>Z29 l' (b.cues.drop i)) (fun i _=>[.int .i64 i]) () (Z29 a.cues b.cues) rfl 0 (fun _ _=>rfl) rfl ?_ ?_
 · intro i hi _ hgo;have hib:i < b.cues.length:=by omega
   rw [List.drop_eq_getElem_cons hib]at hgo;simp only [Z29]at hgo;simp only [zz,reduceCtorEq,List.length_map,hi,hib];refine fun _=>⟨by omega,Z0 Za7 ⟨a.cues[i],b.cues[i],ha.cues _ (List.getElem_mem hi),hb.cues _ (List.getElem_mem hib),by simp only [zz,reduceCtorEq,J0 hi,J0 hib,Cue.enc],_,rfl,?_⟩⟩
   simp only [zz,reduceCtorEq];cases hs:Z4o a.cues[i] b.cues[i]
   · rw [hs]at hgo;rw [←hgo]at hK;exact⟨fun _=>hK,fun h=>by simp at h⟩
   · rw [hs]at hgo;exact⟨fun h=>by simp at h,fun _=>⟨(),by rw [Z1] <;> omega,hgo⟩⟩
 · intro _ hgo;simp only [Z29]at hgo;simp only [zz,reduceCtorEq,List.length_map];rw [←hgo]at hK;exact fun _=>hK
theorem Z3b:∀cs:List Cue,Z29 cs cs=true
 | []=>rfl
 | c::cs=>by
   simp only [Z29,(Z8W c c).2 rfl,if_true];exact Z3b cs
theorem Z3c (l:Lis):Z8f l l=true:=by simp [Z8f,Z3b]
noncomputable def t193:R:=.ret [.d (.o2 .eq (Va 0) (.fld (Va 9) 0 .str))]
theorem ZdL:fnO Tryz.prog mdA 193 ([.agg J9]++[.cell (.ptr [.str])])=t193:=by kernel_rfl
theorem c193:J2 Tryz.prog 193=true:=by kernel_rfl
noncomputable def t126:R:=let x0:List K:=J9;.call none (.fn 137) [Va 2] [.own x0] (.callX false 192 [.own 9 (Va 4),.d (.clo 193 (Vl (.ptr (Vl (Va 3) .lnil)) .lnil))] [.own x0] (.ret [.own 9 (Va 5)]))
theorem Zez:fnO Tryz.prog mdA 126 [.agg liKs,.cell .str]=t126:=by kernel_rfl
noncomputable def t55:R:=let x1:List K:=J9;let x2:T:=Vl (Vn 0) (Vl (Vn 0) (Vl .nils .lnil));let x3:T:=Vl (Va 1) (Vl (Va 2) .lnil);let x4:T:=Vl (Va 4) (Vl (Va 5) (Vl (Va 6) (Vl (Va 7) (Vl (Va 8) (Vl (Va 9) (Vl (Va 10) (Vl (Va 11) .lnil)))))));let x5:T:=Vl (Va 16) (Vl (Va 17) (Vl (Va 18) .lnil));let x0:T:=.o2 .app (Va 15) (.push .nils (Vl (Va 3) x4));let x6:T:=.o2 .le (.o1 .len x0) (Vn 140737488355328);let x7:T:=.o2 .le (.o1 .len x0) (Vn 1172812402961);let x8:T:=.o2 .gt (.o1 .len x0) (Vn 64);.call none (.fn 29) [Vl (Va 0) x3] [.cell (.int .i64)] (.ite (.o2 .ne (Va 12) (Vn 0)) (.ret [.d x2,.d (Va 12)]) (.call none (.fn 91) [Vl (Va 3) x4] [.cell (.int .i64)] (.ite (.o2 .ne (Va 13) (Vn 0)) (.ret [.d x2,.d (Va 13)]) (.guess (.bool true) (.ite (Va 14) (.call none (.fn 126) [Vl (Va 0) x3,Va 3] [.own x1] (.need x7 (.fact x6 (.ite x8 (.ret [.d x2,.d (Vn 5)]) (.callX false 127 [.d (Vl (Va 0) x3),.own 9 x0] [.agg [.int .i64,.int .i64,.slice x1]] (.ret [.d x5,.d (Vn 0)])))))) (.call none (.fn 126) [Vl (Va 0) x3,Va 3] [.own x1] (.need x7 (.fact x6 (.ite x8 (.ret [.d x2,.d (Vn 5)]) (.callX false 127 [.d (Vl (Va 0) x3),.own 9 x0] [.agg [.int .i64,.int .i64,.slice x1]] (.ret [.d x5,.d (Vn 0)])))))))))))
theorem Zgn:fnO Tryz.prog mdA 55 [.agg liKs,.agg J9]=t55:=by kernel_rfl
noncomputable def t136:R:=let x3:T:=.o1 .len (Va 0);let x4:T:=.o2 .le (Vn 0) (Va 2);let x1:T:=.o2 (.add .i64) (Va 1) (.o2 (.sub .i64) x3 (Va 2));let x0:T:=.o2 .app (.o2 .app (.sub (Va 0) (Vn 0) (Va 1)) (.sub (Va 0) (Va 2) x3)) (.sub (Va 0) x1 x3);let x2:T:=.sub (.o2 .app (.o2 .app (.sub x0 (Vn 0) x1) (.rep (.o2 (.sub .i64) x3 x1) (Vl (.str []) (Vl (.str []) (Vl .nils (Vl .nils (Vl (.bool false) (Vl (.bool false) (Vl (Vn 0) (Vl (.str []) (Vl (Vn 0) .lnil))))))))))) (.sub x0 x3 (.o1 .len x0))) (Vn 0) x1;.fact (.o2 .le x3 (Vn 140737488355328)) (.need (.o2 .le (Vn 0) (Va 1)) (.need (.o2 .le (Va 1) (Va 2)) (.need (.o2 .le (Va 2) x3) (.ite (.o2 .eq (Va 1) (Va 2)) (.ret [.own 9 (Va 0)]) (.guess (.bool true) (.ite (Va 3) (.need (.o2 .le (Va 1) x3) (.need x4 (.need (.o2 .le (Vn 0) x1) (.need (.o2 .le x1 x3) (.need (.o2 .le x3 (.o1 .len x0)) (.ret [.own 9 x2])))))) (.need x4 (.need (.o2 .le (Va 1) x3) (.need (.o2 .le (Vn 0) x1) (.need (.o2 .le x1 x3) (.need (.o2 .le x3 (.o1 .len x0)) (.ret [.own 9 x2]))))))))))))
theorem Zep:fnXO Tryz.prog mdA 136 [.own J9,.cell (.int .i64),.cell (.int .i64)]=t136:=by kernel_rfl
theorem Yb {P:Program} {F:Option Nat→List RV→Prop} (t:T) (r:R) (ags:Ags) (ρ:List D):denR P F noK (.guess t r) ags ρ=(∀b:Bool,(b=true→den ρ t=.bool true)→denR P F noK r ags (ρ++[.bool b])):=rfl
theorem Z3Q:Contract Tryz.prog 137 fun args K=>∃(cs:List Cue),(∀c∈cs,c.Ok)∧cs.length≤1000000∧args=[.slice (cs.map Cue.enc)]∧K [.own 9 (cs.map Cue.enc)]:=by
 refine .of (by kernel_rfl) Zeo ?_;rintro _ K ⟨cs,hcs,hlen,rfl,hK⟩ hsm;refine⟨[.slice (cs.map Cue.enc)],rfl,⟨WL hcs,trivial⟩,?_⟩;unfold t137;simp only [denR];intro b hb;simp only [zz,reduceCtorEq,List.length_map];cases b with
 | true=>
   have:=hb rfl;simp only [zz,reduceCtorEq,List.length_map]at this;have h0:cs=[]:=List.eq_nil_of_length_eq_zero (by omega);subst h0;exact⟨fun _=>hK,fun h=>by simp at h⟩
 |false=>exact⟨fun h=>by simp at h,fun _=>⟨by omega,hK⟩⟩
theorem Z6J:Contract Tryz.prog 193 fun args K=>∃(c:Cue) (s:List UInt8),c.Ok∧args=[.agg c.enc,.ptr [.str s]]∧K [.d (.bool (c.num==s))]:=by
 refine .of c193 ZdL ?_;rintro _ K ⟨c,s,hc,rfl,hK⟩ hsm;refine⟨c.enc++[.ptr [.str s]],rfl,by exact(Cue.has hc).append (show HasKs [.ptr [.str]] [.ptr [.str s]]from⟨⟨trivial,trivial⟩,trivial⟩),?_⟩;simp only [zz,reduceCtorEq,t193,Cue.enc];exact hK
theorem Z45 (l:List Cue) (hl:∀c∈l,c.Ok) (s:List UInt8):YC Tryz.prog (.clo 193 [.ptr [.str s]]) Cue.enc l (fun c=>c.num==s):=by
 refine⟨fun as_ K=>∃c:Cue,c.Ok∧as_=[.agg c.enc]∧K [.d (.bool (c.num==s))],FvC.of c193 Z6J ?_,fun c hc=>⟨c,hl c hc,rfl,rfl⟩⟩;rintro _ K ⟨c,hc,rfl,hK⟩;refine⟨⟨c,s,hc,rfl,hK⟩,J4 [some (.agg J9)] (by kernel_rfl) ?_⟩;intro i rk d h1 h2;cases i with
 |zero=>simp at h1 h2;subst h1 h2;exact Cue.has hc
 |succ i=>simp at h1
theorem Z7P:Contract Tryz.prog 126 fun args K=>∃(l:Lis) (s:List UInt8),l.Ok∧l.cues.length≤1000000∧args=[.agg l.enc,.str s]∧K [.own 9 ((without l.cues s).map Cue.enc)]:=by
 refine .of (by kernel_rfl) Zez ?_;rintro _ K ⟨l,s,hl,hlen,rfl,hK⟩ hsm;refine⟨l.enc++[.str s],rfl,by exact Z1o hl,?_⟩;refine Z0 Z3Q ⟨l.cues,hl.cues,hlen,by simp only [zz,reduceCtorEq,Lis.enc],_,rfl,?_⟩;refine ZA Zbc ⟨[.slice (l.cues.map Cue.enc),.clo 193 [.ptr [.str s]]],rfl,⟨WL hl.cues,trivial,trivial⟩⟩ (fun h=>by cases h) ?_;refine⟨l.cues,fun c=>c.num==s,193,[.ptr [.str s]],hl.cues,hlen,rfl,Z45 l.cues hl.cues s,[.slice ((without l.cues s).map Cue.enc)],rfl,?_⟩;simp only [zz,reduceCtorEq,Lis.enc];exact hK
theorem Z41 {cs:List Cue} (hr:Wx cs) (s:List UInt8):Wx (without cs s):=hr.filter _
theorem Z0J {cs:List Cue} {s:List UInt8} {c:Cue}:c∈without cs s↔c∈cs∧c.num≠s:=by simp [without,List.mem_filter]
theorem Zfp (c:Cue) (cs:List Cue):(ins c cs).length=cs.length+1:=by have:=(Z2S c cs).length_eq;simpa using this
def putR (l:Lis) (c:Cue):Lis×Int:=if W8 W4 l≠0 then(zeroL,W8 W4 l)else if J5 c≠0 then(zeroL,J5 c)else if 64 < (ins c (without l.cues c.num)).length then(zeroL,5)else({l with cues:=ins c (without l.cues c.num)},0)
def Z3H (l:Lis) (s:List UInt8):Lis×Bool×Int:=if Ym l s≠0 then(zeroL,false,Ym l s)else({l with cues:=without l.cues s},decide (0≤place l.cues s),0)
theorem Z8I {cs:List Cue} (h:∀c∈cs,c.Ok) (s:List UInt8):∀c∈without cs s,c.Ok:=fun c hc=>h c (Z0J.1 hc).1
theorem Zc0:Contract Tryz.prog 55 fun args K=>∃(l:Lis) (c:Cue),l.Ok∧c.Ok∧args=[.agg l.enc,.agg c.enc]∧K [.d (.agg (putR l c).1.enc),.d (.int .i64 (putR l c).2)]:=by
 refine .of (by kernel_rfl) Zgn ?_;rintro _ K ⟨l,c,hl,hc,rfl,hK⟩ hsm;refine⟨l.enc++c.enc,rfl,by exact(Lis.has hl).append (Cue.has hc),?_⟩;refine Z0 YL ⟨l,hl,by simp only [zz,reduceCtorEq,Lis.enc,Cue.enc],_,rfl,?_⟩;simp only [zz,reduceCtorEq,Lis.enc,Cue.enc];unfold putR at hK;refine⟨fun h=>?_,fun h=>?_⟩
 · have h:W8 W4 l≠0:=by simpa using h
   rw [if_pos h]at hK;exact hK
 have h:W8 W4 l=0:=by simpa using h
 rw [if_neg (by simp [h])]at hK;refine Z0 Z1v ⟨c,hc,by simp only [zz,reduceCtorEq,Lis.enc,Cue.enc],_,rfl,?_⟩;simp only [zz,reduceCtorEq,Lis.enc,Cue.enc];refine⟨fun h2=>?_,fun h2=>?_⟩
 · have h2:J5 c≠0:=by simpa using h2
   rw [if_pos h2]at hK;exact hK
 have h2:J5 c=0:=by simpa using h2
 rw [if_neg (by simp [h2])]at hK;have hR:=Wd h;have hlen:=hR.len;have hnum:=ZW h2;have hwo:=Z8I hl.cues c.num;have hwl:(without l.cues c.num).length≤64:=Nat.le_trans (List.length_filter_le _ _) hlen;have hwn:∀x∈without l.cues c.num,Z4 x.num=0:=fun x hx=>hR.num x (Z0J.1 hx).1
 have hwv:∀x∈without l.cues c.num,Yl x≠Yl c:=fun x hx e=>(Z0J.1 hx).2 (Z33 (hwn x hx) hnum e)
 have hins:=Z4L (Z41 hR.rising c.num) hwv;rw [Zfp]at hK;have happ:∀x∈without l.cues c.num++[c],x.Ok∧Z4 x.num=0:=by
   intro x hx;rcases List.mem_append.1 hx with hx|hx
   · exact⟨hwo x hx,hwn x hx⟩
   · simp at hx;subst hx;exact⟨hc,hnum⟩
 simp only [Yb];intro b _;cases b <;> simp only [zz,reduceCtorEq]
 all_goals
   refine Z0 Z7P ⟨l,c.num,hl,by omega,by simp only [zz,reduceCtorEq,Lis.enc,Cue.enc],_,rfl,?_⟩;generalize hW:without l.cues c.num=W at *;simp only [zz,reduceCtorEq,Lis.enc,Cue.enc,List.length_append,List.length_map,List.length_cons,List.length_nil];refine⟨by omega,fun _=>⟨fun h3=>?_,fun h3=>?_⟩⟩
   · rw [if_pos (by omega)]at hK;exact hK
   · rw [if_neg (by omega)]at hK;have e1:W.map Cue.enc++[[D.str c.num,.str c.label,.slice (c.moves.map Mov.enc),.slice (c.parts.map Tim.enc),.bool c.block,.bool c.mark,.int .i64 c.follow,.str c.link,.int .i64 c.loops]]=(W++[c]).map Cue.enc:=by simp [Cue.enc]
     refine ZA Zdf ⟨l.enc++[.slice ((W++[c]).map Cue.enc)],by simp only [zz,reduceCtorEq,Lis.enc,Cue.enc,D.push,e1];rfl,by exact Z4O hl ⟨WL fun x hx=>(happ x hx).1,trivial⟩⟩ (fun h=>by cases h) ?_;refine⟨l,W++[c],hl,fun x hx=>(happ x hx).1,fun x hx=>(happ x hx).2,by simp,by simp only [zz,reduceCtorEq,Lis.enc,Cue.enc,D.push,e1],fun cs' hp hs=>?_⟩;have e2:cs'=ins c W:=Z0v Yl (ins c W) cs' (hp.trans ((List.perm_append_comm).trans (Z2S c W).symm)) hs hins;subst e2;refine⟨(Lis.enc {l with cues:=ins c W}),rfl,?_⟩;simp only [zz,reduceCtorEq,Lis.enc];exact hK
theorem Zbb:ContractX Tryz.prog 136 [.own J9,.cell (.int .i64),.cell (.int .i64)] false fun args K=>∃(l:List Cue) (i j:Nat),(∀m∈l,m.Ok)∧l.length≤1000000∧i≤j∧j≤l.length∧args=[.own 9 (l.map Cue.enc),.d (.int .i64 i),.d (.int .i64 j)]∧K [.own 9 ((l.take i++l.drop j).map Cue.enc)]:=by
 refine .of (by kernel_rfl) Zep ?_;rintro _ K ⟨l,i,j,hl,hlen,hij,hjl,rfl,hK⟩;have hi:I64 i:=⟨by omega,by omega⟩
 have hj:I64 j:=⟨by omega,by omega⟩
 refine⟨[.slice (l.map Cue.enc),.int .i64 i,.int .i64 j],rfl,⟨WL hl,Y2 hi,Y2 hj,trivial⟩,?_⟩;have hw1:wr64 ((l.length:Int) - (j:Int))=((l.length - j:Nat):Int):=by rw [Z1 (by omega)];omega
 have hw2:wr64 ((i:Int)+((l.length - j:Nat):Int))=((i+(l.length - j):Nat):Int):=by rw [Z1 (by omega)];omega
 have hT:(l.map Cue.enc).take l.length=l.map Cue.enc:=List.take_of_length_le (by simp);have hA:(l.map Cue.enc).length=l.length:=by simp
 have hfin:(l.take i++l.drop j).map Cue.enc=(l.map Cue.enc).take i++(l.map Cue.enc).drop j:=by simp
 rw [hfin]at hK;generalize hAA:l.map Cue.enc=A at *;have hX:∀B:List (List D),(A.take i++A.drop j++B).take (i+(l.length - j))=A.take i++A.drop j:=fun B=>by
   have:(A.take i++A.drop j).length=i+(l.length - j):=by simp;omega
   rw [←this,List.take_left]
 simp only [zz,reduceCtorEq,t136,Yb,hA,hw1,hw2,hT,D.rep,List.length_append,List.length_take,List.length_drop];refine fun _=>⟨by omega,hij,hjl,fun h=>?_,fun h=>?_⟩
 · have:i=j:=by omega
   subst this;rw [List.take_append_drop]at hK;exact hK
 have fin:∀R B:List (List D),((A.take i++A.drop j++A.drop (i+(l.length - j))).take (i+(l.length - j))++R++B).take (i+(l.length - j))=A.take i++A.drop j:=fun R B=>by
   rw [Z4h (by simp;omega),hX]
 intro b;refine⟨fun _=>⟨by omega,by omega,by omega,by omega,by omega,?_⟩,fun _=>⟨by omega,by omega,by omega,by omega,by omega,?_⟩⟩
 all_goals
   rw [fin];exact hK
noncomputable def t66:R:=let x0:List K:=J9;let x1:T:=Vl (Va 1) (Vl (Va 2) .lnil);.call none (.fn 135) [Vl (Va 0) x1,Va 3] [.cell (.int .i64),.cell .bool,.cell (.int .i64)] (.ite (.o2 .ne (Va 6) (Vn 0)) (.ret [.d (Vl (Vn 0) (Vl (Vn 0) (Vl .nils .lnil))),.d (.bool false),.d (Va 6)]) (.ite (Va 5) (.call none (.fn 137) [Va 2] [.own x0] (.callX false 136 [.own 9 (Va 7),.d (Va 4),.d (.o2 (.add .i64) (Va 4) (Vn 1))] [.own x0] (.ret [.d (Vl (Va 0) (Vl (Va 1) (Vl (Va 8) .lnil))),.d (.bool true),.d (Vn 0)]))) (.ret [.d (Vl (Va 0) x1),.d (Va 5),.d (Vn 0)])))
theorem Zgc:fnO Tryz.prog mdA 66 [.agg liKs,.cell .str]=t66:=by kernel_rfl
theorem Zb6:Contract Tryz.prog 66 fun args K=>∃(l:Lis) (s:List UInt8),l.Ok∧args=[.agg l.enc,.str s]∧K [.d (.agg (Z3H l s).1.enc),.d (.bool (Z3H l s).2.1),.d (.int .i64 (Z3H l s).2.2)]:=by
 refine .of (by kernel_rfl) Zgc ?_;rintro _ K ⟨l,s,hl,rfl,hK⟩ hsm;refine⟨l.enc++[.str s],rfl,by exact Z1o hl,?_⟩;refine Z0 Z5J ⟨l,s,hl,by simp only [zz,reduceCtorEq,Lis.enc],_,rfl,?_⟩;by_cases hg:Ym l s=0;rotate_left
 · have e1:Yp l s=(0,false,Ym l s):=by unfold Yp;rw [if_pos (by simpa using hg)]
   have e2:Z3H l s=(zeroL,false,Ym l s):=by unfold Z3H;rw [if_pos (by simpa using hg)]
   rw [e1];rw [e2]at hK;simp only [zz,reduceCtorEq,Lis.enc];exact⟨fun _=>hK,fun h=>absurd (by simpa using h) hg⟩
 obtain⟨hR,h05⟩:=Z3D hg;have hlen:=hR.len;have e2:Z3H l s=({l with cues:=without l.cues s},decide (0≤place l.cues s),0):=by unfold Z3H;rw [if_neg (by simp [hg])]
 rw [e2]at hK;by_cases hp:place l.cues s < 0
 · have e1:Yp l s=(0,false,0):=by
     unfold Yp;rw [if_neg (by simp [hg]),if_pos hp];have:¬0≤place l.cues s:=by omega
     simp [this]
   have e3:without l.cues s=l.cues:=List.filter_eq_self.2 fun x hx=>by
     have:=Z19.1 hp x hx;simpa using this
   have e4:decide (0≤place l.cues s)=false:=by simp;omega
   rw [e1];rw [e3,e4]at hK;simp only [zz,reduceCtorEq,Lis.enc];exact hK
 · obtain⟨k,hk,hpk,hks,_⟩:=Z18 hp;have e1:Yp l s=((k:Int),true,0):=by
     have h0:(0:Int)≤(k:Int):=by omega
     unfold Yp;rw [if_neg (by simp [hg]),if_neg hp,hpk];simp only [h0,decide_true]
   have e3:=Z8H hR.rising hk hks;have e4:decide (0≤place l.cues s)=true:=by simp;omega
   have hw:wr64 ((k:Int)+1)=((k+1:Nat):Int):=by rw [Z1 (by omega)];omega
   rw [e1];rw [e3,e4]at hK;simp only [zz,reduceCtorEq,Lis.enc];refine Z0 Z3Q ⟨l.cues,hl.cues,by omega,by simp only [zz,reduceCtorEq,Lis.enc],_,rfl,?_⟩;refine ZA Zbb ⟨[.slice (l.cues.map Cue.enc),.int .i64 (k:Nat),.int .i64 ((k+1:Nat):Int)],by simp only [zz,reduceCtorEq,Lis.enc,hw];rfl,⟨WL hl.cues,Y2 ⟨by omega,by omega⟩,Y2 ⟨by omega,by omega⟩,trivial⟩⟩ (fun h=>by cases h) ?_;refine⟨l.cues,k,k+1,hl.cues,by omega,by omega,hk,by simp only [zz,reduceCtorEq,Lis.enc,hw],[.slice ((l.cues.take k++l.cues.drop (k+1)).map Cue.enc)],rfl,?_⟩;simp only [zz,reduceCtorEq,Lis.enc];exact hK
theorem Yu:zeroL.Ok:=⟨⟨by decide,by decide⟩,⟨by decide,by decide⟩,by simp [zeroL]⟩
structure Putd (l:Lis) (c:Cue):Prop where
 right:W8 W4 {l with cues:=ins c (without l.cues c.num)}=0
 find:∃(i:Nat) (hi:i < (ins c (without l.cues c.num)).length),Yp {l with cues:=ins c (without l.cues c.num)} c.num=((i:Int),true,0)∧(ins c (without l.cues c.num))[i]=c
 drop:Z3H {l with cues:=ins c (without l.cues c.num)} c.num=({l with cues:=without l.cues c.num},true,0)
 drop0:∃b,Z3H l c.num=({l with cues:=without l.cues c.num},b,0)
def l16 (f:Nat→T):Nat→Nat→T
 |_,0=>.lnil
 |i,n+1=>.lcons (f i) (l16 f (i+1) n)
def q16:T:=.o2 (.quo .i64) (.var 16) (.int .i64 64)
def r16:T:=.o2 (.rem .i64) (.var 16) (.int .i64 64)
def s16:T:=.sel (l16 .var 0 16) q16 (.int .u64)
def o16:T:=.o2 (.or .u64) s16 (.o2 (.shl .u64) (.int .u64 1) r16)
noncomputable def n16 (r:R):R:=.need (.o2 .ne (.int .i64 64) (.int .i64 0)) (.need (.o2 .le (.int .i64 0) q16) (.need (.o2 .lt q16 (.int .i64 16)) (.need (.o2 .ge r16 (.int .i64 0)) r)))
structure Ws (ws:List Nat) (c:Nat) (ρ:List D):Prop where
 q:den ρ q16=.int .i64 ((c / 64:Nat):Int)
 r:den ρ r16=.int .i64 ((c % 64:Nat):Int)
 s:den ρ s16=.int .u64 ((ws.getD (c / 64) 0:Nat):Int)
 o:den ρ o16=.int .u64 ((ws.getD (c / 64) 0 ||| 2 ^ (c % 64):Nat):Int)
noncomputable def t52:R:=.call none (.fn 120) [Va 0,Vn 4096,.fn 117,.fn 121] [.cell (.int .i64)] (.ret [.d (Va 1)])
theorem Zgq:fnO Tryz.prog mdA 52 [.cell (.slice enKs)]=t52:=by kernel_rfl
noncomputable def t117:R:=.call none (.fn 118) [Vl (Va 0) (Vl (Va 1) .lnil),Vn 1] [.cell (.int .i64)] (.ite (.o2 .ne (Va 4) (Vn 0)) (.ret [.d (Va 4)]) (.call none (.fn 119) [Vl (Va 2) (Vl (Va 3) .lnil)] [.cell (.int .i64)] (.ret [.d (Va 5)])))
theorem ZeI:fnO Tryz.prog mdA 117 [.agg enKs]=t117:=by kernel_rfl
theorem c117:J2 Tryz.prog 117=true:=by kernel_rfl
noncomputable def t118:R:=.ite (.ite (.ite (.ite (.o2 .lt (Va 0) (Va 2)) (.bool true) (.o2 .gt (Va 0) (Vn 999))) (.bool true) (.o2 .lt (Va 1) (Vn 0))) (.bool true) (.o2 .ge (Va 1) (Vn 15))) (.ret [.d (Vn 2)]) (.ret [.d (Vn 0)])
theorem ZeH:fnO Tryz.prog mdA 118 [.agg [.int .i64,.int .i64],.cell (.int .i64)]=t118:=by kernel_rfl
noncomputable def t120:R:=let x0:T:=.o2 (.sub .i64) (Va 4) (Vn 1);let x1:T:=Vl (.idx (Va 0) (Va 4) 1 (.int .i64)) (Vl (.idx (Va 0) (Va 4) 2 (.int .i64)) (Vl (.idx (Va 0) (Va 4) 3 (.int .i64)) .lnil));let x2:T:=.o2 .gt (Va 4) (Vn 0);let x3:T:=.o1 .len (Va 0);let x4:T:=.idx (Va 0) (Va 4) 0 (.int .i64);.fact (.o2 .le x3 (Vn 140737488355328)) (.ite (.o2 .gt x3 (Va 1)) (.ret [.d (Vn 5)]) (.loop 0 [Vn 0] [.int .i64] (.ite (.o2 .lt (Va 4) x3) (.need (.o2 .le (Vn 0) (Va 4)) (.call none (.val (Va 2)) [Vl x4 x1] [.cell (.int .i64)] (.ite (.o2 .ne (Va 5) (Vn 0)) (.ret [.d (Va 5)]) (.need (.ite x2 (.o2 .le (Vn 0) x0) (.bool true)) (.need (.ite x2 (.o2 .lt x0 x3) (.bool true)) (.call (some x2) (.val (Va 3)) [Vl (.idx (Va 0) x0 0 (.int .i64)) (Vl (.idx (Va 0) x0 1 (.int .i64)) (Vl (.idx (Va 0) x0 2 (.int .i64)) (Vl (.idx (Va 0) x0 3 (.int .i64)) .lnil))),Vl x4 x1] [.cell (.int .i64)] (.ite (.ite x2 (.o2 .ge (Va 6) (Vn 0)) (.bool false)) (.ret [.d (Vn 9)]) (.again 0 [.o2 (.add .i64) (Va 4) (Vn 1)])))))))) (.ret [.d (Vn 0)]))))
theorem ZeF:fnO Tryz.prog mdA 120 [.cell (.slice enKs),.cell (.int .i64),.cell .fn,.cell .fn]=t120:=by kernel_rfl
noncomputable def t121:R:=.call none (.fn 122) [Vl (Va 0) (Vl (Va 1) .lnil),Vl (Va 4) (Vl (Va 5) .lnil)] [.cell (.int .i64)] (.ret [.d (Va 8)])
theorem ZeE:fnO Tryz.prog mdA 121 [.agg enKs,.agg enKs]=t121:=by kernel_rfl
theorem c121:J2 Tryz.prog 121=true:=by kernel_rfl
noncomputable def t122:R:=.ite (.o2 .ne (Va 0) (Va 2)) (.ret [.d (.o2 (.sub .i64) (Va 0) (Va 2))]) (.ret [.d (.o2 (.sub .i64) (Va 1) (Va 3))])
theorem ZeD:fnO Tryz.prog mdA 122 [.agg [.int .i64,.int .i64],.agg [.int .i64,.int .i64]]=t122:=by kernel_rfl
noncomputable def t14:R:=let x0:T:=.o2 (.sub .i64) (Va 1) (Vn 1);let x1:T:=.o2 .gt (Va 1) (Vn 0);let x2:T:=.o1 .len (Va 0);let x3:T:=Vl (.idx (Va 0) (Va 1) 1 (.int .i64)) .lnil;let x4:T:=.idx (Va 0) (Va 1) 0 (.int .i64);.fact (.o2 .le x2 (Vn 140737488355328)) (.ite (.o2 .gt x2 (Vn 4096)) (.ret [.d (Vn 5)]) (.loop 0 [Vn 0] [.int .i64] (.ite (.o2 .lt (Va 1) x2) (.need (.o2 .le (Vn 0) (Va 1)) (.call none (.fn 48) [Vl x4 x3] [.cell (.int .i64)] (.ite (.o2 .ne (Va 2) (Vn 0)) (.ret [.d (Va 2)]) (.call none (.fn 49) [Vl (.idx (Va 0) (Va 1) 2 (.int .i64)) (Vl (.idx (Va 0) (Va 1) 3 (.int .i64)) .lnil)] [.cell (.int .i64)] (.ite (.o2 .ne (Va 3) (Vn 0)) (.ret [.d (Va 3)]) (.need (.ite x1 (.o2 .le (Vn 0) x0) (.bool true)) (.need (.ite x1 (.o2 .lt x0 x2) (.bool true)) (.call (some x1) (.fn 50) [Vl (.idx (Va 0) x0 0 (.int .i64)) (Vl (.idx (Va 0) x0 1 (.int .i64)) .lnil),Vl x4 x3] [.cell .bool] (.ite (.ite x1 (.o1 .not (Va 4)) (.bool false)) (.ret [.d (Vn 9)]) (.again 0 [.o2 (.add .i64) (Va 1) (Vn 1)])))))))))) (.ret [.d (Vn 0)]))))
theorem ZgO:fnO Tryz.prog mdA 14 [.cell (.slice enKs)]=t14:=by kernel_rfl
noncomputable def t77:R:=let x0:T:=.o1 .len (Va 0);.fact (.o2 .le x0 (Vn 140737488355328)) (.ret [.d (.ite (.o2 .le x0 (Vn 200)) (.bool true) (.o2 .gt x0 (Vn 4096)))])
theorem Zg4:fnO Tryz.prog mdA 77 [.cell (.slice enKs)]=t77:=by kernel_rfl
instance:Inhabited Ent:=⟨⟨⟨0,0⟩,⟨0,0⟩⟩⟩
def e15 (e:Ent):Int:=if Z3 e.pa≠0 then Z3 e.pa else J8 e.va
def YX (xs:List Ent):Nat→List Ent→Int
 |_,[]=>0
 |i,e::es=>if e15 e≠0 then e15 e else if 0 < i∧W3 (xs[i - 1]!).pa e.pa=false then 9 else YX xs (i+1) es
def Zo (l:List Ent):Int:=if 4096 < l.length then 5 else YX l 0 l
theorem Z2W {e:Ent} (h:e15 e=0):Z3 e.pa=0∧J8 e.va=0:=by
 unfold e15 at h;split at h
 · rename_i h1;exact absurd h h1
 · rename_i h1;exact⟨by simpa using h1,h⟩
theorem Zf3:Contract Tryz.prog 118 fun args K=>∃p:Par,p.Ok∧args=[.agg p.enc,.int .i64 1]∧K [.d (.int .i64 (Z3 p))]:=by
 refine .of (by kernel_rfl) ZeH ?_;rintro _ K ⟨p,hp,rfl,hK⟩ hsm;refine⟨p.enc++[.int .i64 1],rfl,by exact(Par.has hp).append (WV ⟨by omega,by omega⟩),?_⟩;simp only [Z3]at hK;simp only [zz,reduceCtorEq,t118,Par.enc];grind
theorem Z91:Contract Tryz.prog 122 fun args K=>∃p q:Par,p.Ok∧q.Ok∧args=[.agg p.enc,.agg q.enc]∧K [.d (.int .i64 (pcmp p q))]:=by
 refine .of (by kernel_rfl) ZeD ?_;rintro _ K ⟨p,q,hp,hq,rfl,hK⟩ hsm;refine⟨p.enc++q.enc,rfl,by simpa [Y1,PK.kinds]using(Par.has hp).append (Par.has hq),?_⟩;simp only [pcmp]at hK;simp only [zz,reduceCtorEq,t122,Par.enc];grind
theorem Zf4:Contract Tryz.prog 117 fun args K=>∃e:Ent,e.Ok∧args=[.agg e.enc]∧K [.d (.int .i64 (e15 e))]:=by
 refine .of c117 ZeI ?_;rintro _ K ⟨e,he,rfl,hK⟩ hsm;refine⟨e.enc,rfl,by exact Ent.has he,?_⟩;refine Z0 Zf3 ⟨e.pa,he.1,by simp only [zz,reduceCtorEq,Ent.enc,Par.enc],_,rfl,?_⟩;simp only [zz,reduceCtorEq,Ent.enc];unfold e15 at hK;refine⟨fun h=>?_,fun h=>?_⟩
 · rw [if_pos (by simpa using h)]at hK;exact hK
 rw [if_neg (by simpa using h)]at hK;refine Z0 Z6j ⟨e.va,he.2,by simp only [zz,reduceCtorEq,Ent.enc,Val.enc],_,rfl,?_⟩;simp only [zz,reduceCtorEq];exact hK
theorem Zc4:Contract Tryz.prog 121 fun args K=>∃a b:Ent,a.Ok∧b.Ok∧args=[.agg a.enc,.agg b.enc]∧K [.d (.int .i64 (pcmp a.pa b.pa))]:=by
 refine .of c121 ZeE ?_;rintro _ K ⟨a,b,ha,hb,rfl,hK⟩ hsm;refine⟨a.enc++b.enc,rfl,by exact(Ent.has ha).append (Ent.has hb),?_⟩;refine Z0 Z91 ⟨a.pa,b.pa,ha.1,hb.1,by simp only [zz,reduceCtorEq,Ent.enc,Par.enc],_,rfl,?_⟩;simp only [zz,reduceCtorEq];exact hK
theorem Zf5 {e:Ent} (he:e.Ok):FvC Tryz.prog (.clo 117 []) fun as_ K=>as_=[.agg e.enc]∧K [.d (.int .i64 (e15 e))]:=by
 refine FvC.of c117 Zf4 ?_;rintro _ K ⟨rfl,hK⟩;refine⟨⟨e,he,rfl,hK⟩,J4 [some (.agg enKs)] (by kernel_rfl) ?_⟩;intro i rk d h1 h2
 match i,h1,h2 with
 |0,h1,h2=>simp at h1 h2;subst h1 h2;exact Ent.has he
theorem Zc5 {a b:Ent} (ha:a.Ok) (hb:b.Ok):FvC Tryz.prog (.clo 121 []) fun as_ K=>as_=[.agg a.enc,.agg b.enc]∧K [.d (.int .i64 (pcmp a.pa b.pa))]:=by
 refine FvC.of c121 Zc4 ?_;rintro _ K ⟨rfl,hK⟩;refine⟨⟨a,b,ha,hb,rfl,hK⟩,J4 [some (.agg enKs),some (.agg enKs)] (by kernel_rfl) ?_⟩;intro i rk d h1 h2
 match i,h1,h2 with
 |0,h1,h2=>simp at h1 h2;subst h1 h2;exact Ent.has ha
 |1,h1,h2=>simp at h1 h2;subst h1 h2;exact Ent.has hb
theorem Zfv (e:Ent):I64 (e15 e):=by
 unfold e15 Z3 J8;split <;> split <;> exact⟨by omega,by omega⟩
theorem Zc6 {p q:Par} (hp:Z3 p=0) (hq:Z3 q=0):I64 (pcmp p q):=by
 have h1:=Jj hp;have h2:=Jj hq;unfold pcmp;split <;> rw [Z1 (by omega)] <;> exact⟨by omega,by omega⟩
theorem Zc2:Contract Tryz.prog 120 fun args K=>∃l:List Ent,(∀e∈l,e.Ok)∧args=[.slice (l.map Ent.enc),.int .i64 4096,.clo 117 [],.clo 121 []]∧K [.d (.int .i64 (Zo l))]:=by
 refine .of (by kernel_rfl) ZeF ?_;rintro _ K ⟨l,hl,rfl,hK⟩ hsm;refine⟨[.slice (l.map Ent.enc),.int .i64 4096,.clo 117 [],.clo 121 []],rfl,⟨Jp hl,Y2 ⟨by omega,by omega⟩,trivial,trivial,trivial⟩,?_⟩;simp only [Zo]at hK;simp only [zz,reduceCtorEq,t120,List.length_map];refine fun hcap=>⟨fun h=>by rw [if_pos (by omega)]at hK;exact hK,fun h=>?_⟩
 rw [if_neg (by omega)]at hK;refine Ji l (fun i l' (_:Unit)=>YX l i l') (fun i _=>[.int .i64 i]) (fun i _=>∀j (hj:j < l.length),j < i→e15 l[j]=0) () _ rfl (fun j _ h=>by omega) 0 (fun _ _=>rfl) rfl ?_ ?_
 · intro i hi _ hI hgo;simp only [YX]at hgo;have he:=hl l[i] (List.getElem_mem hi);simp only [zz,reduceCtorEq,hi,List.length_map];refine⟨by omega,Z7 (Zf5 he) ⟨by simp only [zz,reduceCtorEq,J0 hi,Ent.enc],[.int .i64 (e15 l[i])],rfl,⟨Y2 (Zfv _),trivial⟩,?_⟩⟩;simp only [zz,reduceCtorEq,List.length_map];refine⟨fun h1=>?_,fun h1=>?_⟩
   · rw [if_pos (by simpa using h1)]at hgo;rw [←hgo]at hK;exact hK
   have h1:e15 l[i]=0:=by simpa using h1
   rw [if_neg (by simp [h1])]at hgo;have hw:0 < i→wr64 (↑i - 1)=((i - 1:Nat):Int):=fun h=>by rw [Z1] <;> omega
   have hI2:∀j (hj:j < l.length),j < i+1→e15 l[j]=0:=fun j hj hlt=>by
     by_cases h:j=i
     · subst h;exact h1
     · exact hI j hj (by omega)
   refine⟨?_,?_,?_⟩
   · split
     · rename_i h0;rw [hw h0];simp
     · rfl
   · split
     · rename_i h0;rw [hw h0];simp;omega
     · rfl
   by_cases h0:0 < i
   · have hp:l[i - 1]! =l[i - 1]'(by omega):=getElem!_pos l (i - 1) (by omega);have hR:=(Z2W (hI (i - 1) (by omega) (by omega))).1;have hR2:=(Z2W h1).1;have hneg:=Z2O hR hR2;refine Jz (s:=fun as_ K=>as_=[.agg (l[i - 1]'(by omega)).enc,.agg l[i].enc]∧K [.d (.int .i64 (pcmp (l[i - 1]'(by omega)).pa l[i].pa))]) true [.int .i64 (pcmp (l[i - 1]'(by omega)).pa l[i].pa)] (by simp only [zz,reduceCtorEq,h0]) (fun _=>⟨Zc5 (a:=l[i - 1]'(by omega)) (b:=l[i]) (hl _ (List.getElem_mem _)) he,by simp only [zz,reduceCtorEq,hw h0,J0 hi,J0 (show i - 1 < l.length by omega),Ent.enc],[.int .i64 (pcmp (l[i - 1]'(by omega)).pa l[i].pa)],rfl,⟨Y2 (Zc6 hR hR2),trivial⟩,rfl⟩) (fun e=>by cases e) ?_;simp only [zz,reduceCtorEq,h0];rw [hp]at hgo;refine⟨fun h2=>?_,fun h2=>?_⟩
     · rw [if_pos ⟨h0,by rw [Bool.eq_false_iff];intro hb;have:=hneg.2 hb;omega⟩]at hgo;rw [←hgo]at hK;exact hK
     · rw [if_neg (by rintro⟨_,hb⟩;have:=hneg.1 (by omega);rw [this]at hb;cases hb)]at hgo;exact⟨(),by rw [Z1] <;> omega,hI2,hgo⟩
   · refine Jz (s:=fun _ _=>True) false [.int .i64 0] (by simp only [zz,reduceCtorEq,h0]) (fun e=>by cases e) (fun _=>rfl) ?_;simp only [zz,reduceCtorEq,h0];rw [if_neg (by omega)]at hgo;exact⟨(),by rw [Z1] <;> omega,hI2,hgo⟩
 · intro _ _ hgo;simp only [zz,reduceCtorEq,List.length_map,Nat.lt_irrefl];simp only [YX]at hgo;rw [←hgo]at hK;exact hK
theorem Z5p:Contract Tryz.prog 52 fun args K=>∃l:List Ent,(∀e∈l,e.Ok)∧args=[.slice (l.map Ent.enc)]∧K [.d (.int .i64 (Zo l))]:=by
 refine .of (by kernel_rfl) Zgq ?_;rintro _ K ⟨l,hl,rfl,hK⟩ hsm;refine⟨[.slice (l.map Ent.enc)],rfl,⟨Jp hl,trivial⟩,?_⟩;refine Z0 Zc2 ⟨l,hl,by simp only [zz,reduceCtorEq],_,rfl,?_⟩;simp only [zz,reduceCtorEq];exact hK
theorem Zb4:Contract Tryz.prog 14 fun args K=>∃l:List Ent,(∀e∈l,e.Ok)∧args=[.slice (l.map Ent.enc)]∧K [.d (.int .i64 (Zo l))]:=by
 refine .of (by kernel_rfl) ZgO ?_;rintro _ K ⟨l,hl,rfl,hK⟩ hsm;refine⟨[.slice (l.map Ent.enc)],rfl,⟨Jp hl,trivial⟩,?_⟩;simp only [Zo]at hK;simp only [zz,reduceCtorEq,t14,List.length_map];refine fun hcap=>⟨fun h=>by rw [if_pos (by omega)]at hK;exact hK,fun h=>?_⟩
 rw [if_neg (by omega)]at hK;refine Jb l (fun i l' (_:Unit)=>YX l i l') (fun i _=>[.int .i64 i]) () _ rfl 0 (fun _ _=>rfl) rfl ?_ ?_
 · intro i hi _ hgo;simp only [YX]at hgo;have hm:=hl l[i] (List.getElem_mem hi);simp only [zz,reduceCtorEq,hi,List.length_map];refine⟨by omega,Z0 Z4w ⟨(l[i]).pa,hm.1,by simp only [zz,reduceCtorEq,J0 hi,Ent.enc,Par.enc],_,rfl,?_⟩⟩;simp only [zz,reduceCtorEq];refine⟨fun h1=>?_,fun h1=>?_⟩
   · have h1:Z3 l[i].pa≠0:=by simpa using h1
     have he:e15 l[i]=Z3 l[i].pa:=by unfold e15;rw [if_pos h1]
     rw [if_pos (by rw [he];exact h1),he]at hgo;rw [←hgo]at hK;exact hK
   have h1:Z3 l[i].pa=0:=by simpa using h1
   have he:e15 l[i]=J8 l[i].va:=by unfold e15;rw [if_neg (by simp [h1])]
   refine Z0 Z4b ⟨(l[i]).va,hm.2,by simp only [zz,reduceCtorEq,J0 hi,Ent.enc,Val.enc],_,rfl,?_⟩;simp only [zz,reduceCtorEq,List.length_map];refine⟨fun h2=>?_,fun h2=>?_⟩
   · have h2:J8 l[i].va≠0:=by simpa using h2
     rw [if_pos (by rw [he];exact h2),he]at hgo;rw [←hgo]at hK;exact hK
   have h2:J8 l[i].va=0:=by simpa using h2
   rw [if_neg (by rw [he];simp [h2])]at hgo;have hw:0 < i→wr64 (↑i - 1)=((i - 1:Nat):Int):=fun h=>by rw [Z1] <;> omega
   refine⟨?_,?_,?_⟩
   · split
     · rename_i h0;rw [hw h0];simp
     · rfl
   · split
     · rename_i h0;rw [hw h0];simp;omega
     · rfl
   have hp:0 < i→l[i - 1]! =l[i - 1]'(by omega):=fun h=>getElem!_pos l (i - 1) (by omega)
   refine Z5 Z0R (decide (0 < i)) [.bool (decide (0 < i)&&W3 (l[i - 1]!).pa (l[i]).pa)] (by simp only [zz,reduceCtorEq]) (fun h=>⟨(l[i - 1]!).pa,(l[i]).pa,?_,hm.1,?_,by rw [h];rfl⟩) (fun h=>by rw [h];rfl) ?_
   · have h:0 < i:=by simpa using h
     rw [hp h];exact(hl _ (List.getElem_mem _)).1
   · have h:0 < i:=by simpa using h
     rw [hp h];simp only [zz,reduceCtorEq,hw h,J0 hi,J0 (show i - 1 < l.length by omega),Ent.enc,Par.enc]
   · simp only [zz,reduceCtorEq];grind [Z1]
 · intro _ hgo;simp only [zz,reduceCtorEq,List.length_map,Nat.lt_irrefl];simp only [YX]at hgo;rw [←hgo]at hK;exact hK
theorem Zfu:Contract Tryz.prog 77 fun args K=>∃l:List Ent,(∀e∈l,e.Ok)∧args=[.slice (l.map Ent.enc)]∧∀b:Bool,K [.d (.bool b)]:=by
 refine .of (by kernel_rfl) Zg4 ?_;rintro _ K ⟨l,hl,rfl,hK⟩ hsm;refine⟨[.slice (l.map Ent.enc)],rfl,⟨Jp hl,trivial⟩,?_⟩;simp only [zz,reduceCtorEq,t77,List.length_map];exact fun _=>hK _
theorem Z3G {xs:List Ent}:∀(cs:List Ent) (i:Nat),cs=xs.drop i→YX xs i cs=0→(∀c∈cs,e15 c=0)∧(∀j,i≤j→0 < j→(hj:j < xs.length)→W3 (xs[j - 1]'(by omega)).pa (xs[j]).pa=true)
 | [],i,he,_=>⟨by simp,fun j h1 h2 h3=>by
     have:=congrArg List.length he;simp at this;omega⟩
 | c ::cs,i,he,h=>by
   have hlt:i < xs.length:=by
     rcases Nat.lt_or_ge i xs.length with h|h
     · exact h
     · rw [List.drop_eq_nil_of_le h]at he;cases he
   rw [List.drop_eq_getElem_cons hlt]at he;obtain⟨rfl,rfl⟩:=List.cons.inj he;simp only [YX]at h;split at h
   · rename_i hc;exact absurd h hc
   rename_i hc;have hc:e15 xs[i]=0:=by simpa using hc
   split at h
   · cases h
   rename_i ho;obtain⟨g1,g2⟩:=Z3G (xs.drop (i+1)) (i+1) rfl h;refine⟨fun d hd=>?_,fun j h1 h2 h3=>?_⟩
   · rcases List.mem_cons.1 hd with rfl|hd
     · exact hc
     · exact g1 d hd
   · rcases Nat.eq_or_lt_of_le h1 with rfl|h1
     · rw [getElem!_pos xs (i - 1) (by omega)]at ho;rcases Bool.eq_false_or_eq_true (W3 (xs[i - 1]'(by omega)).pa (xs[i]).pa)with hb|hb
       · exact hb
       · exact absurd ⟨h2,hb⟩ ho
     · exact g2 j h1 h2 h3
theorem Z12 {es:List Ent} (hok:∀e∈es,e.Ok) (h:Zo es=0):RightE es:=by
 unfold Zo at h;split at h
 · cases h
 rename_i hl;obtain⟨g1,g2⟩:=Z3G es 0 rfl h;refine⟨hok,fun e he=>(Z2W (g1 e he)).1,fun e he=>(Z2W (g1 e he)).2,?_,by omega⟩;rw [List.pairwise_iff_getElem];have step:∀(n i:Nat) (hi:i+n+1 < es.length),W3 (es[i]'(by omega)).pa (es[i+n+1]).pa=true:=by
   intro n;induction n with
   |zero=>intro i hi;exact g2 (i+1) (Nat.zero_le _) (by omega) hi
   |succ n ih=>intro i hi;exact Yj (ih i (by omega)) (g2 (i+(n+1)+1) (Nat.zero_le _) (by omega) hi)
 intro i j hi hj hij;obtain⟨n,rfl⟩:∃n,j=i+n+1:=⟨j - i - 1,by omega⟩
 exact step n i hj
structure Split (cs:List Cue) (s:List UInt8) (A X B:List Cue):Prop where
 eq:cs=A++X++B
 x:X=[]∨∃c,X=[c]∧c.num=s
 lo:∀c∈A,Yl c < Zg s
 hi:∀c∈B,Zg s < Yl c
theorem Z5f {s:List UInt8} (hs:Z4 s=0):∀ {cs:List Cue},Wx cs→(∀c∈cs,Z4 c.num=0)→∃A X B,Split cs s A X B
 | [],_,_=>⟨[],[],[],rfl,.inl rfl,by simp,by simp⟩
 | c ::cs,hr,hn=>by
   have hr':=List.pairwise_cons.1 hr;rcases Int.lt_trichotomy (Yl c) (Zg s)with h|h|h
   · obtain⟨A,X,B,h1⟩:=Z5f hs hr'.2 fun d hd=>hn d (by simp [hd])
     refine⟨c::A,X,B,by rw [h1.eq];simp,h1.x,fun d hd=>?_,h1.hi⟩;rcases List.mem_cons.1 hd with rfl|hd
     · exact h
     · exact h1.lo d hd
   · exact⟨[],[c],cs,rfl,.inr ⟨c,rfl,Z33 (hn c (by simp)) hs h⟩,by simp,fun d hd=>by have:=hr'.1 d hd;omega⟩
   · refine⟨[],[],c::cs,rfl,.inl rfl,by simp,fun d hd=>?_⟩;rcases List.mem_cons.1 hd with rfl|hd
     · exact h
     · have:=hr'.1 d hd;omega
theorem YB {A R:List Cue} {c:Cue} {s:List UInt8} (hA:∀a∈A,a.num≠s) (hc:c.num=s):place (A++c::R) s=(A.length:Int):=by
 have hn:¬place (A++c::R) s < 0:=fun h=>Z19.1 h c (by simp) hc
 obtain⟨j,hj,h1,h2,h3⟩:=Z18 hn;rw [h1];rcases Nat.lt_trichotomy j A.length with h|h|h
 · rw [List.getElem_append_left h]at h2;exact absurd h2 (hA _ (List.getElem_mem h))
 · omega
 · have:=h3 A.length h;rw [List.getElem_append_right (Nat.le_refl _)]at this;simp at this;exact absurd hc this
theorem Z6M {c:Cue} {B:List Cue} (hB:∀b∈B,Yl c < Yl b):∀ {A:List Cue},(∀a∈A,Yl a < Yl c)→ins c (A++B)=A++c::B
 | [],_=>by
   cases B with
   |nil=>rfl
   | cons b B=>
     have:=hB b (by simp);simp only [List.nil_append,ins];rw [if_neg (by omega)]
 | a::A,h=>by
   simp only [List.cons_append,ins];rw [if_pos (h a (by simp)),Z6M hB fun x hx=>h x (by simp [hx])]
section
variable {cs A X B:List Cue} {s:List UInt8}
theorem Split.lo_ne (h:Split cs s A X B):∀c∈A,c.num≠s:=fun c hc e=>by
 have:=h.lo c hc;unfold Yl at this;rw [e]at this;omega
theorem Split.hi_ne (h:Split cs s A X B):∀c∈B,c.num≠s:=fun c hc e=>by
 have:=h.hi c hc;unfold Yl at this;rw [e]at this;omega
theorem Split.without (h:Split cs s A X B):without cs s=A++B:=by
 have e1:A.filter (fun c=>!(c.num==s))=A:=List.filter_eq_self.2 fun c hc=>by simpa using h.lo_ne c hc
 have e2:B.filter (fun c=>!(c.num==s))=B:=List.filter_eq_self.2 fun c hc=>by simpa using h.hi_ne c hc
 have e3:X.filter (fun c=>!(c.num==s))=[]:=by
   rcases h.x with rfl|⟨c,rfl,hc⟩
   · rfl
   · simp [hc]
 unfold La.without;rw [h.eq,List.filter_append,List.filter_append,e1,e2,e3,List.append_nil]
theorem Split.ins (h:Split cs s A X B) {c:Cue} (hc:c.num=s):ins c (A++B)=A++c::B:=
 Z6M (fun b hb=>by have:=h.hi b hb;unfold Yl;rw [hc];exact this) (fun a ha=>by have:=h.lo a ha;unfold Yl;rw [hc];exact this)
theorem Split.place (h:Split cs s A X B):(X=[]∧place cs s= -1)∨∃c,X=[c]∧c.num=s∧place cs s=(A.length:Int):=by
 rcases h.x with rfl|⟨c,rfl,hc⟩
 · refine .inl ⟨rfl,?_⟩;have:place cs s < 0:=Z19.2 fun c hc=>by
     rw [h.eq]at hc;simp only [List.append_nil,List.mem_append]at hc;rcases hc with hc|hc
     · exact h.lo_ne c hc
     · exact h.hi_ne c hc
   rcases Z8k cs s with h|h <;> omega
 · refine .inr ⟨c,rfl,hc,?_⟩;rw [h.eq,show A++[c]++B=A++c::B by simp];exact YB h.lo_ne hc
end
def ZaC (cs:List Cue) (s:List UInt8):Option Cue:=cs.find? fun c=>decide (0 < W4 c.num s)
theorem Z9b (l:Lis) (s:List UInt8):((names l).find? fun x=>decide (0 < W4 x s))=(ZaC l.cues s).map (·.num):=by
 simp only [names,ZaC,List.find?_map];rfl
theorem Split.next {cs A X B:List Cue} {s:List UInt8} (h:Split cs s A X B):ZaC cs s=B.head?:=by
 unfold ZaC;rw [h.eq,List.find?_append,List.find?_append];have e1:A.find? (fun c=>decide (0 < W4 c.num s))=none:=List.find?_eq_none.2 fun c hc=>by
   have:=h.lo c hc;unfold Yl at this;simp only [decide_eq_true_eq,Z3p];omega
 have e2:X.find? (fun c=>decide (0 < W4 c.num s))=none:=List.find?_eq_none.2 fun c hc=>by
   rcases h.x with rfl|⟨d,rfl,hd⟩
   · simp at hc
   · simp at hc;subst hc;simp only [decide_eq_true_eq,Z3p,hd];omega
 rw [e1,e2];cases B with
 |nil=>rfl
 | cons b B=>
   have:=h.hi b (by simp);unfold Yl at this;simp [Z3p,this]
theorem Split.rising {cs A X B:List Cue} {s:List UInt8} (h:Split cs s A X B) (hr:Wx cs):∀b B',B=b::B'→(∀c∈A++X,c.num≠b.num)∧∀c∈A,c.num≠b.num:=by
 rintro b B' rfl;have key:∀c∈A++X,c.num≠b.num:=fun c hc e=>by
   have h1:=h.hi b (by simp);unfold Yl at h1;rw [←e]at h1;rcases List.mem_append.1 hc with hc|hc
   · have:=h.lo c hc;unfold Yl at this;omega
   · rcases h.x with rfl|⟨d,rfl,hd⟩
     · simp at hc
     · simp at hc;subst hc;rw [hd]at h1;omega
 exact⟨key,fun c hc=>key c (by simp [hc])⟩
def zeroC:Cue:=⟨[],[],[],[],false,false,0,[],0⟩
def setC (c:Cue) (es:List Ent) (part:Int):Cue:= {c with moves:=Zh c.moves (givM es part)}
def setR (c:Cue) (es:List Ent) (part:Int):Cue×Int:=
 if J5 c≠0 then(zeroC,J5 c)else if Zo es≠0 then(zeroC,Zo es)else if part < 1∨(c.parts.length:Int) < part then(zeroC,6)
 else if 128 < (setC c es part).moves.length then(zeroC,5)else(setC c es part,0)
def Z4P (s:List UInt8):Cue:=⟨s,[],[],[zt],false,false, -1,[],0⟩
def ZfD (cs:List Cue) (s:List UInt8):Option Cue:=cs.find? fun c=>c.num==s
def oldC (cs:List Cue) (s:List UInt8):Cue:=(ZfD cs s).getD (Z4P s)
def WH (cs:List Cue) (i:Nat) (es:List Ent):List Cue:=cs.modify i fun c=>setC c es 1
def Ju (l:Lis):Lis×Int:=if 64 < l.cues.length∨(l.cues.any fun c=>decide (128 < c.moves.length))=true then(zeroL,5)else(l,0)
def ZV (cs:List Cue) (n:Nat) (d:Cue) (es:List Ent):List Ent:=(es.filter fun e=>!Wb e.pa d).map fun e=>⟨e.pa,W7 cs e.pa n⟩
def JM (cs:List Cue) (s:List UInt8) (es:List Ent) (part:Int) (only:Bool):List Cue:=
 match ZaC cs s with
 |none=>ins (setC (oldC cs s) es part) (without cs s)
 |some d=>if only=false∨d.block=true then ins (setC (oldC cs s) es part) (without cs s)else
     WH (ins (setC (oldC cs s) es part) (without cs s)) (place (ins (setC (oldC cs s) es part) (without cs s)) d.num).toNat (ZV cs ((place cs d.num).toNat+1) d es)
def Z3g (l:Lis) (s:List UInt8) (es:List Ent) (part:Int) (only:Bool):Lis×Int:=
 if W8 W4 l≠0 then(zeroL,W8 W4 l)else if Z4 s≠0 then(zeroL,Z4 s)else if Zo es≠0 then(zeroL,Zo es)
 else if part < 1∨((oldC l.cues s).parts.length:Int) < part then(zeroL,6)else Ju {l with cues:=JM l.cues s es part only}
def Wf (cs out:List Cue) (n:Nat):List Ent:=((Wl cs).filter fun p=>decide (W7 cs p (n+1)≠W7 out p n)).map fun p=>⟨p,W7 cs p (n+1)⟩
def Z0f (cs:List Cue) (s:List UInt8) (keep:Bool):List Cue:=
 if keep=false∨upto ⟨0,0,cs⟩ s=cs.length then without cs s else WH (without cs s) (upto ⟨0,0,cs⟩ s - 1) (Wf cs (without cs s) (upto ⟨0,0,cs⟩ s))
def Z3M (l:Lis) (s:List UInt8) (keep:Bool):Lis×Int:=if Jf l s≠0 then(zeroL,Jf l s)else Ju {l with cues:=Z0f l.cues s keep}
def Z1J (ms:List Mov) (e:Ent):List Mov:=ms.map fun m=>if m.pa=e.pa then {m with va:=e.va}else m
def updC (e:Ent) (c:Cue):Cue:= {c with moves:=Z1J c.moves e}
def upd1 (cs0:List Cue) (n:Nat) (cs:List Cue) (e:Ent):List Cue:=cs.modify (src cs0 e.pa n).toNat (updC e)
def srcd (cs0:List Cue) (n:Nat) (e:Ent):Bool:=decide (0≤src cs0 e.pa n)
def updL (cs0:List Cue) (n:Nat) (es:List Ent):List Cue:=(es.filter (srcd cs0 n)).foldl (upd1 cs0 n) cs0
def ownE (cs0:List Cue) (n:Nat) (es:List Ent):List Ent:=es.filter fun e=>!srcd cs0 n e
def JF (cs:List Cue) (n:Nat) (es:List Ent):List Cue:=WH (updL cs n es) (n - 1) (ownE cs n es)
def WM (l:Lis) (s:List UInt8) (es:List Ent):Lis×Int:=if Jf l s≠0 then(zeroL,Jf l s)else if Zo es≠0 then(zeroL,Zo es)else Ju {l with cues:=JF l.cues (upto l s) es}
def isTm (v:Int):Bool:=decide (0≤v)&&decide (v≤10000000)
def Z60 (t:Tim):Bool:=isTm t.up&&isTm t.down&&isTm t.pos&&isTm t.col&&isTm t.beam&&isTm t.delay
def YZ (l:Lis) (s:List UInt8) (part:Int) (t:Tim):Lis×Int:=
 if Jf l s≠0 then(zeroL,Jf l s)else
 match l.cues[upto l s - 1]? with
 |none=>(zeroL,6)
 |some c=>if part < 1∨(c.parts.length:Int) < part then(zeroL,6)else if Z60 t=false then(zeroL,2)else
     ({l with cues:=l.cues.set (upto l s - 1) {c with parts:=c.parts.set (part.toNat - 1) t}},0)
theorem Z3T {cs A X B:List Cue} {s:List UInt8} (h:Split cs s A X B):ZfD cs s=X.head?:=by
 unfold ZfD;rw [h.eq,List.find?_append,List.find?_append];have e1:A.find? (fun c=>c.num==s)=none:=List.find?_eq_none.2 fun c hc=>by simpa using h.lo_ne c hc
 have e3:B.find? (fun c=>c.num==s)=none:=List.find?_eq_none.2 fun c hc=>by simpa using h.hi_ne c hc
 rw [e1,e3];rcases h.x with rfl|⟨c,rfl,hc⟩
 · rfl
 · simp [hc]
theorem Z5s {cs A X B:List Cue} {s:List UInt8} (h:Split cs s A X B):(oldC cs s).num=s:=by
 unfold oldC;rw [Z3T h];rcases h.x with rfl|⟨c,rfl,hc⟩
 · rfl
 · exact hc
theorem Z8d (c:Cue) (es:List Ent) (part:Int):(setC c es part).num=c.num:=rfl
theorem Z2q {A B:List Cue} {d:Cue} {es:List Ent}:WH (A++d::B) A.length es=A++setC d es 1::B:=by
 unfold WH;induction A with
 |nil=>simp
 |cons a A ih=>simp only [List.cons_append,List.length_cons,List.modify_succ_cons,ih]
theorem Z5m {cs A X B:List Cue} {s:List UInt8} (h:Split cs s A X B) (hr:Wx cs) (es:List Ent) (part:Int) (only:Bool):
   (B=[]∧JM cs s es part only=A++[setC (oldC cs s) es part])∨
   ∃d B',B=d::B'∧JM cs s es part only=A++setC (oldC cs s) es part::(if only=false∨d.block=true then d else setC d (ZV cs ((A++X).length+1) d es) 1)::B':=by
 have hp:=h.ins (c:=setC (oldC cs s) es part) (by rw [Z8d];exact Z5s h);unfold JM;rw [h.without,hp,h.next];cases B with
 |nil=>exact .inl ⟨rfl,rfl⟩
 | cons d B'=>
   refine .inr ⟨d,B',rfl,?_⟩;simp only [List.head?_cons];obtain⟨g1,g2⟩:=h.rising hr d B' rfl;split
   · rfl
   · have e1:place (A++setC (oldC cs s) es part::d::B') d.num=((A++[setC (oldC cs s) es part]).length:Nat):=by
       rw [show A++setC (oldC cs s) es part::d::B'=(A++[setC (oldC cs s) es part])++d::B' by simp];refine YB (fun c hc=>?_) rfl;rcases List.mem_append.1 hc with hc|hc
       · exact g2 c hc
       · simp at hc;subst hc;rw [Z8d,Z5s h];exact fun e=>h.hi_ne d (by simp) e.symm
     have e2:place cs d.num=((A++X).length:Nat):=by
       rw [h.eq];exact YB g1 rfl
     rw [e1,e2];simp only [Int.toNat_natCast];rw [show A++setC (oldC cs s) es part::d::B'=(A++[setC (oldC cs s) es part])++d::B' by simp,Z2q];simp
theorem Z4W (q:Par→Bool) (g:Par→Val) (p:Par):∀ps:List Par,Z2F ((ps.filter q).map fun p=>(⟨p,g p⟩:Ent)) p=if p∈ps∧q p=true then some ⟨p,g p⟩else none
 | []=>by simp [Z2F]
 | x ::ps=>by
   have ih:=Z4W q g p ps;unfold Z2F at ih ⊢;by_cases hq:q x=true
   · rw [List.filter_cons_of_pos hq,List.map_cons,List.find?_cons];by_cases hx:x=p
     · subst hx;simp [hq]
     · have:¬p=x:=fun e=>hx e.symm
       simp only [hx,decide_false,ih,List.mem_cons,this,false_or]
   · rw [List.filter_cons_of_neg hq,ih];by_cases hx:p=x
     · subst hx;simp [hq]
     · simp [hx]
theorem Zdg {d:Cue} {p:Par} (h:Wb p d=false) (hb:d.block=false) (Z:List Cue):vl (d::Z) p=vl Z p:=by
 unfold Wb at h;simp only [vl];cases hm:Zb d.moves p with
 |some m=>rw [hm]at h;cases h
 |none=>simp [hb]
theorem Z9G {p:Par}:∀ {Z:List Cue},(∀c∈Z,Wb p c=false)→vl Z p=hval
 | [],_=>rfl
 | c ::Z,h=>by
   have hc:=h c (by simp);by_cases hb:c.block=true
   · unfold Wb at hc;simp only [vl];cases hm:Zb c.moves p with
     |some m=>rw [hm]at hc;cases hc
     |none=>simp [hb]
   · rw [Zdg hc (by simpa using hb)];exact Z9G fun d hd=>h d (by simp [hd])
theorem ZaE {p:Par} {c:Cue} (h:Wb p c=true) {cs:List Cue} (hc:c∈cs):p∈Wl cs:=by
 unfold Wb at h;obtain⟨m,hm⟩:=Option.isSome_iff_exists.1 h;rw [WF];refine List.mem_flatMap.2 ⟨c,hc,List.mem_map.2 ⟨m,List.mem_of_find?_eq_some hm,?_⟩⟩;simpa using List.find?_some hm
theorem ZaA {p:Par} {cs:List Cue} (h:p∉Wl cs):∀c∈cs,Wb p c=false:=fun c hc=>by
 rcases Bool.eq_false_or_eq_true (Wb p c)with h'|h'
 · exact absurd (ZaE h' hc) h
 · exact h'
theorem Z6B (cs:List Cue):(Wl cs).Nodup:=Z6x (Zv (by simp [Js]))
def leave (c:Cue) (W:Par→Val):List Mov:=c.moves.filter fun m=>decide (m.va≠W m.pa)
theorem Z6W {xs:List Ent}:∀(cs:List Ent) (i:Nat),cs=xs.drop i→(∀m∈cs,Z3 m.pa=0∧J8 m.va=0)→(∀j,i≤j→0 < j→(hj:j < xs.length)→W3 (xs[j - 1]'(by omega)).pa (xs[j]).pa=true)→YX xs i cs=0
 | [],_,_,_,_=>rfl
 | c ::cs,i,he,h1,h2=>by
   have hlt:i < xs.length:=by
     rcases Nat.lt_or_ge i xs.length with h|h
     · exact h
     · rw [List.drop_eq_nil_of_le h]at he;cases he
   rw [List.drop_eq_getElem_cons hlt]at he;obtain⟨rfl,rfl⟩:=List.cons.inj he;have hc:=h1 _ List.mem_cons_self;have ih:=Z6W (xs.drop (i+1)) (i+1) rfl (fun m hm=>h1 m (List.mem_cons_of_mem _ hm)) (fun j a b hj=>h2 j (by omega) b hj);have e0:e15 xs[i]=0:=by unfold e15;rw [if_neg (by simp [hc.1])];exact hc.2
   simp only [YX];rw [if_neg (by simp [e0]),if_neg]
   · exact ih
   · rintro⟨h0,hb⟩;have:=h2 i (Nat.le_refl _) h0 hlt;rw [getElem!_pos xs (i - 1) (by omega)]at hb;rw [this]at hb;cases hb
structure RightEs (es:List Ent):Prop where
 par:∀e∈es,Z3 e.pa=0
 val:∀e∈es,J8 e.va=0
 rising:es.Pairwise fun a b=>W3 a.pa b.pa=true
theorem RightE.es {es:List Ent} (h:RightE es):RightEs es:=⟨h.par,h.val,h.rising⟩
theorem RightEs.nodup {es:List Ent} (h:RightEs es):(es.map (·.pa)).Nodup:=by
 rw [List.Nodup,List.pairwise_map];exact h.rising.imp fun {a b} hab e=>by rw [e,Wa]at hab;cases hab
theorem RightEs.each {n:Nat} {es:List Ent} (h:RightEs es) {part:Int} (h1:1≤part) (h2:part≤(n:Int)):∀m∈givM es part,Z3 m.pa=0∧J8 m.va=0∧1≤m.part∧m.part≤(n:Int):=by
 intro m hm;obtain⟨e,he,rfl⟩:=List.mem_map.1 hm;exact⟨h.par e he,h.val e he,h1,h2⟩
theorem RightEs.filter {es:List Ent} (h:RightEs es) (p:Ent→Bool):RightEs (es.filter p):=
 ⟨fun e he=>h.par e (List.mem_filter.1 he).1,fun e he=>h.val e (List.mem_filter.1 he).1,h.rising.filter p⟩
theorem RightEs.revalue {es:List Ent} (h:RightEs es) (g:Par→Val) (hg:∀e∈es,J8 (g e.pa)=0):RightEs (es.map fun e=>(⟨e.pa,g e.pa⟩:Ent)):=by
 refine⟨fun e he=>?_,fun e he=>?_,?_⟩
 · obtain⟨x,hx,rfl⟩:=List.mem_map.1 he;exact h.par x hx
 · obtain⟨x,hx,rfl⟩:=List.mem_map.1 he;exact hg x hx
 · rw [List.pairwise_map];exact h.rising
theorem RightEs.ofPars {ps:List Par} (hr:Js ps) (hp:∀p∈ps,Z3 p=0) (g:Par→Val) (hg:∀p,J8 (g p)=0):RightEs (ps.map fun p=>(⟨p,g p⟩:Ent)):=by
 refine⟨fun e he=>?_,fun e he=>?_,?_⟩
 · obtain⟨x,hx,rfl⟩:=List.mem_map.1 he;exact hp x hx
 · obtain⟨x,hx,rfl⟩:=List.mem_map.1 he;exact hg x
 · rw [List.pairwise_map];exact hr
theorem Z1V {es:List Ent} (h:Zo es=0):es.length≤4096:=by
 unfold Zo at h;split at h
 · cases h
 · omega
theorem Zb5 {es:List Ent} (h:RightEs es) (hl:es.length≤4096):Zo es=0:=by
 unfold Zo;rw [if_neg (by omega)];refine Z6W es 0 rfl (fun m hm=>⟨h.par m hm,h.val m hm⟩) fun j _ h0 hj=>?_
 exact List.pairwise_iff_getElem.1 h.rising (j - 1) j (by omega) hj (by omega)
theorem Z6l {q:Par→Bool} {m:Mov} (hq:q m.pa=true):∀a:List Mov,1+(a.filter fun x=>q x.pa&&!decide (x.pa=m.pa)).length≤((putM a m).filter fun x=>q x.pa).length
 | []=>by simp [putM,hq]
 | x ::a=>by
   have ih:=Z6l hq a;simp only [putM];split
   · rename_i hb;have hne:x.pa≠m.pa:=fun e=>by rw [e,Wa]at hb;cases hb
     by_cases hx:q x.pa=true
     · rw [List.filter_cons_of_pos (by simp [hx,hne]),List.filter_cons_of_pos (p:=fun x:Mov=>q x.pa) hx,List.length_cons,List.length_cons];omega
     · rw [List.filter_cons_of_neg (by simp [hx]),List.filter_cons_of_neg (p:=fun x:Mov=>q x.pa) hx];exact ih
   have sub:(a.filter fun x=>q x.pa&&!decide (x.pa=m.pa)).length≤(a.filter fun x=>q x.pa).length:=by
     have:(a.filter fun x=>q x.pa&&!decide (x.pa=m.pa))=(a.filter fun x=>q x.pa).filter fun x=>!decide (x.pa=m.pa):=by
       rw [List.filter_filter];congr 1;funext y;rw [Bool.and_comm]
     rw [this];exact List.length_filter_le _ _
   split
   · rename_i hb he;rw [List.filter_cons_of_neg (by simp [he]),List.filter_cons_of_pos (p:=fun x:Mov=>q x.pa) hq,List.length_cons];omega
   · rename_i hb he;rw [List.filter_cons_of_pos (p:=fun x:Mov=>q x.pa) hq,List.length_cons];by_cases hx:q x.pa=true
     · rw [List.filter_cons_of_pos (by simp [hx,he]),List.filter_cons_of_pos (p:=fun x:Mov=>q x.pa) hx,List.length_cons,List.length_cons];omega
     · rw [List.filter_cons_of_neg (by simp [hx]),List.filter_cons_of_neg (p:=fun x:Mov=>q x.pa) hx];omega
theorem Z6C:∀ {b a:List Mov},(b.map (·.pa)).Nodup→b.length+(a.filter fun x=>!(b.map (·.pa)).contains x.pa).length≤(Zh a b).length
 | [],a,_=>by simp [Zh];exact List.length_filter_le _ _
 | m ::b,a,hn=>by
   simp only [List.map_cons,List.nodup_cons]at hn;have ih:=Z6C (b:=b) (a:=putM a m) hn.2;have hq:(!(b.map (·.pa)).contains m.pa)=true:=by simpa using hn.1
   have hk:=Z6l (q:=fun p=>!(b.map (·.pa)).contains p) hq a;have e:(a.filter fun x=>!((m::b).map (·.pa)).contains x.pa)=a.filter fun x=>(!(b.map (·.pa)).contains x.pa)&&!decide (x.pa=m.pa):=by
     congr 1;funext x;simp only [List.map_cons,List.contains_cons,Bool.not_or];rw [Bool.and_comm];congr 1
   rw [e];show _≤(Zh (putM a m) b).length;simp only [List.length_cons];omega
theorem Z0Y {d:Cue} {es:List Ent} (hd:J5 d=0) (he:RightEs es):setR d es 1=if 128 < (setC d es 1).moves.length then(zeroC,5)else(setC d es 1,0):=by
 have hC:=Z0H hd;have h1:=hC.one;unfold setR;rw [if_neg (by simp [hd])];by_cases hl:es.length≤4096
 · rw [if_neg (by simp [Zb5 he hl]),if_neg (by omega)]
 · have h5:Zo es=5:=by unfold Zo;rw [if_pos (by omega)]
   have hge:=Z6C (b:=givM es 1) (a:=d.moves) (Z7D he.nodup 1);have hll:(givM es 1).length=es.length:=by simp [givM]
   rw [h5,if_pos (by decide),if_pos (by show 128 < (Zh d.moves (givM es 1)).length;omega)]
theorem Z7S {d:Cue} {es:List Ent} (hd:J5 d=0) (he:RightEs es) {part:Int} (h1:1≤part) (h2:part≤(d.parts.length:Int)) (hl:¬128 < (setC d es part).moves.length):J5 (setC d es part)=0:=
 Z0g hd ((Z0H hd).rc.merge (he.each h1 h2)) (by show(setC d es part).moves.length≤128;omega)
theorem YE {l:Lis} (h1:l.cues.length≤64) (h2:∀c∈l.cues,c.moves.length≤128):Ju l=(l,0):=by
 unfold Ju;rw [if_neg];rintro(h|h)
 · omega
 · obtain⟨c,hc,h⟩:=List.any_eq_true.1 h;have:=h2 c hc;simp only [decide_eq_true_eq]at h;omega
theorem Z28 {l:Lis} (h:64 < l.cues.length):Ju l=(zeroL,5):=by unfold Ju;rw [if_pos (.inl h)]
theorem YA {l:Lis} {c:Cue} (hc:c∈l.cues) (h:128 < c.moves.length):Ju l=(zeroL,5):=by
 unfold Ju;rw [if_pos (.inr (List.any_eq_true.2 ⟨c,hc,by simpa using h⟩))]
theorem Z5P {s:List UInt8} (h:Z4 s=0):J5 (Z4P s)=0:=by
 unfold J5 Z4P;simp only;rw [if_neg (by simp [h])];rfl
theorem Z7z {cs:List Cue} {n:Nat} {d:Cue} {es:List Ent} (h:RightEs es) (hv:∀p,J8 (W7 cs p n)=0):RightEs (ZV cs n d es):=
 (h.filter _).revalue (fun p=>W7 cs p n) fun e _=>hv e.pa
theorem Z4a {l:Lis} (hl:l.Ok) (h:W8 W4 l=0) (out:List Cue) (n:Nat):RightEs (Wf l.cues out n):=
 .ofPars ((Zv (by simp [Js])).filter _) (fun p hp=>(Z04 (WG hl h) p (List.mem_filter.1 hp).1).2) (fun p=>W7 l.cues p (n+1)) fun p=>Z1B h p (n+1)
theorem WO (ms:List Mov) (e:Ent):(Z1J ms e).map (·.pa)=ms.map (·.pa):=by
 simp only [Z1J,List.map_map];refine List.map_congr_left fun m _=>?_
 simp only [Function.comp_apply];split <;> rfl
theorem Z65 {ms:List Mov} {e:Ent} {m:Mov} (h:m∈Z1J ms e):∃x∈ms,m.pa=x.pa∧m.part=x.part∧(m.va=x.va∨m.va=e.va):=by
 obtain⟨x,hx,rfl⟩:=List.mem_map.1 h;refine⟨x,hx,?_⟩;split
 · exact⟨rfl,rfl,.inr rfl⟩
 · exact⟨rfl,rfl,.inl rfl⟩
theorem Z4r {a b:List Mov} (h:a.map (·.pa)=b.map (·.pa)) (hb:Jg b):Jg a:=by
 have h1:(b.map (·.pa)).Pairwise fun x y=>W3 x y=true:=by rw [List.pairwise_map];exact hb
 rw [←h,List.pairwise_map]at h1;exact h1
theorem ZbS {n:Nat} {ms:List Mov} {e:Ent} (h:RC n ms) (he:J8 e.va=0):RC n (Z1J ms e):=
 ⟨Z4r (WO ms e) h.rising,fun m hm=>by
   obtain⟨x,hx,h1,h2,h3⟩:=Z65 hm;have:=h.each x hx;refine⟨by rw [h1];exact this.1,?_,by omega,by omega⟩;rcases h3 with h3|h3
   · rw [h3];exact this.2.1
   · rw [h3];exact he⟩
theorem Zdj {c:Cue} {e:Ent} (h:J5 c=0) (he:J8 e.va=0):J5 (updC e c)=0:=
 Z0g h (ZbS (Z0H h).rc he) (by have:=congrArg List.length (WO c.moves e);have:=(Z0H h).len;simp at *;omega)
theorem Z1E {c:Cue} {e:Ent} (h:c.Ok) (he:e.Ok):(updC e c).Ok:=by
 have hm:∀m∈(updC e c).moves,m.Ok:=by
   intro m hm;obtain⟨x,hx,h1,h2,h3⟩:=Z65 hm;have hxo:=h.moves x hx;refine⟨by rw [h1];exact hxo.1,?_,by rw [h2];exact hxo.2.2⟩;rcases h3 with h3|h3
   · rw [h3];exact hxo.2.1
   · rw [h3];exact he.2
 exact {h with moves:=hm}
structure Kin (cs out:List Cue):Prop where
 len:out.length=cs.length
 num:∀(j:Nat) (h1:j < out.length) (h2:j < cs.length),out[j].num=cs[j].num
 pas:∀(j:Nat) (h1:j < out.length) (h2:j < cs.length),out[j].moves.map (·.pa)=cs[j].moves.map (·.pa)
 blk:∀(j:Nat) (h1:j < out.length) (h2:j < cs.length),out[j].block=cs[j].block
 ck:∀c∈out,J5 c=0
 ok:∀c∈out,c.Ok
theorem Kin.self {cs:List Cue} (h1:∀c∈cs,J5 c=0) (h2:∀c∈cs,c.Ok):Kin cs cs:=⟨rfl,fun _ _ _=>rfl,fun _ _ _=>rfl,fun _ _ _=>rfl,h1,h2⟩
theorem ZF {X:Type} {l:List X} {i j:Nat} {f:X→X} (hj:j < (l.modify i f).length):(l.modify i f)[j]=if i=j then f (l[j]'(by simpa using hj))else l[j]'(by simpa using hj):=by
 have hj':j < l.length:=by simpa using hj
 have:(l.modify i f)[j]? =some (if i=j then f l[j]else l[j]):=by
   rw [List.getElem?_modify,List.getElem?_eq_getElem hj'];by_cases h:i=j <;> simp [h]
 exact(List.getElem?_eq_some_iff.1 this).2
theorem Kin.upd {cs out:List Cue} (h:Kin cs out) {e:Ent} (he:e.Ok) (hv:J8 e.va=0) (i:Nat):Kin cs (out.modify i (updC e)) where
 len:=by simp [h.len]
 num:=fun j h1 h2=>by
   rw [ZF];have:=h.num j (by simpa using h1) h2;split <;> exact this
 pas :=fun j h1 h2=>by
   rw [ZF];have:=h.pas j (by simpa using h1) h2;split
   · show(Z1J _ e).map (·.pa)=_;rw [WO];exact this
   · exact this
 blk:=fun j h1 h2=>by
   rw [ZF];have:=h.blk j (by simpa using h1) h2;split <;> exact this
 ck:=fun c hc=>by
   obtain⟨j,hj,rfl⟩:=List.getElem_of_mem hc;rw [ZF];have:=h.ck _ (List.getElem_mem (l:=out) (n:=j) (by simpa using hj));split
   · exact Zdj this hv
   · exact this
 ok:=fun c hc=>by
   obtain⟨j,hj,rfl⟩:=List.getElem_of_mem hc;rw [ZF];have:=h.ok _ (List.getElem_mem (l:=out) (n:=j) (by simpa using hj));split
   · exact Z1E this he
   · exact this
theorem Z4M {s:List UInt8}:∀ {a b:List Cue} {i:Nat},a.map (·.num)=b.map (·.num)→ZC (fun c:Cue=>c.num==s) i a=ZC (fun c:Cue=>c.num==s) i b
 | [],[],_,_=>rfl
 | [],_::_,_,h=>by simp at h
 |_::_,[],_,h=>by simp at h
 | x::a,y::b,i,h=>by
   simp only [List.map_cons,List.cons.injEq]at h;simp only [ZC,h.1,Z4M (i:=i+1) h.2]
theorem Z90 {a b:List Cue} (h:a.map (·.num)=b.map (·.num)) (s:List UInt8):place a s=place b s:=Z4M h
theorem Kin.nums {cs out:List Cue} (h:Kin cs out):out.map (·.num)=cs.map (·.num):=by
 apply List.ext_getElem
 · simp [h.len]
 · intro i h1 h2;simp only [List.getElem_map];exact h.num i (by simpa using h1) (by simpa using h2)
theorem Z4J {a b:List Mov} (h:a.map (·.pa)=b.map (·.pa)) (p:Par):(Zb a p).isSome=(Zb b p).isSome:=by
 have e:∀l:List Mov,(Zb l p).isSome=(l.map (·.pa)).any fun q=>decide (q=p):=fun l=>by
   rw [←Z0k,List.any_map];rfl
 rw [e,e,h]
theorem Z66 {ms:List Mov} {e:Ent} {k:Nat} (hr:Jg ms) (hk:k < ms.length) (hp:ms[k].pa=e.pa):
   ((ms.map Mov.enc).modify k fun x=>Ze x 2 [.int .i64 e.va.pal,.int .i64 e.va.lev])=(Z1J ms e).map Mov.enc:=by
 apply List.ext_getElem?;intro i;rw [List.getElem?_modify,List.getElem?_map,Z1J,List.map_map,List.getElem?_map];by_cases hi:i < ms.length
 · rw [List.getElem?_eq_getElem hi];by_cases h:k=i
   · subst h;simp [hp,Ze,Mov.enc]
   · have hne:ms[i].pa≠e.pa:=fun he=>by
       rw [←hp]at he;rcases Nat.lt_or_gt_of_ne h with h|h
       · have:=List.pairwise_iff_getElem.1 hr k i hk hi h;rw [he,Wa]at this;cases this
       · have:=List.pairwise_iff_getElem.1 hr i k hi hk h;rw [he,Wa]at this;cases this
     simp [h,hne]
 · rw [List.getElem?_eq_none (by omega)];by_cases h:k=i <;> simp [h]
theorem Z9K (cs0:List Cue) (n:Nat) (e:Ent) (es:List Ent) (out:List Cue):((e::es).filter (srcd cs0 n)).foldl (upd1 cs0 n) out=(es.filter (srcd cs0 n)).foldl (upd1 cs0 n) (if srcd cs0 n e then upd1 cs0 n out e else out):=by
 rw [List.filter_cons];cases srcd cs0 n e <;> rfl
theorem Zat (cs0:List Cue) (n:Nat) (e:Ent) (es:List Ent):ownE cs0 n (e::es)=(if srcd cs0 n e then []else [e])++ownE cs0 n es:=by
 unfold ownE;rw [List.filter_cons];cases srcd cs0 n e <;> rfl
end Go.Sx.La
namespace Go.Sx.La
open Go Go.Sx
end Go.Sx.La
open Go Go.Proofs Go.RowKit
namespace Go.Sx
theorem ZK {P:Program} (w:World) (dT sT ty elem:TypeId) (i:TypeInfo) (hu:P.underlying dT=some (.slice elem)) (hi:P.info? elem=some i)
   (g o dLen dCap:Nat) (x:Value) (n:Nat) (cs:List Value) (cur:Array Value) (t:TypeId) (hg:w.heap[g]? =some (.cells cur t (0,0)))
   (hl:(Builtin.lenOf x).run P w=.ok n w) (hf:(Builtin.firstCells i.size (Nat.min n dLen) x).run P w=.ok cs.toArray w) (hfit:o+cs.length≤cur.size) (h1:∀v∈cs,v.oneCell'=true):
   (Builtin.copy_ #[dT,sT] ty #[.slice (some ⟨g,o,none⟩) dLen dCap,x]).run P w=.ok (goInt (Nat.min n dLen)) (w.setRow g (putCells cur o cs)):=by
 have hst:=run_storeCells_at P g o t cs 0 cur w hg (by simpa using hfit) h1;have hs:=WZ cur o cs (by simpa using hfit);simp only [Nat.add_zero]at hst;rw [hs]at hst;simp [Builtin.copy_,run_underlying hu,sizeOf,typeInfo,hi,hl,hf,hst]
theorem WC {P:Program} {w:World} {g:Nat} {cur:Array Value} {t:TypeId} {fz:Nat×Nat} (hg:w.heap[g]? =some (.cells cur t fz)) (e n o len c:Nat) (hfit:o+n * e≤cur.size):
   (Builtin.firstCells e n (.slice (some ⟨g,o,none⟩) len c)).run P w=.ok (W2 cur o (n * e)).toArray w:=by
 refine run_firstCells_some w e n ⟨g,o,none⟩ len c (W2 cur o (n * e)) (J6 hfit) fun j v hj=>?_
 have hjl:j < n * e:=by
   have:=(List.getElem?_eq_some_iff.1 hj).1;rw [J6 hfit]at this;exact this
 rw [Y7 hjl]at hj;rw [Addr.add_lit];simp [World.cell?,hg,hj]
theorem Z9E {P:Program} (w:World) {o:Oper} {a:Act} {K:Act→World→Prop} {Q:Exit→Act→World→Prop} (d s:Operand) (t t':TypeId)
   (ho:o.op=.call {callee:=.builtin .copy,args:= #[d,s],argTypes:= #[t,t']}) (v u:Value) (hd:a.eval d=v) (hs:a.eval s=u) {v':Value} {w':World}
   (hr:(Builtin.copy_ #[t,t'] o.type #[v,u]).run P w=.ok v' w') (h:K (a.put o.dst v') w'):o.wp P a w K Q:=by
 unfold Oper.wp execOp;simp only [ho,resolve,invoke,builtin,Sem.run_bind,Sem.run_pure,Result.andThen_ok,List.map_toArray,List.map_cons,List.map_nil,hd,hs,hr];exact h
theorem Z0C {P:Program} (w:World) {ops:Array Oper} {rest:List Oper} {o:Oper} {a:Act} {Q:Exit→Act→World→Prop} (hgd:o.guard=none) (d s:Operand) (t t':TypeId)
   (ho:o.op=.call {callee:=.builtin .copy,args:= #[d,s],argTypes:= #[t,t']}) (v u:Value) (hd:a.eval d=v) (hs:a.eval s=u) {v':Value} {w':World}
   (hr:(Builtin.copy_ #[t,t'] o.type #[v,u]).run P w=.ok v' w') (h:wpList P ops Q rest (a.put o.dst v') w'):wpList P ops Q (o::rest) a w:=
 wpList_plain hgd fun _ hK=>Z9E w d s t t' ho v u hd hs hr (hK _ _ h)
theorem Z63 {P:Program} {ops:Array Oper} {o:Oper} {a:Act} {w:World} {K:Act→World→Prop} {Q:Exit→Act→World→Prop} {E:Prop}
   (hg:o.guard=none) (d x:Operand) (dT sT:TypeId) (hop:o.op=Op.call {callee:=Callee.builtin Builtin.copy,args:= #[d,x],argTypes:= #[dT,sT]})
   (v u:Value) (hd:a.eval d=v) (hx:a.eval x=u) {v':Value} {w':World} (hr:(Builtin.copy_ #[dT,sT] o.type #[v,u]).run P w=.ok v' w') (hK:K (a.put o.dst v') w'):
   if Region.wanted o (yielded ops a.tmps)=true then Oper.wp P o a w K Q else E:=by
 have hw:Region.wanted o (yielded ops a.tmps)=true:=by simp [Region.wanted,hg]
 rw [if_pos hw];exact Z9E w d x dT sT hop v u hd hx hr hK
theorem u35:Tryz.prog.underlying 35=some (.slice 67):=by kernel_rfl
theorem u3:Tryz.prog.underlying 3=some (.int .i64):=by kernel_rfl
theorem i67:∃i z,Tryz.prog.info? 67=some i∧i.size=5∧i.zero=some z∧i.bytes=40∧z.cells.size=5:=by
 have h:(Tryz.prog.info? 67).map (fun i=>(i.size,i.bytes,i.zero.map fun z=>z.cells.size))=some (5,40,some 5):=by kernel_rfl
 obtain⟨i,hi,h⟩:=Option.map_eq_some_iff.1 h;simp only [Prod.mk.injEq,Option.map_eq_some_iff]at h;obtain⟨h1,h2,z,h3,h4⟩:=h;exact⟨i,z,hi,h1,h3,h2,h4⟩
set_option maxHeartbeats 4000000 in
theorem ZaR (b n c i vb vc:Nat) (cur vcur:Array Value) (t tv:TypeId) (w:World) (hb:w.heap[b]? =some (.cells cur t (0,0))) (hv:w.heap[vb]? =some (.cells vcur tv (0,0))) (hvb:vb≠b)
   (hi:i < n) (hroom:n+1≤c) (hc63:c≤9223372036854775807) (hsz:cur.size=c * 5) (hvsz:5≤vcur.size)
   (h1c:∀u∈W2 cur 0 (n * 5),u.oneCell'=true) (h1v:∀u∈W2 vcur 0 5,u.oneCell'=true):
   Calls Tryz.prog 191 #[.slice (some ⟨b,0,none⟩) n c,.int .i64 i,.slice (some ⟨vb,0,none⟩) 1 vc] w fun e w'=>
     e=.returned (.slice (some ⟨b,0,none⟩) (n+1) c)∧w'=(w.drew.setRow b (putCells cur ((i+1) * 5) (W2 cur (i * 5) ((n - i) * 5)))).setRow b (putCells (putCells cur ((i+1) * 5) (W2 cur (i * 5) ((n - i) * 5))) (i * 5) (W2 vcur 0 5)):=by
 obtain⟨inf,z,hinf,hsz2,hz,hbytes,hzc⟩:=i67;have t35:=u35;have t3:=u3;have mixed:Tryz.prog.follows Departure.mixedOrders=true:=by kernel_rfl
 have hz2:¬((i:Int)=(n:Int)):=by omega
 have hsh:∀g (arr:Array Value) ty,w.heap[g]? =some (.cells arr ty (0,0))→w.shape? g=some (ty,arr.size):=fun g arr ty h=>by simp [World.shape?,h]
 have hov:∀lb cb,(callFunc 222 #[.slice (some ⟨vb,0,none⟩) 1 vc,.slice (some ⟨b,(i+1) * 5,none⟩) lb cb]).run Tryz.prog w=.ok (.value (.bool false)) w:=fun lb cb=>by
   rw [run_callFunc_extern Tryz.func222 (by kernel_rfl) (by kernel_rfl) (by kernel_rfl) (e:=Extern.SlicesOverlaps.overlaps #[35,35] #[4]) (by kernel_rfl),
     Lib.run_overlaps_apart w 35 4 67 u35 5 (fun w=>by simp [sizeOf,typeInfo,hinf,hsz2]) ⟨vb,0,none⟩ ⟨b,(i+1) * 5,none⟩ 1 vc lb cb hvb tv t vcur.size cur.size (hsh _ _ _ hv) (hsh _ _ _ hb) (by omega) (by simp [World.frozen?,hv]) (by simp [World.frozen?,hv])]
   rfl
 obtain⟨A1,hA1⟩:∃A1,A1=putCells cur ((i+1) * 5) (W2 cur (i * 5) ((n - i) * 5)):=⟨_,rfl⟩
 have hl1:(W2 cur (i * 5) ((n - i) * 5)).length=(n - i) * 5:=J6 (by omega);have hl2:(W2 vcur 0 5).length=5:=J6 (by omega);have hA1s:A1.size=cur.size:=by rw [hA1,Y9]
 have hcp1:∀ty dc sc,(Builtin.copy_ #[35,35] ty #[.slice (some ⟨b,(i+1) * 5,none⟩) (n - i) dc,.slice (some ⟨b,i * 5,none⟩) (n+1 - i) sc]).run Tryz.prog w.drew=.ok (goInt ((n - i:Nat):Int)) (w.drew.setRow b A1):=fun ty dc sc=>by
   have h:=ZK w.drew 35 35 ty 67 inf u35 hinf b ((i+1) * 5) (n - i) dc (.slice (some ⟨b,i * 5,none⟩) (n+1 - i) sc) (n+1 - i) (W2 cur (i * 5) ((n - i) * 5)) cur t hb (by simp [Builtin.lenOf])
     (by rw [hsz2,show Nat.min (n+1 - i) (n - i)=n - i by simp only [Nat.min_def];split <;> omega];exact WC (w:=w.drew) hb 5 (n - i) (i * 5) _ _ (by omega)) (by rw [hl1];omega)
     (fun u hu=>by
       obtain⟨q,hq,rfl⟩:=List.mem_iff_getElem.1 hu;refine h1c _ (List.mem_of_getElem? (i:=i * 5+q) ?_);have hq2:q < (n - i) * 5:=by simpa [hl1]using hq
       have h1:=Y7 (arr:=cur) (off:=i * 5) hq2;rw [Y7 (by omega),Nat.zero_add, ←h1,List.getElem?_eq_getElem])
   rw [show Nat.min (n+1 - i) (n - i)=n - i by simp only [Nat.min_def];split <;> omega]at h;rw [hA1];exact h
 have hcp2:∀(W:World),W.heap=(w.drew.setRow b A1).heap→∀ty dc,(Builtin.copy_ #[35,35] ty #[.slice (some ⟨b,i * 5,none⟩) (n+1 - i) dc,.slice (some ⟨vb,0,none⟩) 1 vc]).run Tryz.prog W=.ok (goInt 1) (W.setRow b (putCells A1 (i * 5) (W2 vcur 0 5))):=fun W hW ty dc=>by
   have hbW:W.heap[b]? =some (.cells A1 t (0,0)):=by rw [hW];exact setRow_heap w.drew b cur A1 t (0,0) hb
   have hvW:W.heap[vb]? =some (.cells vcur tv (0,0)):=by rw [hW,setRow_other w.drew b vb A1 (by omega)];exact hv
   have h:=ZK W 35 35 ty 67 inf u35 hinf b (i * 5) (n+1 - i) dc (.slice (some ⟨vb,0,none⟩) 1 vc) 1 (W2 vcur 0 5) A1 t hbW (by simp [Builtin.lenOf])
     (by rw [hsz2,show Nat.min 1 (n+1 - i)=1 by simp only [Nat.min_def];split <;> omega];exact WC hvW 5 1 0 _ _ (by omega)) (by rw [hl2];omega) h1v
   rw [show Nat.min 1 (n+1 - i)=1 by simp only [Nat.min_def];split <;> omega]at h;exact h
 rw [←hA1];clear hA1 hA1s hl1 hl2 h1c h1v;have hn1:n+1 - (i+1)=n - i:=by omega
 have hw1:IntKind.i64.wrap ((i:Int)+1)=(i:Int)+1:=by rw [IntKind.wrap_i64];omega
 have hb1:(0:Int)≤(i:Int)+1:=by omega
 have hin:i≤n:=by omega
 have htn:((i:Int)+1).toNat=i+1:=by omega
 have hb2:¬(c=i+1):=by omega
 have hb3:(i:Int)≤(n:Int)+1:=by omega
 have hb4:¬(c=i):=by omega
 go_enter Tryz.func191,Tryz.ntmps191
 go_wp2_with (simp only [hov])
 go_region_law_o (refine Z63 rfl _ _ 35 35 rfl _ _ (by simp [Act.eval,Act.put]) (by simp [Act.eval,Act.put]) (hcp1 _ _ _) ?_)
 go_wp2_with (at_builtin;refine Z0C _ rfl _ _ 35 35 rfl _ _ rfl rfl (hcp2 _ rfl _ _) ?_)
 go_ret
 exact⟨rfl,rfl⟩
set_option maxHeartbeats 4000000 in
theorem Z6N (b n c vb vc:Nat) (cur vcur:Array Value) (t tv:TypeId) (w:World) (hb:w.heap[b]? =some (.cells cur t (0,0))) (hv:w.heap[vb]? =some (.cells vcur tv (0,0)))
   (hroom:n+1≤c) (hc63:c≤9223372036854775807) (hsz:cur.size=c * 5) (hvsz:5≤vcur.size) (h1v:∀u∈W2 vcur 0 5,u.oneCell'=true):
   Calls Tryz.prog 191 #[.slice (some ⟨b,0,none⟩) n c,.int .i64 n,.slice (some ⟨vb,0,none⟩) 1 vc] w fun e w'=>
     e=.returned (.slice (some ⟨b,0,none⟩) (n+1) c)∧w'=w.setRow b (putCells cur (n * 5) (W2 vcur 0 5)):=by
 obtain⟨inf,z,hinf,hsz2,hz,hbytes,hzc⟩:=i67;have t35:=u35;have t3:=u3;have mixed:Tryz.prog.follows Departure.mixedOrders=true:=by kernel_rfl
 have hl2:(W2 vcur 0 5).length=5:=J6 (by omega);have hrun:∀ty,(Builtin.append_ #[35,35] ty #[.slice (some ⟨b,0,none⟩) n c,.slice (some ⟨vb,0,none⟩) 1 vc]).run Tryz.prog w=.ok (.slice (some ⟨b,0,none⟩) (n+1) c) (w.setRow b (putCells cur (n * 5) (W2 vcur 0 5))):=fun ty=>by
   have h:=JC (P:=Tryz.prog) (w:=w) 35 ty 67 t inf u35 hinf b n c cur hb (.slice (some ⟨vb,0,none⟩) 1 vc) 1 (W2 vcur 0 5) (by simp [Builtin.lenOf]) (by rw [hsz2];exact WC hv 5 1 0 _ _ (by omega)) h1v hroom (by rw [hsz2,hl2];omega);rw [hsz2,WZ _ _ _ (by rw [hl2];omega)]at h;exact h
 clear hl2 h1v
 go_enter Tryz.func191,Tryz.ntmps191
 go_wp2_with (at_builtin;refine Lib.wpList_append_run _ rfl _ _ _ _ rfl _ _ rfl rfl _ _ (hrun _) ?_)
 go_ret
 exact⟨rfl,rfl⟩
set_option maxHeartbeats 4000000 in
theorem Z6O (base:Option Addr) (n c vb vc:Nat) (olds vcur:Array Value) (tv:TypeId) (w:World) (hold:(Builtin.firstCells 5 n (.slice base n c)).run Tryz.prog w.drew=.ok olds w.drew) (hnil:base=none→n=0) (hv:w.heap[vb]? =some (.cells vcur tv (0,0)))
   (hnc:n≤c) (hroom:c < n+1) (hn:n≤1000000) (hvsz:5≤vcur.size):
   Calls Tryz.prog 191 #[.slice base n c,.int .i64 n,.slice (some ⟨vb,0,none⟩) 1 vc] w fun e w'=>
     ∃z:Value,z.cells.size=5∧e=.returned (.slice (some ⟨w.heap.size,0,none⟩) (n+1) (grownCap w (n+1) c 67))∧
     w'=w.drew.alloc (.cells (olds++(W2 vcur 0 5).toArray++Builtin.zeroCells z.cells (grownCap w (n+1) c 67 - (n+1))) 67):=by
 obtain⟨inf,z,hinf,hsz2,hz,hbytes,hzc⟩:=i67;have t35:=u35;have t3:=u3;have mixed:Tryz.prog.follows Departure.mixedOrders=true:=by kernel_rfl
 obtain⟨ROW,hROW⟩:∃ROW,ROW=olds++(W2 vcur 0 5).toArray++Builtin.zeroCells z.cells (grownCap w (n+1) c 67 - (n+1)):=⟨_,rfl⟩
 have hrun:∀ty,(Builtin.append_ #[35,35] ty #[.slice base n c,.slice (some ⟨vb,0,none⟩) 1 vc]).run Tryz.prog w=.ok (.slice (some ⟨w.heap.size,0,none⟩) (n+1) (grownCap w (n+1) c 67)) (w.drew.alloc (.cells ROW 67)):=fun ty=>by
   rw [hROW];exact Wr w 35 ty 67 inf z u35 hinf hz base n c olds (by rw [hsz2];exact hold) (.slice (some ⟨vb,0,none⟩) 1 vc) 1 (W2 vcur 0 5).toArray (by simp [Builtin.lenOf]) (by rw [hsz2];exact WC (w:=w.drew) hv 5 1 0 _ _ (by omega)) hroom (by omega)
     (by rw [hbytes];exact growslice_fits hroom (by omega))
 suffices hh:Calls Tryz.prog 191 #[.slice base n c,.int .i64 n,.slice (some ⟨vb,0,none⟩) 1 vc] w (fun e w'=>e=.returned (.slice (some ⟨w.heap.size,0,none⟩) (n+1) (grownCap w (n+1) c 67))∧w'=w.drew.alloc (.cells ROW 67))from
   hh.mono fun e w' h=>⟨z,hzc,h.1,by rw [h.2,hROW]⟩
 clear hROW hold hz hzc hbytes
 go_enter Tryz.func191,Tryz.ntmps191
 cases base with
 | none=>
   have h0:=hnil rfl;subst h0
   go_wp2_with (at_builtin;refine Lib.wpList_append_run _ rfl _ _ _ _ rfl _ _ rfl rfl _ _ (hrun _) ?_)
   all_goals (go_ret;exact⟨rfl,rfl⟩)
 | some a=>
   obtain⟨ab,ao,asp⟩:=a
   go_wp2_with (at_builtin;refine Lib.wpList_append_run _ rfl _ _ _ _ rfl _ _ rfl rfl _ _ (hrun _) ?_)
   all_goals (go_ret;exact⟨rfl,rfl⟩)
set_option maxHeartbeats 4000000 in
theorem Zco (b n c i vb vc:Nat) (cur vcur:Array Value) (t tv:TypeId) (w:World) (hb:w.heap[b]? =some (.cells cur t (0,0))) (hv:w.heap[vb]? =some (.cells vcur tv (0,0)))
   (hi:i < n) (hnc:n≤c) (hroom:c < n+1) (hn:n≤1000000) (hsz:cur.size=c * 5) (hvsz:5≤vcur.size)
   (h1c:∀u∈W2 cur 0 (n * 5),u.oneCell'=true) (h1v:∀u∈W2 vcur 0 5,u.oneCell'=true):
   Calls Tryz.prog 191 #[.slice (some ⟨b,0,none⟩) n c,.int .i64 i,.slice (some ⟨vb,0,none⟩) 1 vc] w fun e w'=>
     ∃(z:Value) (ROW:Array Value),z.cells.size=5∧ROW=(W2 cur 0 (i * 5)).toArray++Builtin.zeroCells z.cells (n+1 - i)++Builtin.zeroCells z.cells (grownCap w (n+1) c 67 - (n+1))∧
     e=.returned (.slice (some ⟨w.heap.size,0,none⟩) (n+1) (grownCap w (n+1) c 67))∧
     w'=(((w.alloc (.cells ROW 67)).drew.setRow w.heap.size (putCells ROW (i * 5) (W2 vcur 0 5))).drew).setRow w.heap.size (putCells (putCells ROW (i * 5) (W2 vcur 0 5)) ((i+1) * 5) (W2 cur (i * 5) ((n - i) * 5))):=by
 obtain⟨inf,z,hinf,hsz2,hz,hbytes,hzc⟩:=i67;have t35:=u35;have t3:=u3;have mixed:Tryz.prog.follows Departure.mixedOrders=true:=by kernel_rfl
 have hz2:¬((i:Int)=(n:Int)):=by omega
 have hz3:(c:Int) < (n:Int)+1:=by omega
 have hbw:b < w.heap.size:=(Array.getElem?_eq_some_iff.1 hb).1;have hvw:vb < w.heap.size:=(Array.getElem?_eq_some_iff.1 hv).1;have hkk:(n:Int)+1 - (i:Int)=((n+1 - i:Nat):Int):=by omega
 have hik:i+(n+1 - i)=n+1:=by omega
 obtain⟨G,hG⟩:∃G,G=grownCap w (n+1) c 67:=⟨_,rfl⟩
 obtain⟨ROW,hROW⟩:∃ROW,ROW=(W2 cur 0 (i * 5)).toArray++Builtin.zeroCells z.cells (n+1 - i)++Builtin.zeroCells z.cells (G - (n+1)):=⟨_,rfl⟩
 have hrz:∀ty,(Builtin.append_ #[35,3] ty #[.slice (some ⟨b,0,none⟩) i c,.int .i64 ((n:Int)+1 - (i:Int))]).run Tryz.prog w=.ok (.slice (some ⟨w.heap.size,0,none⟩) (n+1) G) (w.drew.alloc (.cells ROW 67)):=fun ty=>by
   have h:=Lib.run_append_grow_zeros w 35 3 ty 67 inf z .i64 .i64 u35 u3 hinf hz (some ⟨b,0,none⟩) i c (W2 cur 0 (i * 5)) (by rw [hsz2];exact WC (w:=w.drew) hb 5 i 0 _ _ (by omega)) (n+1 - i) (by omega) (by omega) (by omega) (by omega) (by rw [hbytes];omega)
     (by rw [hbytes,hik];exact growslice_fits hroom (by omega))
   rw [hik]at h;rw [hkk,hROW,hG];exact h
 have hGn:n+1≤G:=by rw [hG];exact grownCap_ge w _ _ _
 have hG63:G≤9223372036854775807:=by
   have:=grownCap_le_maxLen w (n+1) c 67 (by unfold maxLen;omega);rw [←hG]at this;unfold maxLen at this;omega
 have hzs:∀k,(Builtin.zeroCells z.cells k).size=k * 5:=fun k=>by simp [Builtin.zeroCells,hzc]
 have hRs:ROW.size=G * 5:=by
   rw [hROW];simp only [Array.size_append,List.size_toArray,hzs,J6 (arr:=cur) (off:=0) (n:=i * 5) (by omega)];omega
 have hl1:(W2 cur (i * 5) ((n - i) * 5)).length=(n - i) * 5:=J6 (by omega);have hl2:(W2 vcur 0 5).length=5:=J6 (by omega);obtain⟨R1,hR1⟩:∃R1,R1=putCells ROW (i * 5) (W2 vcur 0 5):=⟨_,rfl⟩
 have hR1s:R1.size=G * 5:=by rw [hR1,Y9];exact hRs
 have hnew:∀(W:World),W.heap=(w.drew.alloc (.cells ROW 67)).heap→W.heap[w.heap.size]? =some (.cells ROW 67 (0,0))∧W.heap[vb]? =some (.cells vcur tv (0,0))∧W.heap[b]? =some (.cells cur t (0,0)):=fun W hW=>by
   rw [hW];refine⟨by show(w.heap.push (Obj.cells ROW 67 (0,0)))[w.heap.size]? =_;exact Array.getElem?_push_size,?_,?_⟩
   · rw [←hv];exact heap_alloc_old w.drew _ hvw
   · rw [←hb];exact heap_alloc_old w.drew _ hbw
 have hcpA:∀(W:World),W.heap=(w.drew.alloc (.cells ROW 67)).heap→∀ty dc,(Builtin.copy_ #[35,35] ty #[.slice (some ⟨w.heap.size,i * 5,none⟩) (n+1 - i) dc,.slice (some ⟨vb,0,none⟩) 1 vc]).run Tryz.prog W=.ok (goInt 1) (W.setRow w.heap.size R1):=fun W hW ty dc=>by
   obtain⟨h1,h2,_⟩:=hnew W hW;have h:=ZK W 35 35 ty 67 inf u35 hinf w.heap.size (i * 5) (n+1 - i) dc (.slice (some ⟨vb,0,none⟩) 1 vc) 1 (W2 vcur 0 5) ROW 67 h1 (by simp [Builtin.lenOf])
     (by rw [hsz2,show Nat.min 1 (n+1 - i)=1 by simp only [Nat.min_def];split <;> omega];exact WC h2 5 1 0 _ _ (by omega)) (by rw [hl2];omega) h1v
   rw [show Nat.min 1 (n+1 - i)=1 by simp only [Nat.min_def];split <;> omega]at h;rw [hR1];exact h
 have hcpB:∀(W:World),W.heap=((w.drew.alloc (.cells ROW 67)).setRow w.heap.size R1).heap→∀ty dc sc,(Builtin.copy_ #[35,35] ty #[.slice (some ⟨w.heap.size,(i+1) * 5,none⟩) (n - i) dc,.slice (some ⟨b,i * 5,none⟩) (n - i) sc]).run Tryz.prog W=.ok (goInt ((n - i:Nat):Int)) (W.setRow w.heap.size (putCells R1 ((i+1) * 5) (W2 cur (i * 5) ((n - i) * 5)))):=fun W hW ty dc sc=>by
   obtain⟨h1,h2,h3⟩:=hnew (w.drew.alloc (.cells ROW 67)) rfl;have k1:W.heap[w.heap.size]? =some (.cells R1 67 (0,0)):=by rw [hW];exact setRow_heap _ _ ROW R1 67 (0,0) h1
   have k2:W.heap[b]? =some (.cells cur t (0,0)):=by rw [hW,setRow_other _ _ b R1 (by omega)];exact h3
   have h:=ZK W 35 35 ty 67 inf u35 hinf w.heap.size ((i+1) * 5) (n - i) dc (.slice (some ⟨b,i * 5,none⟩) (n - i) sc) (n - i) (W2 cur (i * 5) ((n - i) * 5)) R1 67 k1 (by simp [Builtin.lenOf])
     (by rw [hsz2,show Nat.min (n - i) (n - i)=n - i from Nat.min_self _];exact WC k2 5 (n - i) (i * 5) _ _ (by omega)) (by rw [hl1];omega)
     (fun u hu=>by
       obtain⟨q,hq,rfl⟩:=List.mem_iff_getElem.1 hu;refine h1c _ (List.mem_of_getElem? (i:=i * 5+q) ?_);have hq2:q < (n - i) * 5:=by simpa [hl1]using hq
       have h1:=Y7 (arr:=cur) (off:=i * 5) hq2;rw [Y7 (by omega),Nat.zero_add, ←h1,List.getElem?_eq_getElem])
   rw [show Nat.min (n - i) (n - i)=n - i from Nat.min_self _]at h;exact h
 suffices hh:Calls Tryz.prog 191 #[.slice (some ⟨b,0,none⟩) n c,.int .i64 i,.slice (some ⟨vb,0,none⟩) 1 vc] w (fun e w'=>e=.returned (.slice (some ⟨w.heap.size,0,none⟩) (n+1) G)∧
     w'=(((w.alloc (.cells ROW 67)).drew.setRow w.heap.size R1).drew).setRow w.heap.size (putCells R1 ((i+1) * 5) (W2 cur (i * 5) ((n - i) * 5))))from
   hh.mono fun e w' h=>⟨z,ROW,hzc,by rw [←hG];exact hROW,by rw [←hG];exact h.1,by rw [←hR1];exact h.2⟩
 have hGi:¬(G=i):=by omega
 have hGim:¬(G=i+1):=by omega
 have hci:¬(c=i):=by omega
 have hn1:n+1 - (i+1)=n - i:=by omega
 have hw1:IntKind.i64.wrap ((i:Int)+1)=(i:Int)+1:=by rw [IntKind.wrap_i64];omega
 have hb1:(0:Int)≤(i:Int)+1:=by omega
 have hin:i≤n:=by omega
 have htn:((i:Int)+1).toNat=i+1:=by omega
 have hb3:(i:Int)≤(n:Int):=by omega
 have hE1:((w.alloc (.cells ROW 67)).drew).heap=(w.drew.alloc (.cells ROW 67)).heap:=rfl;have hE2:((w.alloc (.cells ROW 67)).drew.setRow w.heap.size R1).heap=((w.drew.alloc (.cells ROW 67)).setRow w.heap.size R1).heap:=rfl;have hF1:(((w.alloc (.cells ROW 67)).drew.setRow w.heap.size R1).drew).heap=((w.drew.alloc (.cells ROW 67)).setRow w.heap.size R1).heap:=rfl;clear hkk hik hG hROW hR1 hR1s hRs hl1 hl2 hnew hz hzc hzs hbytes h1c h1v
 go_enter Tryz.func191,Tryz.ntmps191
 go_wp2_with (first
   |(at_builtin;refine Lib.wpList_append_run _ rfl _ _ _ _ rfl _ _ rfl rfl _ _ (hrz _) ?_)
   |(at_builtin;refine Z0C _ rfl _ _ 35 35 rfl _ _ rfl rfl (hcpA _ hE1 _ _) ?_)
   |(at_builtin;refine Z0C _ rfl _ _ 35 35 rfl _ _ rfl rfl (hcpB _ hE2 _ _ _) ?_))
 trace_state
 go_region_law_o (refine Z63 rfl _ _ 35 35 rfl (.slice (some ⟨w.heap.size,(i+1) * 5,none⟩) (n - i) (G - (i+1))) (.slice (some ⟨b,i * 5,none⟩) (n - i) (c - i)) (by simp [Act.eval,Act.put]) (by simp [Act.eval,Act.put]) (hcpB _ hF1 3 (G - (i+1)) (c - i)) ?_)
 go_wp2
 go_ret
 exact⟨rfl,rfl⟩
end Go.Sx
