/-
 Part 7 of the proof: the executor over the kit's code with its soundness, or contracts of functions.
-/
import Derived.Test.YtihpfldadiiinaaGreatDoorGAf
import Derived.Test.YtihpfldadiiinaaGreatDoorSortb
set_option linter.unusedSimpArgs false
set_option linter.unusedVariables false
set_option linter.unusedSectionVars false
set_option linter.defProp false
set_option maxRecDepth 100000
namespace Go.Sx.La
open Go Go.Sx Go.RowKit Go.Proofs
theorem Zbv {c d:UInt8} (h:byt c=byt d):c=d:=by
 rw [←Yi, ←Yi]at h;exact UInt8.toNat_inj.1 h
theorem Z0Q {c:UInt8} {cs:List UInt8}:Za (c::cs)=true↔(48≤byt c∧byt c≤57)∧Za cs=true:=by
 have h:Wz c=true↔48≤byt c∧byt c≤57:=by simp [Wz]
 rw [←h];simp only [Za];by_cases hc:Wz c=true <;> simp [hc]
theorem Zd9:∀(a b:List UInt8) (m n:Nat),Za a=true→Za b=true→a.length=b.length→dv m a=dv n b→m=n∧a=b
 | [],[],m,n,_,_,_,h=>⟨h,rfl⟩
 | [],_::_,_,_,_,_,h,_=>by simp at h
 |_::_,[],_,_,_,_,h,_=>by simp at h
 | c::cs,d::ds,m,n,ha,hb,hl,h=>by
   rw [Z0Q]at ha hb;obtain⟨e,rfl⟩:=Zd9 cs ds (dig m c) (dig n d) ha.2 hb.2 (by simpa using hl) h;rw [Z0z,Z0z]at e;have e1:m=n:=by omega
   have e2:byt c=byt d:=by omega
   exact⟨e1,by rw [Zbv e2]⟩
theorem Zhe:∀(a:List UInt8) (m:Nat),m * 10 ^ a.length≤dv m a
 | [],m=>by simp [dv]
 | c ::cs,m=>by
   have:=Zhe cs (dig m c);have h1:m * 10≤dig m c:=by rw [Z0z];omega
   have h2:=Nat.mul_le_mul_right (10 ^ cs.length) h1;simp only [dv,List.length_cons,Nat.pow_succ]
   calc m * (10 ^ cs.length * 10)=m * 10 * 10 ^ cs.length:=by rw [Nat.mul_assoc,Nat.mul_comm 10]
     _≤dig m c * 10 ^ cs.length:=h2
     _≤_:=this
theorem Z8v:∀(a:List UInt8) (m:Nat),Za a=true→dv m a < (m+1) * 10 ^ a.length
 | [],m,_=>by simp [dv]
 | c ::cs,m,h=>by
   rw [Z0Q]at h;have:=Z8v cs (dig m c) h.2;have h1:dig m c+1≤(m+1) * 10:=by rw [Z0z];omega
   have h2:=Nat.mul_le_mul_right (10 ^ cs.length) h1;simp only [dv,List.length_cons,Nat.pow_succ]
   calc dv (dig m c) cs < (dig m c+1) * 10 ^ cs.length:=this
     _≤(m+1) * 10 * 10 ^ cs.length:=h2
     _=(m+1) * (10 ^ cs.length * 10):=by rw [Nat.mul_assoc,Nat.mul_comm 10]
structure Right2 (s:List UInt8):Prop extends Right s where
 lead:1 < (split s).1.length→∃c cs,(split s).1=c::cs∧byt c≠48
 last:(split s).2.2=true→∃cs c,(split s).2.1=cs++[c]∧byt c≠48
 none:(split s).2.2=false→(split s).2.1=[]
theorem Z6e {s:List UInt8} (h:Z4 s=0):Right2 s:=by
 have hs:(split s).2.2=false→(split s).2.1=[]:=by
   simp only [split];split <;> simp
 refine⟨Z8h h,?_,?_,hs⟩
 · intro hl;simp only [Z4]at h;split at h
   · cases h
   · split at h
     · cases h
     · rename_i h2;simp only [Bool.or_eq_true,Bool.and_eq_true,decide_eq_true_eq,not_or,not_and,beq_iff_eq]at h2
       match hw:(split s).1,hl,h2.1 hl with
       | c::cs,_,h3=>
         refine⟨c,cs,rfl,?_⟩
         rwa [WR (by simp)]at h3
 · intro hp;simp only [Z4]at h;split at h
   · cases h
   · rename_i h1;split at h
     · cases h
     · rename_i h2;simp only [Bool.or_eq_true,Bool.and_eq_true,decide_eq_true_eq,not_or,not_and,beq_iff_eq,Bool.not_eq_true',Bool.not_eq_false]at h1 h2;have hd:=h1.2 hp;have h3:=h2.2 hp;simp only [Zc,Bool.and_eq_true,decide_eq_true_eq]at hd;rcases List.eq_nil_or_concat (split s).2.1 with h0|⟨cs,c,h0⟩
       · rw [h0]at hd;simp at hd
       · refine⟨cs,c,by simpa using h0,?_⟩;rw [h0]at h3;rw [WR (by simp)]at h3;simpa using h3
theorem Z2e:∀(s:List UInt8) (k i:Nat),Jl k s=some i→k≤i∧∃h:i - k < s.length,byt s[i - k]=46
 | [],_,_,h=>by simp [Jl]at h
 | c ::cs,k,i,h=>by
   simp only [Jl]at h;split at h
   · rename_i hc;cases h;exact⟨Nat.le_refl _,by simp,by simpa using hc⟩
   · obtain⟨h1,h2,h3⟩:=Z2e cs (k+1) i h;have e:i - k=i - (k+1)+1:=by omega
     refine⟨by omega,by simp;omega,?_⟩;simp only [e,List.getElem_cons_succ];exact h3
theorem Z4j (s:List UInt8):s=if(split s).2.2 then(split s).1++46::(split s).2.1 else(split s).1:=by
 cases hp:Jl 0 s with
 | none=>
   have e0:split s=(s,[],false):=by simp only [split,hp]
   simp [e0]
 | some i=>
   have e0:split s=(s.take i,s.drop (i+1),true):=by simp only [split,hp]
   rw [e0];obtain⟨_,h2,h3⟩:=Z2e s 0 i hp;simp only [Nat.sub_zero]at h2 h3;have e:s[i]=46:=Zbv (by rw [h3, ←Yi];rfl);simp only [if_true];have h4:s.drop i=46::s.drop (i+1):=by rw [List.drop_eq_getElem_cons h2,e]
   rw [←h4,List.take_append_drop]
theorem byt48:byt 48=48:=by rw [←Yi];rfl
theorem Zaa {a b:List UInt8} (ha:a.length≤3) (hb:b.length≤3) (la:a=[]∨∃cs c,a=cs++[c]∧byt c≠48) (lb:b=[]∨∃cs c,b=cs++[c]∧byt c≠48) (h:Jo a=Jo b):a=b:=by
 have key:∀ {a:List UInt8},a.length≤3→(a=[]∨∃cs c,a=cs++[c]∧byt c≠48)→a=[]∨(∃x,a=[x]∧byt x≠48)∨(∃x y,a=[x,y]∧byt y≠48)∨∃x y z,a=[x,y,z]∧byt z≠48:=by
   intro a ha la;rcases la with rfl|⟨cs,c,rfl,hc⟩
   · exact .inl rfl
   · match cs,ha with
     | [],_=>exact .inr (.inl ⟨c,rfl,hc⟩)
     | [x],_=>exact .inr (.inr (.inl ⟨x,c,rfl,hc⟩))
     | [x,y],_=>exact .inr (.inr (.inr ⟨x,y,c,rfl,hc⟩))
     |_::_::_::_,h=>simp at h
 have h48:∀ {x:UInt8},byt x≠48→x≠48:=fun h e=>h (by rw [e,byt48])
 rcases key ha la with rfl|⟨x,rfl,hx⟩|⟨x,y,rfl,hx⟩|⟨x,y,z,rfl,hx⟩ <;> rcases key hb lb with rfl|⟨x',rfl,hx'⟩|⟨x',y',rfl,hx'⟩|⟨x',y',z',rfl,hx'⟩ <;>
   simp only [Jo,List.nil_append,List.cons_append,List.take,List.cons.injEq,and_true]at h <;> first|rfl|(exact absurd h (h48 hx))|(exact absurd h.symm (h48 hx'))|(exact absurd h.2 (h48 hx))|(exact absurd h.2.symm (h48 hx'))|(exact absurd h.1 (h48 hx))|(exact absurd h.1.symm (h48 hx'))|(exact absurd h.2.1 (h48 hx))|(exact absurd h.2.1.symm (h48 hx'))|(exact absurd h.2.2 (h48 hx))|(exact absurd h.2.2.symm (h48 hx'))|simp [h]
theorem Z33 {s t:List UInt8} (hs:Z4 s=0) (ht:Z4 t=0) (h:Zg s=Zg t):s=t:=by
 have rs:=Z6e hs;have rt:=Z6e ht;rw [Z1C rs.toRight,Z1C rt.toRight]at h;have h':dv 0 ((split s).1++Jo (split s).2.1)=dv 0 ((split t).1++Jo (split t).2.1):=by omega
 have ws:=rs.w;have wt:=rt.w;simp only [Zc,Bool.and_eq_true,decide_eq_true_eq]at ws wt;have ds:Za ((split s).1++Jo (split s).2.1)=true:=by rw [Yw,ws.1,Z0m rs.r];rfl
 have dt:Za ((split t).1++Jo (split t).2.1)=true:=by rw [Yw,wt.1,Z0m rt.r];rfl
 have longer:∀ {s t:List UInt8},Right2 s→Za ((split t).1++Jo (split t).2.1)=true→0 < (split t).1.length→Za ((split s).1++Jo (split s).2.1)=true→(split t).1.length < (split s).1.length→dv 0 ((split t).1++Jo (split t).2.1) < dv 0 ((split s).1++Jo (split s).2.1):=by
   intro s t rs dt ht ds hlt;obtain⟨c,cs,e,hc⟩:=rs.lead (by omega);have h1:=Z8v ((split t).1++Jo (split t).2.1) 0 dt;rw [e]at ds hlt ⊢;rw [List.cons_append]at ds ⊢;have hc2:=(Z0Q.1 ds).1;have h2:=Zhe (cs++Jo (split s).2.1) (dig 0 c);have h3:1≤dig 0 c:=by rw [Z0z];omega
   simp only [List.length_append,Z13,List.length_cons]at h1 h2 hlt;have h4:10 ^ ((split t).1.length+3)≤10 ^ (cs.length+3):=Nat.pow_le_pow_right (by omega) (by omega);have h5:=Nat.mul_le_mul_right (10 ^ (cs.length+3)) h3;simp only [dv];omega
 have hlen:(split s).1.length=(split t).1.length:=by
   rcases Nat.lt_trichotomy (split s).1.length (split t).1.length with h1|h1|h1
   · have:=longer rt ds ws.2 dt h1;omega
   · exact h1
   · have:=longer rs dt wt.2 ds h1;omega
 obtain⟨_,e⟩:=Zd9 _ _ 0 0 ds dt (by simp [hlen,Z13]) h';obtain⟨e1,e2⟩:=List.append_inj e hlen;have lr:∀ {s:List UInt8},Right2 s→((split s).2.1=[]∨∃cs c,(split s).2.1=cs++[c]∧byt c≠48):=by
   intro s rs;cases hp:(split s).2.2 with
   |true=>exact .inr (rs.last hp)
   |false=>exact .inl (rs.none hp)
 have e3:=Zaa rs.lr rt.lr (lr rs) (lr rt) e2;have e4:(split s).2.2=(split t).2.2:=by
   cases hp:(split s).2.2 <;> cases hq:(split t).2.2 <;> try rfl
   · obtain⟨cs,c,e5,_⟩:=rt.last hq;rw [rs.none hp]at e3;rw [←e3]at e5;simp at e5
   · obtain⟨cs,c,e5,_⟩:=rs.last hp;rw [rt.none hq]at e3;rw [e3]at e5;simp at e5
 rw [Z4j s,Z4j t,e1,e3,e4]
def Yl (c:Cue):Int:=Zg c.num
def Wx (cs:List Cue):Prop:=cs.Pairwise fun a b=>Yl a < Yl b
theorem Z3q (a b:List UInt8):W4 a b < 0↔Zg a < Zg b:=by unfold W4;split <;> (try split) <;> simp_all
theorem Z3p (a b:List UInt8):0 < W4 a b↔Zg b < Zg a:=by unfold W4;split <;> (try split) <;> simp_all <;> omega
theorem Z0v {X:Type} (key:X→Int):∀(b a:List X),a.Perm b→a.Pairwise (fun x y=>key x≤key y)→b.Pairwise (fun x y=>key x < key y)→a=b
 | [],a,h,_,_=>by simpa using h
 |y::b,[],h,_,_=>by simp at h
 | y ::b,x::a,h,ha,hb=>by
   rw [List.pairwise_cons]at ha hb;have hx:x∈y::b:=h.mem_iff.1 (by simp);have hy:y∈x::a:=h.mem_iff.2 (by simp);have e:x=y:=by
     rcases List.mem_cons.1 hx with e|hx
     · exact e
     · rcases List.mem_cons.1 hy with e|hy
       · exact e.symm
       · have:=hb.1 x hx;have:=ha.1 y hy;omega
   subst e;rw [Z0v key b a (List.Perm.cons_inv h) ha.2 hb.2]
def ins (c:Cue):List Cue→List Cue
 | []=>[c]
 |x::xs=>if Yl x < Yl c then x::ins c xs else c::x::xs
theorem Z2S (c:Cue):∀xs,(ins c xs).Perm (c::xs)
 | []=>.refl _
 | x::xs=>by
   simp only [ins];split
   · exact((Z2S c xs).cons x).trans (.swap ..)
   · exact .refl _
theorem Z4L {c:Cue}:∀ {xs:List Cue},Wx xs→(∀x∈xs,Yl x≠Yl c)→Wx (ins c xs)
 | [],_,_=>by simp [Wx,ins]
 | x ::xs,h,hne=>by
   have h':=h;simp only [Wx,List.pairwise_cons]at h;simp only [ins];have hx:=hne x (by simp);split
   · rename_i hlt;simp only [Wx,List.pairwise_cons];refine⟨fun y hy=>?_,Z4L h.2 fun z hz=>hne z (by simp [hz])⟩;rcases List.mem_cons.1 ((Z2S c xs).mem_iff.1 hy)with rfl|hy
     · exact hlt
     · exact h.1 y hy
   · rename_i hlt;simp only [Wx,List.pairwise_cons];refine⟨fun y hy=>?_,h⟩;rcases List.mem_cons.1 hy with rfl|hy
     · omega
     · have:=h.1 y hy;omega
theorem Z3N {xs:List Cue}:∀(cs:List Cue) (i:Nat),cs=xs.drop i→ZI W4 xs i cs=0→(∀c∈cs,J5 c=0)∧(∀j,i≤j→0 < j→j < xs.length→Yl (xs[j - 1]!) < Yl (xs[j]!))
 | [],i,he,_=>⟨by simp,fun j h1 h2 h3=>by
     have:=congrArg List.length he;simp at this;omega⟩
 | c ::cs,i,he,h=>by
   have hlt:i < xs.length:=by
     rcases Nat.lt_or_ge i xs.length with h|h
     · exact h
     · rw [List.drop_eq_nil_of_le h]at he;cases he
   rw [List.drop_eq_getElem_cons hlt]at he;obtain⟨rfl,rfl⟩:=List.cons.inj he;simp only [ZI]at h;split at h
   · rename_i hc;exact absurd h hc
   · rename_i hc;have hc:J5 xs[i]=0:=by simpa using hc
     split at h
     · cases h
     · rename_i ho;obtain⟨g1,g2⟩:=Z3N (xs.drop (i+1)) (i+1) rfl h;refine⟨fun d hd=>?_,fun j h1 h2 h3=>?_⟩
       · rcases List.mem_cons.1 hd with rfl|hd
         · exact hc
         · exact g1 d hd
       · rcases Nat.eq_or_lt_of_le h1 with rfl|h1
         · rw [getElem!_pos xs i h3];have:¬0≤W4 (xs[i - 1]!).num (xs[i]).num:=fun h=>ho ⟨h2,h⟩
           exact(Z3q _ _).1 (by omega)
         · exact g2 j h1 h2 h3
structure RightL (l:Lis):Prop where
 cues:∀c∈l.cues,J5 c=0
 rising:Wx l.cues
 len:l.cues.length≤64
theorem Wd {l:Lis} (h:W8 W4 l=0):RightL l:=by
 have hlen:=Z9u h;simp only [W8]at h;split at h
 · cases h
 · split at h
   · cases h
   · obtain⟨g1,g2⟩:=Z3N l.cues 0 rfl h;refine⟨g1,?_,hlen⟩;rw [Wx,List.pairwise_iff_getElem];have step:∀(n i:Nat) (hi:i+n+1 < l.cues.length),Yl (l.cues[i]'(by omega)) < Yl (l.cues[i+n+1]):=by
       intro n;induction n with
       | zero=>
         intro i hi;have:=g2 (i+1) (Nat.zero_le _) (by omega) (by omega);rw [getElem!_pos l.cues (i+1) (by omega),getElem!_pos l.cues (i+1 - 1) (by omega)]at this;exact this
       | succ n ih=>
         intro i hi;have h1:=ih i (by omega);have:=g2 (i+(n+1)+1) (Nat.zero_le _) (by omega) (by omega);rw [getElem!_pos l.cues (i+(n+1)+1) (by omega),getElem!_pos l.cues (i+(n+1)+1 - 1) (by omega)]at this;have e:i+(n+1)+1 - 1=i+n+1:=by omega
         simp only [e]at this;omega
     intro i j hi hj hij;obtain⟨n,rfl⟩:∃n,j=i+n+1:=⟨j - i - 1,by omega⟩
     exact step n i hj
theorem RightL.num {l:Lis} (h:RightL l):∀c∈l.cues,Z4 c.num=0:=fun c hc=>ZW (h.cues c hc)
theorem Yz {X:Type} (p:X→Bool):∀(xs:List X) (i:Nat),(ZC p i xs= -1∧∀x∈xs,p x=false)∨∃(j:Nat) (h:j < xs.length),ZC p i xs=(i+j:Nat)∧p xs[j]=true∧∀k (hk:k < j),p (xs[k]'(by omega))=false
 | [],i=>.inl ⟨rfl,by simp⟩
 | x ::xs,i=>by
   simp only [ZC];by_cases hx:p x=true
   · refine .inr ⟨0,by simp,by simp [hx],by simpa using hx,fun k hk=>by omega⟩
   · have hx':p x=false:=by simpa using hx
     simp only [hx,if_false];rcases Yz p xs (i+1)with⟨h1,h2⟩|⟨j,hj,h1,h2,h3⟩
     · exact .inl ⟨by simpa [hx']using h1,fun y hy=>by
         rcases List.mem_cons.1 hy with rfl|hy
         · exact hx'
         · exact h2 y hy⟩
     · refine .inr ⟨j+1,by simp;omega,by simp [hx',h1];omega,by simpa using h2,fun k hk=>?_⟩
       match k,hk with
       |0,_=>simpa using hx'
       |k+1,hk=>simpa using h3 k (by omega)
theorem Z19 {cs:List Cue} {s:List UInt8}:place cs s < 0↔∀c∈cs,c.num≠s:=by
 unfold place;rcases Yz (fun c:Cue=>c.num==s) cs 0 with⟨h1,h2⟩|⟨j,hj,h1,h2,_⟩
 · rw [h1];exact⟨fun _ c hc=>by simpa using h2 c hc,fun _=>by omega⟩
 · rw [h1];refine⟨fun h=>by omega,fun h=>absurd (by simpa using h2) (h cs[j] (List.getElem_mem _))⟩
theorem Z18 {cs:List Cue} {s:List UInt8} (h:¬place cs s < 0):∃(j:Nat) (hj:j < cs.length),place cs s=j∧(cs[j]).num=s∧∀k (hk:k < j),(cs[k]'(by omega)).num≠s:=by
 unfold place at h ⊢;rcases Yz (fun c:Cue=>c.num==s) cs 0 with⟨h1,h2⟩|⟨j,hj,h1,h2,h3⟩
 · rw [h1]at h;omega
 · exact⟨j,hj,by simpa using h1,by simpa using h2,fun k hk=>by simpa using h3 k hk⟩
noncomputable def t130:R:=.ret [.d (.clo 196 (Vl (.ptr (Vl (Va 0) (Vl (Va 1) (Vl (Va 2) .lnil)))) .lnil))]
theorem Zev:fnO Tryz.prog mdA 130 [.agg liKs]=t130:=by kernel_rfl
noncomputable def t196:R:=let x0:T:=.fld (.padd (.padd (Va 0) 0) 2) 0 (.slice J9);.fact (.o2 .le (.o1 .len x0) (Vn 140737488355328)) (.loop 0 [Vn 0] [.int .i64] (.ite (.o2 .lt (Va 1) (.o1 .len x0)) (.need (.o2 .le (Vn 0) (Va 1)) (.yield [.idx x0 (Va 1) 0 .str] (.ite (.o1 .not (Va 2)) (.ret []) (.again 0 [.o2 (.add .i64) (Va 1) (Vn 1)])))) (.ret [])))
theorem ZdJ:Zcv Tryz.prog mdA 196 [.cell (.ptr liKs)]=t196:=by kernel_rfl
noncomputable def t129:R:=.iter 0 (Va 0) [] [] [.cell .str] (.call none (.val (Va 1)) [Va 2] [.cell .bool] (.ite (Va 3) (.ret [.d (Va 2),.d (.bool true),.d (Vn 0)]) (.again 0 []))) (.ret [.d (.str []),.d (.bool false),.d (Vn 0)])
theorem Zew:fnO Tryz.prog mdA 129 [.cell .fn,.cell .fn]=t129:=by kernel_rfl
noncomputable def t131:R:=.call none (.fn 92) [Va 0,.fld (Va 1) 0 .str] [.cell (.int .i64)] (.ret [.d (.o2 .gt (Va 2) (Vn 0))])
theorem Zeu:fnO Tryz.prog mdA 131 ([.cell .str]++[.cell (.ptr [.str])])=t131:=by kernel_rfl
theorem c131:J2 Tryz.prog 131=true:=by kernel_rfl
noncomputable def t56:R:=let x0:T:=Vl (Va 1) (Vl (Va 2) .lnil);.call none (.fn 128) [Vl (Va 0) x0,.push .nils (Vl (Va 3) .lnil)] [.cell (.int .i64)] (.ite (.o2 .ne (Va 4) (Vn 0)) (.ret [.d (.str []),.d (.bool false),.d (Va 4)]) (.call none (.fn 130) [Vl (Va 0) x0] [.cell .fn] (.call none (.fn 129) [Va 5,.clo 131 (Vl (.ptr (Vl (Va 3) .lnil)) .lnil)] [.cell .str,.cell .bool,.cell (.int .i64)] (.ret [.d (Va 6),.d (Va 7),.d (Va 8)]))))
theorem Zgm:fnO Tryz.prog mdA 56 [.agg liKs,.cell .str]=t56:=by kernel_rfl
theorem Z3K {P:Program} {F:Option Nat→List RV→Prop} {l:Nat} {t:T} {inits:List T} {ks:List K} {pk:List PK} {body done:R} {ags:Ags} {ρ:List D}
   (h:∃xs:List (List D),IterC P (den ρ t) xs∧(∀x∈xs,∃fx,Jr pk x=some fx∧HasKs (Y1 pk) fx)∧
     ∃Inv:Nat→Option Nat→List D→Prop,Inv 0 ags.cnt (inits.map (den ρ))∧
     (∀i x fx c ys,xs[i]? =some x→Jr pk x=some fx→HasKs (Y1 pk) fx→HasKs ks ys→Inv i c ys→denR P F noK body (Jh (ags.wc c) l fun c' zs=>Inv (i+1) c' zs) (ρ++ys++fx))∧
     (∀c ys,HasKs ks ys→Inv xs.length c ys→denR P F noK done (ags.wc c) (ρ++ys))):denR P F noK (.iter l t inits ks pk body done) ags ρ:=by
 obtain⟨xs,h1,h2,Inv,h3⟩:=h;exact⟨xs,Inv,h1.mono fun _ _=>trivial,h2,h3⟩
def names (l:Lis):List (List UInt8):=l.cues.map (·.num)
theorem Zdl {ss:List (List UInt8)} {i:Nat} {x:List D} (h:(txts ss)[i]? =some x):∃s,ss[i]? =some s∧x=[.str s]:=by
 simp only [txts,List.getElem?_map,Option.map_eq_some_iff]at h;obtain⟨s,h1,rfl⟩:=h;exact⟨s,h1,rfl⟩
theorem Z7F:Contract Tryz.prog 130 fun args K=>∃(l:Lis),l.Ok∧args=[.agg l.enc]∧K [.d (.clo 196 [.ptr l.enc])]:=by
 refine .of (by kernel_rfl) Zev ?_;rintro _ K ⟨l,hl,rfl,hK⟩ hsm;refine⟨l.enc,rfl,Lis.has hl,?_⟩;simp only [zz,reduceCtorEq,t130,Lis.enc,D.list];exact hK
theorem Z7G {l:Lis} (hl:l.Ok):IterC Tryz.prog (.clo 196 [.ptr l.enc]) (txts (names l)):=by
 refine IterC.of (by kernel_rfl) ZdJ (ρ:=[.ptr l.enc]) rfl ⟨Lis.has hl,trivial⟩ ?_;simp only [zz,reduceCtorEq,t196,Lis.enc,List.length_map,D.cells,D.padd,D.cell,List.drop_zero,List.drop_succ_cons];intro hcap;simp only [denR];refine⟨fun c ys=>∃i:Nat,i≤l.cues.length∧ys=[.int .i64 i]∧c=some i,fun _ ys=>match ys with| [.int _ i]=>l.cues.length - i.toNat|_=>0,⟨0,Nat.zero_le _,rfl,rfl⟩,?_⟩;rintro _ _ _ ⟨i,hi,rfl,rfl⟩;simp only [zz,reduceCtorEq,List.length_map,D.cells,D.padd,D.cell,List.drop_zero,List.drop_succ_cons];refine⟨fun h=>⟨by omega,i,rfl,?_,?_⟩,fun h=>.inr ?_⟩
 · simp only [Ags.wc,Jh,txts,names,List.getElem?_map,List.map_map];simp only [zz,reduceCtorEq,J0 h,Cue.enc];simp [h]
 · rintro(_|_) _
   · simp only [zz,reduceCtorEq];exact .inl rfl
   · simp only [zz,reduceCtorEq];refine⟨⟨i+1,h,?_,rfl⟩,?_⟩
     · rw [Z1 (by omega)];simp
     · rw [Z1 (by omega)];show l.cues.length - ((i:Int)+1).toNat < l.cues.length - i;omega
 · have:i=l.cues.length:=by omega
   simp [Ags.wc,Jh,txts,names,this]
def pick:Option (List UInt8)→List UInt8×Bool
 |some s=>(s,true)
 |none=>([],false)
def ZfI (P:Program) (fv:D) (ss:List (List UInt8)) (p:List UInt8→Bool):Prop:=∃sf,FvC P fv sf∧∀s∈ss,sf [.str s] fun rs=>rs=[.d (.bool (p s))]
theorem Zcw:Contract Tryz.prog 129 fun args K=>∃(it:D) (ss:List (List UInt8)) (p:List UInt8→Bool) (f:FuncId) (caps:List D),HasK .fn it∧IterC Tryz.prog it (txts ss)∧args=[it,.clo f caps]∧ZfI Tryz.prog (.clo f caps) ss p∧
   K [.d (.str (pick (ss.find? p)).1),.d (.bool (pick (ss.find? p)).2),.d (.int .i64 0)]:=by
 refine .of (by kernel_rfl) Zew ?_;rintro _ K ⟨it,ss,p,f,caps,hfn,hit,rfl,⟨sf,hf,hs⟩,hK⟩ hsm;refine⟨[it,.clo f caps],rfl,⟨hfn,trivial,trivial⟩,?_⟩;unfold t129;refine Z3K ?_;refine⟨txts ss,hit,?_,fun i c ys=>ys=[]∧(ss.drop i).find? p=ss.find? p,⟨rfl,rfl⟩,?_,?_⟩
 · intro x hx;obtain⟨s,hs,rfl⟩:=List.mem_map.1 hx;exact⟨[.str s],rfl,⟨trivial,trivial⟩⟩
 · rintro i x fx c ys hx hfx _ _ ⟨rfl,hgo⟩;obtain⟨s,hsi,rfl⟩:=Zdl hx;cases hfx;have hi:=(List.getElem?_eq_some_iff.1 hsi).1;have es:ss[i]=s:=(List.getElem?_eq_some_iff.1 hsi).2;rw [List.drop_eq_getElem_cons hi,es,List.find?_cons]at hgo;refine Z7 (FvC.up' (s:=sf) (fv:=.clo f caps) hf) ⟨fun rs=>rs=[.d (.bool (p s))],?_,fun rs h=>⟨[.bool (p s)],by rw [h];rfl,by simp [RK.all,RK.kinds,HasKs,HasK],?_⟩⟩
   · exact hs s (es▸List.getElem_mem hi)
   · simp only [zz,reduceCtorEq];cases hp:p s
     · rw [hp]at hgo;exact⟨fun h=>by simp at h,fun _=>hgo⟩
     · rw [hp]at hgo;rw [←hgo]at hK;exact⟨fun _=>hK,fun h=>by simp at h⟩
 · rintro c ys _ ⟨rfl,hgo⟩;rw [Z85,List.drop_length]at hgo;rw [←hgo]at hK;simp only [zz,reduceCtorEq];exact hK
theorem ZbG:Contract Tryz.prog 131 fun args K=>∃(x s:List UInt8),args=[.str x,.ptr [.str s]]∧K [.d (.bool (decide (0 < comp x s)))]:=by
 refine .of c131 Zeu ?_;rintro _ K ⟨x,s,rfl,hK⟩ hsm;refine⟨[.str x,.ptr [.str s]],rfl,⟨trivial,⟨trivial,trivial⟩,trivial⟩,?_⟩;refine Z0 Z1X ⟨x,s,rfl,_,rfl,?_⟩;simp only [zz,reduceCtorEq];exact hK
theorem after_ok:Contract Tryz.prog 56 fun args K=>∃(l:Lis) (s:List UInt8),l.Ok∧args=[.agg l.enc,.str s]∧
   K (if Z0r l [s]≠0 then [.d (.str []),.d (.bool false),.d (.int .i64 (Z0r l [s]))]else [.d (.str (pick ((names l).find? fun x=>decide (0 < comp x s))).1),.d (.bool (pick ((names l).find? fun x=>decide (0 < comp x s))).2),.d (.int .i64 0)]):=by
 refine .of (by kernel_rfl) Zgm ?_;rintro _ K ⟨l,s,hl,rfl,hK⟩ hsm;refine⟨l.enc++[.str s],rfl,by exact Z4O hl ⟨trivial,trivial⟩,?_⟩;refine Z0 Z51 ⟨l,[s],hl,rfl,_,rfl,?_⟩;simp only [zz,reduceCtorEq,Lis.enc];refine⟨fun h=>?_,fun h=>?_⟩
 · rw [if_pos (by simpa using h)]at hK;exact hK
 · rw [if_neg (by simpa using h)]at hK;refine Z0 Z7F ⟨l,hl,rfl,_,rfl,?_⟩;refine Z0 Zcw ⟨_,names l,fun x=>decide (0 < comp x s),131,[.ptr [.str s]],?_,Z7G hl,rfl,⟨fun as_ K=>∃x,as_=[.str x]∧K [.d (.bool (decide (0 < comp x s)))],FvC.of c131 ZbG ?_,fun x _=>⟨x,rfl,rfl⟩⟩,_,rfl,?_⟩
   · trivial
   · rintro _ K ⟨x,rfl,hK⟩;refine⟨⟨x,s,rfl,hK⟩,J4 [some (.cell .str)] (by kernel_rfl) ?_⟩;intro i rk d h1 h2;cases i with
     |zero=>simp at h1 h2;subst h1 h2;trivial
     |succ i=>simp at h1
   · simp only [zz,reduceCtorEq];exact hK
noncomputable def t137:R:=.guess (.o2 .eq (.o1 .len (Va 0)) (Vn 0)) (.ite (Va 1) (.ret [.own 9 .nils]) (.need (.o2 .le (.o1 .len (.o2 .app .nils (Va 0))) (Vn 1172812402961)) (.ret [.own 9 (.o2 .app .nils (Va 0))])))
theorem Zeo:fnO Tryz.prog mdA 137 [.cell (.slice J9)]=t137:=by kernel_rfl
noncomputable def t127:R:=.callX true 194 [.own 9 (Va 3),.d (.fn 195)] [.own J9] (.ret [.d (Vl (Va 0) (Vl (Va 1) (Vl (Va 4) .lnil)))])
theorem Zey:fnXO Tryz.prog mdA 127 [.agg liKs,.own J9]=t127:=by kernel_rfl
noncomputable def t195:R:=.call none (.fn 92) [Va 0,Va 9] [.cell (.int .i64)] (.ret [.d (Va 18)])
theorem ZdK:fnO Tryz.prog mdA 195 [.agg J9,.agg J9]=t195:=by kernel_rfl
theorem c195:J2 Tryz.prog 195=true:=by kernel_rfl
theorem Z8J:Contract Tryz.prog 195 fun args K=>∃(a b:Cue),a.Ok∧b.Ok∧args=[.agg a.enc,.agg b.enc]∧K [.d (.int .i64 (comp a.num b.num))]:=by
 refine .of c195 ZdK ?_;rintro _ K ⟨a,b,ha,hb,rfl,hK⟩ hsm;refine⟨a.enc++b.enc,rfl,by exact(Cue.has ha).append (Cue.has hb),?_⟩;refine Z0 Z1X ⟨a.num,b.num,rfl,_,rfl,?_⟩;simp only [zz,reduceCtorEq,Cue.enc];exact hK
theorem ZcI (c:Cue):∀d∈c.enc,D.flat d=true:=by
 intro d hd;simp only [Cue.enc,List.mem_cons,List.not_mem_nil,or_false]at hd;rcases hd with rfl|rfl|rfl|rfl|rfl|rfl|rfl|rfl|rfl <;> rfl
theorem Z8U:ContractX Tryz.prog 194 [.own J9,.cell .fn] true fun args K=>∃(l:List Cue) (g:FuncId) (caps:List D) (key:Cue→Int) (cf:Cue→Cue→Int) (sf:Spec),l≠[]∧(∀x∈l,HasKs J9 (Cue.enc x))∧args=[.own 9 (l.map Cue.enc),.d (.clo g caps)]∧FvC Tryz.prog (.clo g caps) sf∧
     (∀x∈l,∀y∈l,(cf x y < 0↔key x < key y)∧sf [.agg (Cue.enc x),.agg (Cue.enc y)] fun rs=>rs=[.d (.int .i64 (cf x y))])∧∀l':List Cue,l'.Perm l→l'.Pairwise (fun a b=>key a≤key b)→K [.own 9 (l'.map Cue.enc)]:=
 Za2 (X:=Cue) (enc:=Cue.enc) (ks:=J9) (k:=9) Tryz.sort152 (by kernel_rfl) (by kernel_rfl) rfl (by omega) ZcI (fun _=>rfl) (fun w=>by kernel_rfl) (fun w=>by kernel_rfl) (by kernel_rfl)
theorem Zdf:ContractX Tryz.prog 127 [.agg liKs,.own J9] false fun args K=>∃(l:Lis) (cs:List Cue),l.Ok∧(∀c∈cs,c.Ok)∧(∀c∈cs,Z4 c.num=0)∧cs≠[]∧args=[.d (.agg l.enc),.own 9 (cs.map Cue.enc)]∧
   ∀cs':List Cue,cs'.Perm cs→cs'.Pairwise (fun a b=>Yl a≤Yl b)→K [.d (.agg (Lis.enc {l with cues:=cs'}))]:=by
 refine .of (by kernel_rfl) Zey ?_;rintro _ K ⟨l,cs,hl,hcs,hnum,hne,rfl,hK⟩;refine⟨l.enc++[.slice (cs.map Cue.enc)],rfl,by exact Z4O hl ⟨WL hcs,trivial⟩,?_⟩;unfold t127;simp only [denR];refine⟨[.own J9,.cell .fn],_,Z8U,⟨[.slice (cs.map Cue.enc),.clo 195 []],rfl,⟨WL hcs,trivial,trivial⟩⟩,fun _=>rfl,?_⟩;refine⟨cs,195,[],Yl,fun a b=>comp a.num b.num,fun as_ K=>∃a b:Cue,a.Ok∧b.Ok∧as_=[.agg a.enc,.agg b.enc]∧K [.d (.int .i64 (comp a.num b.num))],hne,fun c hc=>Cue.has (hcs c hc),rfl,FvC.of c195 Z8J ?_,?_,?_⟩
 · rintro _ K ⟨a,b,ha,hb,rfl,hK⟩;refine⟨⟨a,b,ha,hb,rfl,hK⟩,J4 [some (.agg J9),some (.agg J9)] (by kernel_rfl) ?_⟩;intro i rk d h1 h2
   match i,h1,h2 with
   |0,h1,h2=>simp at h1 h2;subst h1 h2;exact Cue.has ha
   |1,h1,h2=>simp at h1 h2;subst h1 h2;exact Cue.has hb
 · intro a ha b hb;refine⟨?_,a,b,hcs a ha,hcs b hb,rfl,rfl⟩;show comp a.num b.num < 0↔_;rw [Z1Y (hnum a ha) (hnum b hb)];exact Z3q _ _
 · intro cs' hp hs;refine⟨[.slice (cs'.map Cue.enc)],rfl,?_⟩;simp only [zz,reduceCtorEq,Lis.enc,D.list];exact hK cs' hp hs
def zeroL:Lis:=⟨0,0,[]⟩
theorem ZbP {X:Type} {cs:List X} {j:Nat} (hj:j < cs.length):cs=cs.take j++cs[j]::cs.drop (j+1):=by
 rw [←List.drop_eq_getElem_cons hj,List.take_append_drop]
theorem Z11 {cs:List Cue} (h:Wx cs) {i j:Nat} (hi:i < cs.length) (hj:j < cs.length) (hne:i≠j):Yl cs[i]≠Yl cs[j]:=by
 rw [Wx,List.pairwise_iff_getElem]at h;rcases Nat.lt_or_gt_of_ne hne with h1|h1
 · have:=h i j hi hj h1;omega
 · have:=h j i hj hi h1;omega
theorem Z8H {cs:List Cue} (hr:Wx cs) {f:List UInt8} {j:Nat} (hj:j < cs.length) (hf:(cs[j]).num=f):without cs f=cs.take j++cs.drop (j+1):=by
 have keep:∀ {xs:List Cue},(∀x∈xs,Yl x≠Zg f)→without xs f=xs:=by
   intro xs h;refine List.filter_eq_self.2 fun x hx=>?_
   have:=h x hx;simp only [Yl]at this;simp only [Bool.not_eq_true',beq_eq_false_iff_ne,ne_eq];intro e;exact this (by rw [e])
 have ev:Yl cs[j]=Zg f:=by simp [Yl,hf]
 have h1:without (cs.take j) f=cs.take j:=keep fun x hx=>by
   obtain⟨i,hi,rfl⟩:=List.mem_iff_getElem.1 hx;rw [List.length_take]at hi;rw [List.getElem_take, ←ev];exact Z11 hr (by omega) hj (by omega)
 have h2:without (cs.drop (j+1)) f=cs.drop (j+1):=keep fun x hx=>by
   obtain⟨i,hi,rfl⟩:=List.mem_iff_getElem.1 hx;rw [List.length_drop]at hi;rw [List.getElem_drop, ←ev];exact Z11 hr (by omega) hj (by omega)
 conv=>lhs;rw [ZbP hj]
 simp only [without,List.filter_append,List.filter_cons]at h1 h2 ⊢;rw [h1,h2];simp [hf]
theorem YF {l:Lis} {f:List UInt8} (h1:W8 W4 l=0) (h2:Z4 f=0):Ym l f=0:=by simp [Ym,h1,h2]
theorem ZA {P:Program} {F:Option Nat→List RV→Prop} {upd:Bool} {f:FuncId} {args:List RT} {res:List RK} {r:R} {ags:Ags} {ρ:List D} {pk:List PK} {s:SpecX} (hc:ContractX P f pk upd s) (h1:∃τ,Wc pk (args.map (RT.den ρ))=some τ∧HasKs (Y1 pk) τ) (h2:upd=true→res.drop (Zs P f).length=Ya pk)
   (h:s (args.map (RT.den ρ)) fun rvs=>∃rs,RV.all res rvs=some rs∧denR P F noK r ags (ρ++rs)):denR P F noK (.callX upd f args res r) ags ρ:=⟨pk,s,hc,h1,h2,h⟩
theorem Y3 {P:Program} {F:Option Nat→List RV→Prop} {t:T} {a b:R} {ags:Ags} {ρ:List D} (h:den ρ t=.bool true) (ha:denR P F noK a ags ρ):denR P F noK (.ite t a b) ags ρ:=⟨fun _=>ha,fun h'=>by rw [h]at h';cases h'⟩
theorem J3 {P:Program} {F:Option Nat→List RV→Prop} {t:T} {a b:R} {ags:Ags} {ρ:List D} (h:den ρ t=.bool false) (hb:denR P F noK b ags ρ):denR P F noK (.ite t a b) ags ρ:=⟨fun h'=>absurd (h.symm.trans h') (by simp),fun _=>hb⟩
def tc (n l:List UInt8):Cue:=⟨n,[],[],[⟨0,0,0,0,0,0⟩],false,false, -1,l,0⟩
def three:Lis:=⟨1,0,[tc [49] [],tc [50,46,53] [49],tc [51] [52]]⟩
noncomputable def t180:R:=let x0:T:=.o2 .le (.o1 .len (Va 0)) (Vn 40);let x1:T:=.o2 .le (.o1 .len (Va 1)) (Vn 100);let x2:T:=.o2 .le (.o1 .len (Va 7)) (Vn 40);let x3:T:=.o2 .le (.o1 .len (Va 3)) (Vn 10);.fact (.o2 .le (.o1 .len (Va 0)) (Vn 140737488355328)) (.fact (.ite x0 (.o2 .le (.o1 .len (Va 1)) (Vn 140737488355328)) (.bool true)) (.fact (.ite (.ite x0 x1 (.bool false)) (.o2 .le (.o1 .len (Va 7)) (Vn 140737488355328)) (.bool true)) (.fact (.ite (.ite (.ite x0 x1 (.bool false)) x2 (.bool false)) (.o2 .le (.o1 .len (Va 3)) (Vn 140737488355328)) (.bool true)) (.call (some (.ite (.ite (.ite x0 x1 (.bool false)) x2 (.bool false)) x3 (.bool false))) (.fn 218) [Va 2] [.cell .bool] (.ret [.d (.ite (.ite (.ite (.ite x0 x1 (.bool false)) x2 (.bool false)) x3 (.bool false)) (Va 9) (.bool false))])))))
theorem ZdX:fnO Tryz.prog mdA 180 [.agg J9]=t180:=by kernel_rfl
noncomputable def t107:R:=let x0:T:=.o1 .len (Va 2);.fact (.o2 .le x0 (Vn 140737488355328)) (.ite (.o2 .gt x0 (Vn 128)) (.ret [.d (.bool false)]) (.loop 0 [Vn 0] [.int .i64] (.ite (.o2 .lt (Va 3) x0) (.need (.o2 .le (Vn 0) (Va 3)) (.call none (.fn 180) [Vl (.idx (Va 2) (Va 3) 0 .str) (Vl (.idx (Va 2) (Va 3) 1 .str) (Vl (.idx (Va 2) (Va 3) 2 (.slice mvKs)) (Vl (.idx (Va 2) (Va 3) 3 (.slice tmKs)) (Vl (.idx (Va 2) (Va 3) 4 .bool) (Vl (.idx (Va 2) (Va 3) 5 .bool) (Vl (.idx (Va 2) (Va 3) 6 (.int .i64)) (Vl (.idx (Va 2) (Va 3) 7 .str) (Vl (.idx (Va 2) (Va 3) 8 (.int .i64)) .lnil))))))))] [.cell .bool] (.ite (.o1 .not (Va 4)) (.ret [.d (.bool false)]) (.again 0 [.o2 (.add .i64) (Va 3) (Vn 1)])))) (.ret [.d (.bool true)]))))
theorem ZeS:fnO Tryz.prog mdA 107 [.agg liKs]=t107:=by kernel_rfl
noncomputable def t135:R:=let x0:T:=Vl (Va 1) (Vl (Va 2) .lnil);.call none (.fn 128) [Vl (Va 0) x0,.push .nils (Vl (Va 3) .lnil)] [.cell (.int .i64)] (.ite (.o2 .ne (Va 4) (Vn 0)) (.ret [.d (Vn 0),.d (.bool false),.d (Va 4)]) (.call none (.fn 198) [Vl (Va 0) x0,Va 3] [.cell (.int .i64)] (.ret [.d (.ite (.o2 .gt (Vn 0) (Va 5)) (Vn 0) (Va 5)),.d (.o2 .ge (Va 5) (Vn 0)),.d (Vn 0)])))
theorem Zeq:fnO Tryz.prog mdA 135 [.agg liKs,.cell .str]=t135:=by kernel_rfl
def ZcB (c:Cue):Bool:=decide (c.num.length≤40)&&decide (c.label.length≤100)&&decide (c.link.length≤40)&&decide (c.parts.length≤10)&&Z2V c.moves
theorem ZcA:Contract Tryz.prog 180 fun args K=>∃c:Cue,c.Ok∧args=[.agg c.enc]∧K [.d (.bool (ZcB c))]:=by
 refine .of (by kernel_rfl) ZdX ?_;rintro _ K ⟨c,hc,rfl,hK⟩ hsm;refine⟨c.enc,rfl,Cue.has hc,?_⟩;simp only [ZcB]at hK;simp only [zz,reduceCtorEq,t180,Cue.enc,List.length_map];intro _ _ _ _;refine Z5 Z7L (decide (c.num.length≤40)&&decide (c.label.length≤100)&&decide (c.link.length≤40)&&decide (c.parts.length≤10)) [.bool (decide (c.num.length≤40)&&decide (c.label.length≤100)&&decide (c.link.length≤40)&&decide (c.parts.length≤10)&&Z2V c.moves)] ?_ (fun h=>⟨c.moves,hc.moves,rfl,?_⟩) (fun h=>?_) ?_
 · simp only [zz,reduceCtorEq,List.length_map];by_cases h1:c.num.length≤40 <;> by_cases h2:c.label.length≤100 <;> by_cases h3:c.link.length≤40 <;> by_cases h4:c.parts.length≤10 <;> simp [h1,h2,h3,h4] <;> omega
 · rw [h];rfl
 · rw [h];rfl
 · simp only [zz,reduceCtorEq,List.length_map];revert hK;by_cases h1:c.num.length≤40 <;> by_cases h2:c.label.length≤100 <;> by_cases h3:c.link.length≤40 <;> by_cases h4:c.parts.length≤10 <;> simp [h1,h2,h3,h4] <;> grind
def Zb3:List Cue→Bool
 | []=>true
 |c::cs=>if ZcB c then Zb3 cs else false
def Zhd (l:Lis):Bool:=if 128 < l.cues.length then false else Zb3 l.cues
theorem Zcz:Contract Tryz.prog 107 fun args K=>∃l:Lis,l.Ok∧args=[.agg l.enc]∧K [.d (.bool (Zhd l))]:=by
 refine .of (by kernel_rfl) ZeS ?_;rintro _ K ⟨l,hl,rfl,hK⟩ hsm;refine⟨l.enc,rfl,Lis.has hl,?_⟩;simp only [Zhd]at hK;simp only [zz,reduceCtorEq,t107,Lis.enc,List.length_map];refine fun hcap=>⟨fun h=>by rw [if_pos (by omega)]at hK;exact hK,fun h=>?_⟩
 rw [if_neg (by omega)]at hK;refine Jb l.cues (fun i l' (_:Unit)=>Zb3 l') (fun i _=>[.int .i64 i]) () _ rfl 0 (fun _ _=>rfl) rfl ?_ ?_
 · intro i hi _ hgo;simp only [Zb3]at hgo;simp only [zz,reduceCtorEq,hi,List.length_map];refine⟨by omega,Z0 ZcA ⟨l.cues[i],hl.cues _ (List.getElem_mem hi),by simp only [zz,reduceCtorEq,J0 hi,Cue.enc],_,rfl,?_⟩⟩;simp only [zz,reduceCtorEq];cases hf:ZcB l.cues[i]
   · rw [hf]at hgo;rw [←hgo]at hK;exact⟨fun _=>hK,fun h=>by simp at h⟩
   · rw [hf]at hgo;exact⟨fun h=>by simp at h,fun _=>⟨(),by rw [Z1] <;> omega,hgo⟩⟩
 · intro _ hgo;simp only [Zb3]at hgo;simp only [zz,reduceCtorEq,List.length_map];rw [←hgo]at hK;exact hK
theorem Z2x (l:Lis) (s:List UInt8):Z0r l [s]=Ym l s:=by
 simp only [Z0r,Ym,WQ];split
 · rfl
 · split
   · rfl
   · rename_i h;exact(by simpa using h:Z4 s=0).symm
theorem Z3D {l:Lis} {s:List UInt8} (h:Ym l s=0):RightL l∧Z4 s=0:=by
 simp only [Ym]at h;split at h
 · rename_i h1;exact absurd h h1
 · rename_i h1;exact⟨Wd (by simpa using h1),h⟩
theorem Z4S {X:Type} {p q:X→Bool}:∀ {l:List X},(∀x∈l,p x=q x)→l.find? p=l.find? q
 | [],_=>rfl
 | x::xs,h=>by
   simp only [List.find?_cons,h x (by simp)];rw [Z4S fun y hy=>h y (by simp [hy])]
def Yp (l:Lis) (s:List UInt8):Int×Bool×Int:=if Ym l s≠0 then(0,false,Ym l s)else(if place l.cues s < 0 then 0 else place l.cues s,decide (0≤place l.cues s),0)
theorem Z5J:Contract Tryz.prog 135 fun args K=>∃(l:Lis) (s:List UInt8),l.Ok∧args=[.agg l.enc,.str s]∧K [.d (.int .i64 (Yp l s).1),.d (.bool (Yp l s).2.1),.d (.int .i64 (Yp l s).2.2)]:=by
 refine .of (by kernel_rfl) Zeq ?_;rintro _ K ⟨l,s,hl,rfl,hK⟩ hsm;refine⟨l.enc++[.str s],rfl,by exact Z1o hl,?_⟩;refine Z0 Z51 ⟨l,[s],hl,rfl,_,rfl,?_⟩;simp only [Yp]at hK;simp only [zz,reduceCtorEq,Lis.enc,Z2x];refine⟨fun h=>?_,fun h=>?_⟩
 · rw [if_pos (by simpa using h)]at hK;exact hK
 · rw [if_neg (by simpa using h)]at hK;refine Z0 Zc3 ⟨l,s,hl,rfl,_,rfl,?_⟩;simp only [zz,reduceCtorEq];exact hK
def Z57 (l:Lis) (s:List UInt8):List UInt8×Bool×Int:=if Ym l s≠0 then([],false,Ym l s)else((pick ((names l).find? fun x=>decide (0 < W4 x s))).1,(pick ((names l).find? fun x=>decide (0 < W4 x s))).2,0)
theorem Z7u {l:Lis} (h:RightL l):∀x∈names l,Z4 x=0:=fun x hx=>by
 obtain⟨c,hc,rfl⟩:=List.mem_map.1 hx;exact h.num c hc
theorem ZbF:Contract Tryz.prog 56 fun args K=>∃(l:Lis) (s:List UInt8),l.Ok∧args=[.agg l.enc,.str s]∧K [.d (.str (Z57 l s).1),.d (.bool (Z57 l s).2.1),.d (.int .i64 (Z57 l s).2.2)]:=
 after_ok.weaken fun args K _ ⟨l,s,h1,h2,h3⟩=>⟨l,s,h1,h2,by
   rw [Z2x];simp only [Z57]at h3;split
   · rename_i h;simpa [h]using h3
   · rename_i h;obtain⟨hr,hs⟩:=Z3D (by simpa using h);rw [Z4S (q:=fun x=>decide (0 < W4 x s)) fun x hx=>by rw [Z1Y (Z7u hr x hx) hs]];simpa [h]using h3⟩
theorem Z89 {d:D} (h:HasK .str d):∃s,d=.str s:=by cases d <;> simp [HasK]at h;exact⟨_,rfl⟩
theorem Z7W {d:D} (h:HasK .bool d):∃s,d=.bool s:=by cases d <;> simp [HasK]at h;exact⟨_,rfl⟩
theorem Z2K {X:Type} {enc:X→List D} {ks:List K} {Ok:X→Prop} (h:∀ds,HasKs ks ds→∃x,Ok x∧ds=enc x) {d:D} (hd:HasK (.slice ks) d):∃l:List X,(∀x∈l,Ok x)∧d=.slice (l.map enc):=by
 cases d <;> simp only [HasK]at hd
 rename_i xs;induction xs with
 |nil=>exact⟨[],by simp,rfl⟩
 | cons x xs ih=>
   obtain⟨y,hy,rfl⟩:=h x (hd x (by simp));obtain⟨l,h1,h2⟩:=ih fun z hz=>hd z (by simp [hz])
   refine⟨y::l,?_,?_⟩
   · intro z hz;rcases List.mem_cons.1 hz with rfl|hz
     · exact hy
     · exact h1 z hz
   · have:xs=l.map enc:=by simpa using h2
     rw [List.map_cons,this]
theorem Mov.of {ds:List D} (h:HasKs mvKs ds):∃m:Mov,m.Ok∧ds=m.enc:=by
 match ds,h with
 | [a,b,c,d,e],⟨h1,h2,h3,h4,h5,_⟩=>
   obtain⟨a,rfl,ha⟩:=Jt h1;obtain⟨b,rfl,hb⟩:=Jt h2;obtain⟨c,rfl,hc⟩:=Jt h3;obtain⟨d,rfl,hd⟩:=Jt h4;obtain⟨e,rfl,he⟩:=Jt h5;exact⟨⟨⟨a,b⟩,⟨c,d⟩,e⟩,⟨⟨ha,hb⟩,⟨hc,hd⟩,he⟩,rfl⟩
theorem Tim.of {ds:List D} (h:HasKs tmKs ds):∃m:Tim,m.Ok∧ds=m.enc:=by
 match ds,h with
 | [a,b,c,d,e,f],⟨h1,h2,h3,h4,h5,h6,_⟩=>
   obtain⟨a,rfl,ha⟩:=Jt h1;obtain⟨b,rfl,hb⟩:=Jt h2;obtain⟨c,rfl,hc⟩:=Jt h3;obtain⟨d,rfl,hd⟩:=Jt h4;obtain⟨e,rfl,he⟩:=Jt h5;obtain⟨f,rfl,hf⟩:=Jt h6;exact⟨⟨a,b,c,d,e,f⟩,⟨ha,hb,hc,hd,he,hf⟩,rfl⟩
theorem Cue.of {ds:List D} (h:HasKs J9 ds):∃m:Cue,m.Ok∧ds=m.enc:=by
 match ds,h with
 | [a,b,c,d,e,f,g,i,j],⟨h1,h2,h3,h4,h5,h6,h7,h8,h9,_⟩=>
   obtain⟨a,rfl⟩:=Z89 h1;obtain⟨b,rfl⟩:=Z89 h2;obtain⟨c,hc,rfl⟩:=Z2K (fun _=>Mov.of) h3;obtain⟨d,hd,rfl⟩:=Z2K (fun _=>Tim.of) h4;obtain⟨e,rfl⟩:=Z7W h5;obtain⟨f,rfl⟩:=Z7W h6;obtain⟨g,rfl,hg⟩:=Jt h7;obtain⟨i,rfl⟩:=Z89 h8;obtain⟨j,rfl,hj⟩:=Jt h9;exact⟨⟨a,b,c,d,e,f,g,i,j⟩,⟨hc,hd,hg,hj⟩,rfl⟩
theorem Lis.of {ds:List D} (h:HasKs liKs ds):∃m:Lis,m.Ok∧ds=m.enc:=by
 match ds,h with
 | [a,b,c],⟨h1,h2,h3,_⟩=>
   obtain⟨a,rfl,ha⟩:=Jt h1;obtain⟨b,rfl,hb⟩:=Jt h2;obtain⟨c,hc,rfl⟩:=Z2K (fun _=>Cue.of) h3;exact⟨⟨a,b,c⟩,⟨ha,hb,hc⟩,rfl⟩
theorem Lis.ofAgg {d:D} (h:HasK (.agg liKs) d):∃l:Lis,l.Ok∧d=.agg l.enc:=by
 cases d <;> simp only [HasK]at h
 obtain⟨l,h1,rfl⟩:=Lis.of h;exact⟨l,h1,rfl⟩
noncomputable def t200:R:=.ite (.o2 .ne (Va 0) (Va 2)) (.ret [.d (.o2 (.sub .i64) (Va 0) (Va 2))]) (.ret [.d (.o2 (.sub .i64) (Va 1) (Va 3))])
theorem ZdF:fnO Tryz.prog mdA 200 [.agg [.int .i64,.int .i64],.agg [.int .i64,.int .i64]]=t200:=by kernel_rfl
theorem c200:J2 Tryz.prog 200=true:=by kernel_rfl
noncomputable def t208:R:=.call none (.fn 200) [Vl (Va 0) (Vl (Va 1) .lnil),Vl (Va 5) (Vl (Va 6) .lnil)] [.cell (.int .i64)] (.ret [.d (Va 7)])
theorem Zdz:fnO Tryz.prog mdA 208 [.agg mvKs,.agg [.int .i64,.int .i64]]=t208:=by kernel_rfl
theorem c208:J2 Tryz.prog 208=true:=by kernel_rfl
noncomputable def t207:R:=let x0:T:=.o1 (.conv .i64) (.o2 (.shr .u64) (.o1 (.conv .u64) (.o2 (.add .i64) (Va 4) (Va 5))) (.int .u64 1));let x2:T:=.o1 .len (Va 0);let x3:T:=.o2 .lt (Va 6) (Vn 0);let x1:T:=.o2 .lt (Va 4) x2;.fact (.o2 .le x2 (Vn 140737488355328)) (.loop 0 [Vn 0,.o1 .len (Va 0)] [.int .i64,.int .i64] (.ite (.o2 .lt (Va 4) (Va 5)) (.need (.o2 .ge (.int .u64 1) (.int .u64 0)) (.need (.o2 .le (Vn 0) x0) (.need (.o2 .lt x0 x2) (.call none (.val (Va 3)) [Vl (.idx (Va 0) x0 0 (.int .i64)) (Vl (.idx (Va 0) x0 1 (.int .i64)) (Vl (.idx (Va 0) x0 2 (.int .i64)) (Vl (.idx (Va 0) x0 3 (.int .i64)) (Vl (.idx (Va 0) x0 4 (.int .i64)) .lnil)))),Vl (Va 1) (Vl (Va 2) .lnil)] [.cell (.int .i64)] (.lets [.ite x3 (.o2 (.add .i64) x0 (Vn 1)) (Va 4),.ite x3 (Va 5) x0] (.again 0 [Va 7,Va 8])))))) (.need (.ite x1 (.o2 .le (Vn 0) (Va 4)) (.bool true)) (.call (some x1) (.val (Va 3)) [Vl (.idx (Va 0) (Va 4) 0 (.int .i64)) (Vl (.idx (Va 0) (Va 4) 1 (.int .i64)) (Vl (.idx (Va 0) (Va 4) 2 (.int .i64)) (Vl (.idx (Va 0) (Va 4) 3 (.int .i64)) (Vl (.idx (Va 0) (Va 4) 4 (.int .i64)) .lnil)))),Vl (Va 1) (Vl (Va 2) .lnil)] [.cell (.int .i64)] (.ret [.d (Va 4),.d (.ite x1 (.o2 .eq (Va 6) (Vn 0)) (.bool false))])))))
theorem ZdA:fnO Tryz.prog mdA 207 [.cell (.slice mvKs),.agg [.int .i64,.int .i64],.cell .fn]=t207:=by kernel_rfl
noncomputable def t201:R:=.ret [.d (Vl (Vn (-1)) (Vl (Vn 0) .lnil))]
theorem ZdE:fnO Tryz.prog mdA 201 []=t201:=by kernel_rfl
noncomputable def t158:R:=.call none (.fn 207) [Va 2,Vl (Va 9) (Vl (Va 10) .lnil),.fn 208] [.cell (.int .i64),.cell .bool] (.ite (.o1 .not (Va 12)) (.call none (.fn 201) [] [.agg [.int .i64,.int .i64]] (.ret [.d (Vl (Va 13) (Vl (Va 14) .lnil)),.d (.bool false)])) (.need (.o2 .le (Vn 0) (Va 11)) (.need (.o2 .lt (Va 11) (.o1 .len (Va 2))) (.ret [.d (Vl (.idx (Va 2) (Va 11) 2 (.int .i64)) (Vl (.idx (Va 2) (Va 11) 3 (.int .i64)) .lnil)),.d (.bool true)]))))
theorem Zed:fnO Tryz.prog mdA 158 [.agg J9,.agg [.int .i64,.int .i64]]=t158:=by kernel_rfl
theorem Jj {p:Par} (h:Z3 p=0):1≤p.ch∧p.ch≤999∧0≤p.at_∧p.at_ < 15:=by
 unfold Z3 at h;split at h
 · cases h
 · omega
theorem Par.ext' {p q:Par} (h1:p.ch=q.ch) (h2:p.at_=q.at_):p=q:=by cases p;cases q;simp_all
theorem Z2O {p q:Par} (hp:Z3 p=0) (hq:Z3 q=0):pcmp p q < 0↔W3 p q=true:=by
 have h1:=Jj hp;have h2:=Jj hq;simp only [pcmp,W3,Bool.or_eq_true,Bool.and_eq_true,decide_eq_true_eq];split <;> rw [Z1 (by omega)] <;> omega
theorem Zap {p q:Par} (hp:Z3 p=0) (hq:Z3 q=0):pcmp p q=0↔p=q:=by
 have h1:=Jj hp;have h2:=Jj hq;simp only [pcmp];constructor
 · intro h;split at h <;> rw [Z1 (by omega)]at h
   · omega
   · exact Par.ext' (by omega) (by omega)
 · rintro rfl;simp [Z1]
theorem Wa (p:Par):W3 p p=false:=by simp [W3]
theorem Yj {p q r:Par} (h1:W3 p q=true) (h2:W3 q r=true):W3 p r=true:=by
 simp only [W3,Bool.or_eq_true,Bool.and_eq_true,decide_eq_true_eq]at *;omega
theorem ZM {p q:Par} (h1:W3 p q=false) (h2:W3 q p=false):p=q:=by
 simp only [W3,Bool.or_eq_false_iff,Bool.and_eq_false_iff,decide_eq_false_iff_not]at *;exact Par.ext' (by omega) (by omega)
def Jg (ms:List Mov):Prop:=ms.Pairwise fun a b=>W3 a.pa b.pa=true
theorem Z2i {xs:List Mov}:∀(cs:List Mov) (i:Nat),cs=xs.drop i→Yg xs i cs=0→(∀c∈cs,Z3 c.pa=0)∧(∀j,i≤j→0 < j→(hj:j < xs.length)→W3 (xs[j - 1]'(by omega)).pa (xs[j]).pa=true)
 | [],i,he,_=>⟨by simp,fun j h1 h2 h3=>by
     have:=congrArg List.length he;simp at this;omega⟩
 | c ::cs,i,he,h=>by
   have hlt:i < xs.length:=by
     rcases Nat.lt_or_ge i xs.length with h|h
     · exact h
     · rw [List.drop_eq_nil_of_le h]at he;cases he
   rw [List.drop_eq_getElem_cons hlt]at he;obtain⟨rfl,rfl⟩:=List.cons.inj he;simp only [Yg]at h;split at h
   · rename_i hc;exact absurd h hc
   rename_i hc;have hc:Z3 xs[i].pa=0:=by simpa using hc
   split at h
   · rename_i hc;exact absurd h hc
   split at h
   · cases h
   split at h
   · cases h
   rename_i ho;obtain⟨g1,g2⟩:=Z2i (xs.drop (i+1)) (i+1) rfl h;refine⟨fun d hd=>?_,fun j h1 h2 h3=>?_⟩
   · rcases List.mem_cons.1 hd with rfl|hd
     · exact hc
     · exact g1 d hd
   · rcases Nat.eq_or_lt_of_le h1 with rfl|h1
     · rw [getElem!_pos xs (i - 1) (by omega)]at ho;rcases Bool.eq_false_or_eq_true (W3 (xs[i - 1]'(by omega)).pa (xs[i]).pa)with hb|hb
       · exact hb
       · exact absurd ⟨h2,hb⟩ ho
     · exact g2 j h1 h2 h3
structure RightM (ms:List Mov):Prop where
 par:∀m∈ms,Z3 m.pa=0
 rising:Jg ms
 len:ms.length≤128
theorem Z3f {ms:List Mov} (h:Wi ms=0):RightM ms:=by
 unfold Wi at h;split at h
 · cases h
 · rename_i hl;obtain⟨g1,g2⟩:=Z2i ms 0 rfl h;refine⟨g1,?_,by omega⟩;rw [Jg,List.pairwise_iff_getElem];have step:∀(n i:Nat) (hi:i+n+1 < ms.length),W3 (ms[i]'(by omega)).pa (ms[i+n+1]).pa=true:=by
     intro n;induction n with
     |zero=>intro i hi;exact g2 (i+1) (Nat.zero_le _) (by omega) hi
     |succ n ih=>intro i hi;exact Yj (ih i (by omega)) (g2 (i+(n+1)+1) (Nat.zero_le _) (by omega) hi)
   intro i j hi hj hij;obtain⟨n,rfl⟩:∃n,j=i+n+1:=⟨j - i - 1,by omega⟩
   exact step n i hj
theorem WW {c:Cue} (h:J5 c=0):Wi c.moves=0:=by
 simp only [J5]at h;split at h
 · rename_i h1;exact absurd h h1
 split at h
 · rename_i h1;exact absurd h h1
 split at h
 · rename_i h1;exact absurd h h1
 · rename_i h1;simpa using h1
theorem Z9R:Contract Tryz.prog 200 fun args K=>∃p q:Par,p.Ok∧q.Ok∧args=[.agg p.enc,.agg q.enc]∧K [.d (.int .i64 (pcmp p q))]:=by
 refine .of c200 ZdF ?_;rintro _ K ⟨p,q,hp,hq,rfl,hK⟩ hsm;refine⟨p.enc++q.enc,rfl,by exact(Par.has hp).append (Par.has hq),?_⟩;simp only [pcmp]at hK;simp only [zz,reduceCtorEq,t200,Par.enc];grind
theorem Z9N:Contract Tryz.prog 208 fun args K=>∃(m:Mov) (q:Par),m.Ok∧q.Ok∧args=[.agg m.enc,.agg q.enc]∧K [.d (.int .i64 (pcmp m.pa q))]:=by
 refine .of c208 Zdz ?_;rintro _ K ⟨m,q,hm,hq,rfl,hK⟩ hsm;refine⟨m.enc++q.enc,rfl,by exact(Mov.has hm).append (Par.has hq),?_⟩;refine Z0 Z9R ⟨m.pa,q,hm.1,hq,rfl,_,rfl,?_⟩;simp only [zz,reduceCtorEq,Mov.enc,Par.enc];exact hK
theorem Z87:Contract Tryz.prog 201 fun args K=>args=[]∧K [.d (.agg (Val.enc ⟨-1,0⟩))]:=by
 refine .of (by kernel_rfl) ZdE ?_;rintro _ K ⟨rfl,hK⟩ hsm;exact⟨[],rfl,trivial,hK⟩
def low (ms:List Mov) (p:Par):Nat:=(ms.takeWhile fun m=>W3 m.pa p).length
theorem Zd4 {ms:List Mov} {p:Par}:∀ {i:Nat},i≤ms.length→(∀k (hk:k < ms.length),k < i→W3 (ms[k]).pa p=true)→(∀k (hk:k < ms.length),i≤k→W3 (ms[k]).pa p=false)→low ms p=i:=by
 induction ms with
 |nil=>intro i h _ _;simp at h;simp [low,h]
 | cons m ms ih=>
   intro i hi h1 h2;cases i with
   |zero=>have:=h2 0 (by simp) (by simp);simp at this;simp [low,this]
   | succ i=>
     have h0:=h1 0 (by simp) (by omega);simp at h0;have:=ih (i:=i) (by simpa using hi) (fun k hk hki=>by have:=h1 (k+1) (by simpa using hk) (by omega);simpa using this) (fun k hk hki=>by have:=h2 (k+1) (by simpa using hk) (by omega);simpa using this);simp only [low]at this;simp [low,h0,this]
theorem ZcT {n:Int} (h:0≤n∧n≤9223372036854775807):IntKind.u64.wrap n=n:=
 Z0B .u64 n (by simp [IntKind.min,IntKind.signed];omega) (by simp [IntKind.max,IntKind.signed,IntKind.bits];omega)
theorem Zh5 {lo hi:Nat} (h:lo+hi≤281474976710656):wr64 (IntKind.u64.wrap ((IntKind.u64.wrap (wr64 ((lo:Int)+hi))).fdiv (2 ^ min (Int.toNat 1) IntKind.u64.bits)))=((lo+hi) / 2:Nat):=by
 have e:(2:Int) ^ min (Int.toNat 1) IntKind.u64.bits=2:=by
   simp [IntKind.bits]
 rw [e,Z1 (n:=(lo:Int)+hi) (by omega),ZcT (n:=(lo:Int)+hi) (by omega)];have e2:((lo:Int)+hi).fdiv 2=((lo+hi) / 2:Nat):=by
   rw [Int.fdiv_eq_ediv_of_nonneg _ (by omega)];omega
 rw [e2,ZcT (by omega),Z1 (by omega)]
theorem Jz {P:Program} {F:Option Nat→List RV→Prop} {t:T} {s:Spec} {args:List T} {res:List RK} {r:R} {ags:Ags} {ρ:List D} {c:T} (b:Bool) (v:List D) (hb:den ρ c=.bool b)
   (h1:b=true→FvC P (den ρ t) s∧s (args.map (den ρ)) fun rvs=>∃rs,RV.all res rvs=some rs∧HasKs (RK.all res) rs∧rs=v) (h2:b=false→Go.Sx.K.zeros (RK.all res)=v)
   (h3:denR P F noK r ags (ρ++v)):denR P F noK (.call (some c) (.val t) args res r) ags ρ:=
 ⟨fun rs=>rs=v,fun h=>⟨s,h1 (by rw [hb]at h;exact D.bool.inj h)⟩,fun h=>h2 (by rw [hb]at h;exact D.bool.inj h),fun rs _ h=>by rw [h];exact h3⟩
structure RightB (ms:List Mov):Prop where
 par:∀m∈ms,Z3 m.pa=0
 rising:Jg ms
 len:ms.length≤100000
theorem RightM.toB {ms:List Mov} (h:RightM ms):RightB ms:=⟨h.par,h.rising,by have:=h.len;omega⟩
theorem bsearchG_ok:Contract Tryz.prog 207 fun args K=>∃(ms:List Mov) (p:Par) (g:FuncId),(∀m∈ms,m.Ok)∧p.Ok∧RightB ms∧Z3 p=0∧(∀m∈ms,FvC Tryz.prog (.clo g []) fun as_ K=>as_=[.agg m.enc,.agg p.enc]∧K [.d (.int .i64 (pcmp m.pa p))])∧
   args=[.slice (ms.map Mov.enc),.agg p.enc,.clo g []]∧K [.d (.int .i64 (low ms p)),.d (.bool (ms.any fun m=>decide (m.pa=p)))]:=by
 refine .of (by kernel_rfl) ZdA ?_;rintro _ K ⟨ms,p,g,hms,hp,hR,hpp,hfv,rfl,hK⟩ hsm;refine⟨[.slice (ms.map Mov.enc)]++p.enc++[.clo g []],rfl,?_,?_⟩
 · exact⟨Y6 fun m hm=>Mov.has (hms m hm),Y2 hp.1,Y2 hp.2,trivial,trivial⟩
 have hlen:=hR.len;have hi64:∀m∈ms,HasKs (RK.all [.cell (.int .i64)]) [.int .i64 (pcmp m.pa p)]:=by
   intro m hm;have h1:=Jj (hR.par m hm);have h2:=Jj hpp;refine⟨Y2 ?_,trivial⟩;unfold pcmp;split <;> rw [Z1 (by omega)] <;> exact⟨by omega,by omega⟩
 simp only [zz,reduceCtorEq,t207,List.length_map,Par.enc];intro hcap;rw [JP];refine⟨fun c ys=>c=none∧∃lo hi:Nat,lo≤hi∧hi≤ms.length∧(∀k (hk:k < ms.length),k < lo→W3 (ms[k]).pa p=true)∧(∀k (hk:k < ms.length),hi≤k→W3 (ms[k]).pa p=false)∧ys=[.int .i64 lo,.int .i64 hi],
   fun _ ys=>match ys with| [.int _ lo,.int _ hi]=>(hi - lo).toNat|_=>0,⟨rfl,0,ms.length,Nat.zero_le _,Nat.le_refl _,fun k hk h=>by omega,fun k hk h=>by omega,?_⟩,?_⟩
 · simp only [zz,reduceCtorEq,List.length_map];rfl
 rintro _ _ _ ⟨rfl,lo,hi,hlh,hhi,hlo,hhi2,rfl⟩;have fcall:∀(k:Nat) (hk:k < ms.length),FvC Tryz.prog (.clo g []) fun as_ K=>as_=[.agg [.int .i64 ms[k].pa.ch,.int .i64 ms[k].pa.at_,.int .i64 ms[k].va.pal,.int .i64 ms[k].va.lev,.int .i64 ms[k].part],.agg [.int .i64 p.ch,.int .i64 p.at_]]∧K [.d (.int .i64 (pcmp ms[k].pa p))]:=
   fun k hk=>hfv ms[k] (List.getElem_mem hk)
 rcases Nat.lt_or_ge lo hi with hlt|hge
 · obtain⟨k,hk1,hk2,hmid⟩:∃k:Nat,lo≤k∧k < hi∧wr64 (IntKind.u64.wrap ((IntKind.u64.wrap (wr64 ((lo:Int)+hi))).fdiv (2 ^ min (Int.toNat 1) IntKind.u64.bits)))=(k:Int):=
     ⟨(lo+hi) / 2,by omega,by omega,Zh5 (by omega)⟩
   have hm:k < ms.length:=by omega
   simp only [zz,reduceCtorEq,List.length_map,hlt,hmid];refine⟨by omega,by omega,hm,Z7 (fcall k hm) ⟨?_,[.int .i64 (pcmp ms[k].pa p)],rfl,hi64 ms[k] (List.getElem_mem hm),?_⟩⟩
   · simp only [zz,reduceCtorEq,hmid,J0 hm,Mov.enc]
   · simp only [zz,reduceCtorEq,hmid];have hc:=Z2O (hR.par ms[k] (List.getElem_mem hm)) hpp;by_cases hneg:pcmp ms[k].pa p < 0
     · simp only [zz,reduceCtorEq,hneg,Z1 (n:=(k:Int)+1) (by omega)];refine⟨⟨rfl,k+1,hi,by omega,hhi,fun q hq hqk=>?_,hhi2,by simp⟩,by omega⟩;rcases Nat.lt_or_ge q k with h|h
       · exact Yj (List.pairwise_iff_getElem.1 hR.rising q k hq hm h) (hc.1 hneg)
       · have:q=k:=by omega
         subst this;exact hc.1 hneg
     · simp only [zz,reduceCtorEq,hneg];refine⟨⟨rfl,lo,k,by omega,by omega,hlo,fun q hq hqk=>?_,⟨rfl,rfl⟩⟩,by omega⟩;rw [Bool.eq_false_iff];intro hb;rcases Nat.lt_or_ge k q with h|h
       · exact hneg (hc.2 (Yj (List.pairwise_iff_getElem.1 hR.rising k q hm hq h) hb))
       · have:q=k:=by omega
         subst this;exact hneg (hc.2 hb)
 · have:lo=hi:=by omega
   subst this;have hlow:=Zd4 (ms:=ms) (p:=p) hhi hlo hhi2;simp only [zz,reduceCtorEq,List.length_map,Nat.lt_irrefl];have hany:∀(h:lo < ms.length),(ms.any fun m=>decide (m.pa=p))=decide (pcmp ms[lo].pa p=0):=by
     intro h;have hz:=Zap (hR.par ms[lo] (List.getElem_mem h)) hpp;rw [Bool.eq_iff_iff];simp only [List.any_eq_true,decide_eq_true_eq,hz];refine⟨fun⟨m,hm,he⟩=>?_,fun he=>⟨ms[lo],List.getElem_mem h,he⟩⟩;obtain⟨q,hq,rfl⟩:=List.getElem_of_mem hm;rcases Nat.lt_trichotomy q lo with h1|h1|h1
     · have:=hlo q hq h1;rw [he,Wa]at this;cases this
     · subst h1;exact he
     · have h2:=List.pairwise_iff_getElem.1 hR.rising lo q h hq h1;have h3:=hhi2 lo h (Nat.le_refl _);rw [he]at h2;rw [h2]at h3;cases h3
   have hnone:ms.length≤lo→(ms.any fun m=>decide (m.pa=p))=false:=by
     intro h;rw [List.any_eq_false];intro m hm he;obtain⟨q,hq,rfl⟩:=List.getElem_of_mem hm;have:=hlo q hq (by omega);simp only [decide_eq_true_eq]at he;rw [he,Wa]at this;cases this
   refine⟨by split <;> simp,?_⟩;rcases Nat.lt_or_ge lo ms.length with h|h
   · refine Jz (s:=_) true [.int .i64 (pcmp ms[lo].pa p)] (by simp only [zz,reduceCtorEq,List.length_map,h]) (fun _=>⟨fcall lo h,?_,[.int .i64 (pcmp ms[lo].pa p)],rfl,hi64 ms[lo] (List.getElem_mem h),rfl⟩) (fun e=>by cases e) ?_
     · simp only [zz,reduceCtorEq,J0 h,Mov.enc]
     · rw [hany h,hlow]at hK;simp only [zz,reduceCtorEq,List.length_map,h];simpa using hK
   · have hn:¬lo < ms.length:=by omega
     refine Jz (s:=fun _ _=>True) false [.int .i64 0] (by simp only [zz,reduceCtorEq,List.length_map,hn]) (fun e=>by cases e) (fun _=>rfl) ?_;rw [hnone h,hlow]at hK;simp only [zz,reduceCtorEq,List.length_map,hn];exact hK
theorem Z9O {m:Mov} {p:Par} (hm:m.Ok) (hp:p.Ok):FvC Tryz.prog (.clo 208 []) fun as_ K=>as_=[.agg m.enc,.agg p.enc]∧K [.d (.int .i64 (pcmp m.pa p))]:=by
 refine FvC.of c208 Z9N ?_;rintro _ K ⟨rfl,hK⟩;refine⟨⟨m,p,hm,hp,rfl,hK⟩,J4 [some (.agg mvKs),some (.agg paKs)] (by kernel_rfl) ?_⟩;intro i rk d h1 h2
 match i,h1,h2 with
 |0,h1,h2=>simp at h1 h2;subst h1 h2;exact Mov.has hm
 |1,h1,h2=>simp at h1 h2;subst h1 h2;exact Par.has hp
theorem Z9z:Contract Tryz.prog 207 fun args K=>∃(ms:List Mov) (p:Par),(∀m∈ms,m.Ok)∧p.Ok∧RightM ms∧Z3 p=0∧args=[.slice (ms.map Mov.enc),.agg p.enc,.clo 208 []]∧K [.d (.int .i64 (low ms p)),.d (.bool (ms.any fun m=>decide (m.pa=p)))]:=
 bsearchG_ok.weaken fun args K _ ⟨ms,p,hms,hp,hR,hpp,e,hK⟩=>⟨ms,p,208,hms,hp,hR.toB,hpp,fun m hm=>Z9O (hms m hm) hp,e,hK⟩
def Zb (ms:List Mov) (p:Par):Option Mov:=ms.find? fun m=>decide (m.pa=p)
def hval:Val:=⟨-1,0⟩
theorem Z0k (ms:List Mov) (p:Par):(ms.any fun m=>decide (m.pa=p))=(Zb ms p).isSome:=by
 rw [Bool.eq_iff_iff,Zb,List.find?_isSome];simp
theorem Z6G {ms:List Mov} {p:Par} (hR:RightM ms) {m:Mov} (h:Zb ms p=some m):∃hl:low ms p < ms.length,ms[low ms p]=m:=by
 obtain⟨h1,i,hi,h2,h3⟩:=List.find?_eq_some_iff_getElem.1 h;simp only [decide_eq_true_eq]at h1;have hlow:low ms p=i:=by
   refine Zd4 (Nat.le_of_lt hi) (fun k hk hki=>?_) (fun k hk hik=>?_)
   · rw [←h1, ←h2];exact List.pairwise_iff_getElem.1 hR.rising k i hk hi hki
   · rw [Bool.eq_false_iff];intro hb;rcases Nat.lt_or_ge i k with h|h
     · have:=Yj (List.pairwise_iff_getElem.1 hR.rising i k hi hk h) hb;rw [h2,h1,Wa]at this;cases this
     · have:i=k:=by omega
       subst this;rw [h2,h1,Wa]at hb;cases hb
 exact⟨by omega,by simp only [hlow];exact h2⟩
theorem Z86:Contract Tryz.prog 158 fun args K=>∃(c:Cue) (p:Par),c.Ok∧p.Ok∧RightM c.moves∧Z3 p=0∧args=[.agg c.enc,.agg p.enc]∧
   K [.d (.agg (((Zb c.moves p).map (·.va)).getD hval).enc),.d (.bool (Zb c.moves p).isSome)]:=by
 refine .of (by kernel_rfl) Zed ?_;rintro _ K ⟨c,p,hc,hp,hR,hpp,rfl,hK⟩ hsm;refine⟨c.enc++p.enc,rfl,by exact(Cue.has hc).append (Par.has hp),?_⟩;refine Z0 Z9z ⟨c.moves,p,hc.moves,hp,hR,hpp,?_,_,rfl,?_⟩
 · simp only [zz,reduceCtorEq,Cue.enc,Par.enc]
 rw [Z0k];cases hf:Zb c.moves p with
 | none=>
   rw [hf]at hK;simp only [zz,reduceCtorEq,Cue.enc,Par.enc,Option.isSome_none];refine Z0 Z87 ⟨rfl,_,rfl,?_⟩;simp only [zz,reduceCtorEq,Val.enc];exact hK
 | some m=>
   rw [hf]at hK;obtain⟨hl,hm⟩:=Z6G hR hf;simp only [zz,reduceCtorEq,Cue.enc,Par.enc,Option.isSome_some,List.length_map,hl,J0 hl,hm,Mov.enc];exact⟨by omega,hK⟩
noncomputable def t206:R:=let x1:List K:=tmKs;let x2:List K:=mvKs;let x0:T:=.fld (.padd (Va 1) 2) 0 (.slice [.str,.str,.slice x2,.slice x1,.bool,.bool,.int .i64,.str,.int .i64]);.loop 0 [.fld (Va 0) 0 (.int .i64)] [.int .i64] (.ite (.o2 .ge (Va 2) (Vn 0)) (.need (.o2 .le (Vn 0) (Va 2)) (.need (.o2 .lt (Va 2) (.o1 .len x0)) (.yield [Vl (.idx x0 (Va 2) 0 .str) (Vl (.idx x0 (Va 2) 1 .str) (Vl (.idx x0 (Va 2) 2 (.slice x2)) (Vl (.idx x0 (Va 2) 3 (.slice x1)) (Vl (.idx x0 (Va 2) 4 .bool) (Vl (.idx x0 (Va 2) 5 .bool) (Vl (.idx x0 (Va 2) 6 (.int .i64)) (Vl (.idx x0 (Va 2) 7 .str) (Vl (.idx x0 (Va 2) 8 (.int .i64)) .lnil))))))))] (.ite (.ite (.o1 .not (Va 3)) (.bool true) (.idx x0 (Va 2) 4 .bool)) (.ret []) (.again 0 [.o2 (.sub .i64) (Va 2) (Vn 1)]))))) (.ret []))
theorem ZdB:Zcv Tryz.prog mdA 206 [.cell (.ptr [.int .i64]),.cell (.ptr liKs)]=t206:=by kernel_rfl
noncomputable def t157:R:=.ret [.d (.clo 206 (Vl (.ptr (Vl (Va 3) .lnil)) (Vl (.ptr (Vl (Va 0) (Vl (Va 1) (Vl (Va 2) .lnil)))) .lnil)))]
theorem Zee:fnO Tryz.prog mdA 157 [.agg liKs,.cell (.int .i64)]=t157:=by kernel_rfl
noncomputable def t139:R:=.call none (.fn 157) [Vl (Va 0) (Vl (Va 1) (Vl (Va 2) .lnil)),Va 3] [.cell .fn] (.iter 0 (Va 6) [] [] [.agg J9] (.call none (.fn 158) [Vl (Va 7) (Vl (Va 8) (Vl (Va 9) (Vl (Va 10) (Vl (Va 11) (Vl (Va 12) (Vl (Va 13) (Vl (Va 14) (Vl (Va 15) .lnil)))))))),Vl (Va 4) (Vl (Va 5) .lnil)] [.agg [.int .i64,.int .i64],.cell .bool] (.ite (Va 18) (.ret [.d (Vl (Va 16) (Vl (Va 17) .lnil))]) (.again 0 []))) (.call none (.fn 201) [] [.agg [.int .i64,.int .i64]] (.ret [.d (Vl (Va 7) (Vl (Va 8) .lnil))])))
theorem Zem:fnO Tryz.prog mdA 139 [.agg liKs,.cell (.int .i64),.agg [.int .i64,.int .i64]]=t139:=by kernel_rfl
noncomputable def t72:R:=.call none (.fn 135) [Vl (Va 0) (Vl (Va 1) (Vl (Va 2) .lnil)),Va 3] [.cell (.int .i64),.cell .bool,.cell (.int .i64)] (.ite (.o2 .ne (Va 6) (Vn 0)) (.ret [.d (Vn 0),.d (Va 6)]) (.ite (.o1 .not (Va 5)) (.ret [.d (Vn 0),.d (Vn 6)]) (.ret [.d (Va 4),.d (Vn 0)])))
theorem Zg6:fnO Tryz.prog mdA 72 [.agg liKs,.cell .str]=t72:=by kernel_rfl
noncomputable def t170:R:=.loop 0 [Vn 0] [.int .i64] (.fact (.o2 .le (.o1 .len (Va 0)) (Vn 140737488355328)) (.ite (.o2 .lt (Va 3) (.o1 .len (Va 0))) (.need (.o2 .le (Vn 0) (Va 3)) (.ite (.o2 .band (.o2 .eq (.idx (Va 0) (Va 3) 0 (.int .i64)) (Va 1)) (.o2 .band (.o2 .eq (.idx (Va 0) (Va 3) 1 (.int .i64)) (Va 2)) (.bool true))) (.ret [.d (Va 3)]) (.again 0 [.o2 (.add .i64) (Va 3) (Vn 1)]))) (.ret [.d (Vn (-1))])))
theorem Ze1:fnO Tryz.prog mdA 170 [.cell (.slice mvKs),.agg [.int .i64,.int .i64]]=t170:=by kernel_rfl
noncomputable def t169:R:=.loop 0 [Va 3] [.int .i64] (.ite (.o2 .ge (Va 6) (Vn 0)) (.need (.o2 .le (Vn 0) (Va 6)) (.need (.o2 .lt (Va 6) (.o1 .len (Va 2))) (.call none (.fn 170) [.idx (Va 2) (Va 6) 2 (.slice mvKs),Vl (Va 4) (Vl (Va 5) .lnil)] [.cell (.int .i64)] (.ite (.o2 .ge (Va 7) (Vn 0)) (.ret [.d (Va 6)]) (.ite (.idx (Va 2) (Va 6) 4 .bool) (.ret [.d (Vn (-1))]) (.again 0 [.o2 (.sub .i64) (Va 6) (Vn 1)])))))) (.ret [.d (Vn (-1))]))
theorem Ze2:fnO Tryz.prog mdA 169 [.agg liKs,.cell (.int .i64),.agg [.int .i64,.int .i64]]=t169:=by kernel_rfl
noncomputable def t154:R:=.call none (.fn 13) [Va 3] [.cell (.int .i64)] (.ite (.o2 .ne (Va 4) (Vn 0)) (.ret [.d (Va 4)]) (.call none (.fn 15) [Vl (Va 0) (Vl (Va 1) (Vl (Va 2) .lnil)),Va 3] [.cell (.int .i64)] (.ite (.o2 .lt (Va 5) (Vn 0)) (.ret [.d (Vn 6)]) (.ret [.d (Vn 0)]))))
theorem Zef:fnO Tryz.prog mdA 154 [.agg liKs,.cell .str]=t154:=by kernel_rfl
noncomputable def t85:R:=let x0:T:=Vl (Va 1) (Vl (Va 2) .lnil);.call none (.fn 45) [Vl (Va 0) x0] [.cell (.int .i64)] (.ite (.o2 .ne (Va 4) (Vn 0)) (.ret [.d (Va 4)]) (.call none (.fn 154) [Vl (Va 0) x0,Va 3] [.cell (.int .i64)] (.ret [.d (Va 5)])))
theorem ZfX:fnO Tryz.prog mdA 85 [.agg liKs,.cell .str]=t85:=by kernel_rfl
noncomputable def t87:R:=let x0:T:=Vl (Va 1) (Vl (Va 2) .lnil);.call none (.fn 72) [Vl (Va 0) x0,Va 3] [.cell (.int .i64),.cell (.int .i64)] (.ite (.o2 .ne (Va 7) (Vn 0)) (.ret [.d (.str []),.d (.bool false),.d (Va 7)]) (.ite (.ite (.ite (.ite (.o2 .lt (Va 4) (Vn 1)) (.bool true) (.o2 .gt (Va 4) (Vn 999))) (.bool true) (.o2 .lt (Va 5) (Vn 0))) (.bool true) (.o2 .ge (Va 5) (Vn 15))) (.ret [.d (.str []),.d (.bool false),.d (Vn 2)]) (.call none (.fn 157) [Vl (Va 0) x0,Va 6] [.cell .fn] (.iter 0 (Va 8) [] [] [.agg J9] (.call none (.fn 158) [Vl (Va 9) (Vl (Va 10) (Vl (Va 11) (Vl (Va 12) (Vl (Va 13) (Vl (Va 14) (Vl (Va 15) (Vl (Va 16) (Vl (Va 17) .lnil)))))))),Vl (Va 4) (Vl (Va 5) .lnil)] [.agg [.int .i64,.int .i64],.cell .bool] (.ite (Va 20) (.ret [.d (Va 9),.d (.bool true),.d (Vn 0)]) (.again 0 []))) (.ret [.d (.str []),.d (.bool false),.d (Vn 0)])))))
theorem ZfW:fnO Tryz.prog mdA 87 [.agg liKs,.cell .str,.agg [.int .i64,.int .i64]]=t87:=by kernel_rfl
theorem WV {v:Int} (h:I64 v):HasKs [.int .i64] [.int .i64 v]:=⟨Y2 h,trivial⟩
def Wn (cs:List Cue):Nat→List Cue
 |0=>[]
 | n+1=>match cs[n]? with
   |none=>[]
   |some c=>c::if c.block then []else Wn cs n
theorem ZR {cs:List Cue}:∀ {n:Nat} {c:Cue},c∈Wn cs n→c∈cs
 |0,c,h=>by simp [Wn]at h
 | n + 1,c,h=>by
   simp only [Wn]at h;cases hc:cs[n]? with
   |none=>rw [hc]at h;simp at h
   | some d=>
     rw [hc]at h;simp only [List.mem_cons]at h;rcases h with rfl|h
     · exact List.mem_of_getElem? hc
     · split at h
       · simp at h
       · exact ZR h
structure RightT (l:Lis):Prop where
 ok:l.Ok
 len:l.cues.length≤64
 moves:∀c∈l.cues,RightM c.moves
theorem WG {l:Lis} (hl:l.Ok) (h:W8 W4 l=0):RightT l:=
 have hR:=Wd h
 ⟨hl,hR.len,fun c hc=>Z3f (WW (hR.cues c hc))⟩
theorem ZbA {l:Lis} (hR:RightT l) {n:Nat} (hn:n≤l.cues.length):IterC Tryz.prog (.clo 206 [.ptr [.int .i64 ((n:Int) - 1)],.ptr l.enc]) ((Wn l.cues n).map fun c=>[D.agg c.enc]):=by
 have hlen:=hR.len;refine IterC.of (by kernel_rfl) ZdB (ρ:=[.ptr [.int .i64 ((n:Int) - 1)],.ptr l.enc]) rfl ⟨⟨Y2 ⟨by omega,by omega⟩,trivial⟩,Lis.has hR.ok,trivial⟩ ?_;simp only [zz,reduceCtorEq,t206,Lis.enc,List.length_map,D.cells,D.padd,D.cell,List.drop_zero,List.drop_succ_cons];simp only [denR];refine⟨fun c ys=>∃k i:Nat,k≤n∧ys=[.int .i64 ((k:Int) - 1)]∧c=some i∧i≤(Wn l.cues n).length∧(Wn l.cues n).drop i=Wn l.cues k,
   fun _ ys=>match ys with| [.int _ v]=>(v+1).toNat|_=>0,⟨n,0,Nat.le_refl _,by simp only [zz,reduceCtorEq],rfl,Nat.zero_le _,rfl⟩,?_⟩
 rintro _ _ _ ⟨k,i,hk,rfl,rfl,hi,hdrop⟩;simp only [zz,reduceCtorEq,List.length_map,D.cells,D.padd,D.cell,List.drop_zero,List.drop_succ_cons];cases k with
 | zero=>
   refine⟨fun h=>by omega,fun _=>.inr ?_⟩;simp only [Wn,List.drop_eq_nil_iff]at hdrop;simp only [Ags.wc,Jh,List.length_map];congr 1;omega
 | succ k=>
   have hkl:k < l.cues.length:=by omega
   have e1:(((k+1:Nat):Int) - 1)=(k:Int):=by omega
   have e2:((k:Int)).toNat=k:=by omega
   have hb:Wn l.cues (k+1)=l.cues[k]::if l.cues[k].block then []else Wn l.cues k:=by simp [Wn,hkl]
   rw [hb]at hdrop;have hilt:i < (Wn l.cues n).length:=by
     rcases Nat.lt_or_ge i (Wn l.cues n).length with h|h
     · exact h
     · rw [List.drop_eq_nil_of_le h]at hdrop;cases hdrop
   have hget:(Wn l.cues n)[i]? =some l.cues[k]:=by
     have:=congrArg List.head? hdrop;rw [List.head?_drop]at this;simpa using this
   have hnext:(Wn l.cues n).drop (i+1)=if l.cues[k].block then []else Wn l.cues k:=by
     have:=congrArg List.tail hdrop;rw [List.tail_drop]at this;simpa using this
   rw [e1];refine⟨fun _=>⟨by omega,by omega,i,rfl,?_,?_⟩,fun h=>by omega⟩
   · simp only [Ags.wc,Jh];simp only [zz,reduceCtorEq,J0 hkl,Cue.enc,List.length_map,List.getElem?_map,D.list,hget,Option.map_some]
   · rintro(_|_) _
     · simp only [zz,reduceCtorEq];exact .inl rfl
     · simp only [zz,reduceCtorEq,J0 hkl,Cue.enc];by_cases hbl:l.cues[k].block=true
       · rw [hbl]at hnext;simp only [if_true,List.drop_eq_nil_iff]at hnext;simp only [zz,reduceCtorEq,hbl];refine .inr ?_;simp only [Ags.wc,Jh,List.length_map];congr 1;omega
       · have hbl:l.cues[k].block=false:=by simpa using hbl
         rw [hbl]at hnext;simp only [Bool.false_eq_true,if_false]at hnext;simp only [zz,reduceCtorEq,hbl];refine⟨⟨k,i+1,by omega,by rw [Z1 (by omega)],rfl,by omega,hnext⟩,?_⟩;rw [Z1 (by omega)];show((k:Int) - 1+1).toNat < ((k:Int)+1).toNat;omega
theorem Zbz:Contract Tryz.prog 157 fun args K=>∃(l:Lis) (v:Int),l.Ok∧I64 v∧args=[.agg l.enc,.int .i64 v]∧K [.d (.clo 206 [.ptr [.int .i64 v],.ptr l.enc])]:=by
 refine .of (by kernel_rfl) Zee ?_;rintro _ K ⟨l,v,hl,hv,rfl,hK⟩ hsm;refine⟨l.enc++[.int .i64 v],rfl,by exact(Lis.has hl).append ⟨Y2 hv,trivial⟩,?_⟩;simp only [zz,reduceCtorEq,t157,Lis.enc,D.list];exact hK
def Z7x (cs:List Cue) (p:Par) (n:Nat):Option Mov:=(Wn cs n).findSome? fun c=>Zb c.moves p
def W7 (cs:List Cue) (p:Par) (n:Nat):Val:=((Z7x cs p n).map (·.va)).getD hval
theorem Zdb {l:Lis} (hR:RightT l) {n:Nat}:∀x∈(Wn l.cues n).map (fun c=>[D.agg c.enc]),∃fx,Jr [.agg J9] x=some fx∧HasKs (Y1 [.agg J9]) fx:=by
 intro x hx;obtain⟨c,hc,rfl⟩:=List.mem_map.1 hx;exact⟨c.enc,rfl,Cue.has (hR.ok.cues c (ZR hc))⟩
theorem ZbB {l:Lis} {n i:Nat} {x:List D} (h:((Wn l.cues n).map fun c=>[D.agg c.enc])[i]? =some x):∃c,(Wn l.cues n)[i]? =some c∧x=[.agg c.enc]:=by
 simp only [List.getElem?_map,Option.map_eq_some_iff]at h;obtain⟨c,h1,rfl⟩:=h;exact⟨c,h1,rfl⟩
theorem Z9M:Contract Tryz.prog 139 fun args K=>∃(l:Lis) (n:Nat) (p:Par),RightT l∧n≤l.cues.length∧p.Ok∧Z3 p=0∧args=[.agg l.enc,.int .i64 ((n:Int) - 1),.agg p.enc]∧
   K [.d (.agg (W7 l.cues p n).enc)]:=by
 refine .of (by kernel_rfl) Zem ?_;rintro _ K ⟨l,n,p,hR,hn,hp,hpp,rfl,hK⟩ hsm;have hlen:=hR.len;have h64:I64 ((n:Int) - 1):=⟨by omega,by omega⟩
 refine⟨l.enc++[.int .i64 ((n:Int) - 1)]++p.enc,rfl,by exact(show HasKs ((liKs++[.int .i64])++paKs) _ from((Lis.has hR.ok).append (WV h64)).append (Par.has hp)),?_⟩;refine Z0 Zbz ⟨l,(n:Int) - 1,hR.ok,h64,by simp only [zz,reduceCtorEq,Lis.enc,Par.enc],_,rfl,?_⟩;refine Z3K ?_;refine⟨(Wn l.cues n).map fun c=>[D.agg c.enc],by simpa [den,Lis.enc,Par.enc]using ZbA hR hn,Zdb hR,fun i c ys=>ys=[]∧((Wn l.cues n).drop i).findSome? (fun c=>Zb c.moves p)=Z7x l.cues p n,⟨rfl,rfl⟩,?_,?_⟩
 · rintro i x fx c ys hx hfx _ _ ⟨rfl,hgo⟩;obtain⟨d,hd,rfl⟩:=ZbB hx;cases hfx;have hi:=(List.getElem?_eq_some_iff.1 hd).1;have es:(Wn l.cues n)[i]=d:=(List.getElem?_eq_some_iff.1 hd).2;have hdm:d∈l.cues:=ZR (es▸List.getElem_mem hi);rw [List.drop_eq_getElem_cons hi,es,List.findSome?_cons]at hgo;refine Z0 Z86 ⟨d,p,hR.ok.cues d hdm,hp,hR.moves d hdm,hpp,by simp only [zz,reduceCtorEq,Lis.enc,Par.enc,Cue.enc],_,rfl,?_⟩;cases hf:Zb d.moves p with
   | none=>
     rw [hf]at hgo;simp only [zz,reduceCtorEq,Lis.enc,Par.enc,Cue.enc,Val.enc,Option.isSome_none];exact hgo
   | some m=>
     rw [hf]at hgo;simp only at hgo;simp only [zz,reduceCtorEq,Lis.enc,Par.enc,Cue.enc,Val.enc,Option.isSome_some];unfold W7 at hK;rw [←hgo]at hK;exact hK
 · rintro c ys _ ⟨rfl,hgo⟩;simp only [List.length_map,List.drop_length,List.findSome?_nil]at hgo;refine Z0 Z87 ⟨rfl,_,rfl,?_⟩;simp only [zz,reduceCtorEq,Lis.enc,Par.enc,Val.enc];unfold W7 at hK;rw [←hgo]at hK;exact hK
def Yn (l:Lis) (s:List UInt8):Int:=if Z4 s≠0 then Z4 s else if place l.cues s < 0 then 6 else 0
def Jf (l:Lis) (s:List UInt8):Int:=if W8 W4 l≠0 then W8 W4 l else Yn l s
def upto (l:Lis) (s:List UInt8):Nat:=(place l.cues s+1).toNat
theorem Z8k (cs:List Cue) (s:List UInt8): -1≤place cs s∧place cs s < cs.length∨place cs s= -1:=by
 by_cases h:place cs s < 0
 · unfold place at h ⊢;rcases Yz (fun c:Cue=>c.num==s) cs 0 with⟨h1,h2⟩|⟨j,hj,h1,h2,h3⟩
   · exact .inr h1
   · rw [h1]at h;omega
 · obtain⟨j,hj,h1,_⟩:=Z18 h;exact .inl ⟨by omega,by omega⟩
theorem Z3r {l:Lis} {s:List UInt8} (h:Yn l s=0):Z4 s=0∧0≤place l.cues s:=by
 unfold Yn at h;split at h
 · contradiction
 split at h
 · cases h
 · exact⟨by simp_all,by omega⟩
theorem Z9J (l:Lis) (s:List UInt8):upto l s≤l.cues.length:=by
 unfold upto;rcases Z8k l.cues s with h|h
 · omega
 · rw [h];omega
theorem Z4e {l:Lis} {s:List UInt8} (h:0≤place l.cues s):place l.cues s=(upto l s:Int) - 1∧0 < upto l s:=by
 unfold upto;omega
theorem Z5Z:Contract Tryz.prog 72 fun args K=>∃(l:Lis) (s:List UInt8),l.Ok∧args=[.agg l.enc,.str s]∧K [.d (.int .i64 (if Jf l s≠0 then 0 else place l.cues s)),.d (.int .i64 (Jf l s))]:=by
 refine .of (by kernel_rfl) Zg6 ?_;rintro _ K ⟨l,s,hl,rfl,hK⟩ hsm;refine⟨l.enc++[.str s],rfl,by exact Z1o hl,?_⟩;refine Z0 Z5J ⟨l,s,hl,by simp only [zz,reduceCtorEq,Lis.enc],_,rfl,?_⟩;simp only [zz,reduceCtorEq,Lis.enc];by_cases h1:W8 W4 l=0
 · by_cases h2:Z4 s=0
   · have e:Yp l s=(if place l.cues s < 0 then 0 else place l.cues s,decide (0≤place l.cues s),0):=by simp [Yp,Ym,h1,h2]
     rw [e];by_cases h3:place l.cues s < 0
     · have e2:Jf l s=6:=by simp [Jf,Yn,h1,h2,h3]
       rw [e2]at hK;have h4:¬0≤place l.cues s:=by omega
       simp only [zz,reduceCtorEq,h3,h4];simpa using hK
     · have e2:Jf l s=0:=by simp [Jf,Yn,h1,h2,h3]
       rw [e2]at hK;have h4:0≤place l.cues s:=by omega
       simp only [zz,reduceCtorEq,h3,h4];simpa using hK
   · have e:Yp l s=(0,false,Z4 s):=by simp [Yp,Ym,h1,h2]
     have e2:Jf l s=Z4 s:=by simp [Jf,Yn,h1,h2]
     rw [e2]at hK;rw [e];simp only [zz,reduceCtorEq];exact⟨fun _=>by simpa [h2]using hK,fun h=>by simp [h2]at h⟩
 · have e:Yp l s=(0,false,W8 W4 l):=by simp [Yp,Ym,h1]
   have e2:Jf l s=W8 W4 l:=by simp [Jf,h1]
   rw [e2]at hK;rw [e];simp only [zz,reduceCtorEq];exact⟨fun _=>by simpa [h1]using hK,fun h=>by simp [h1]at h⟩
theorem Z5u:Contract Tryz.prog 154 fun args K=>∃(l:Lis) (s:List UInt8),l.Ok∧args=[.agg l.enc,.str s]∧K [.d (.int .i64 (Yn l s))]:=by
 refine .of (by kernel_rfl) Zef ?_;rintro _ K ⟨l,s,hl,rfl,hK⟩ hsm;refine⟨l.enc++[.str s],rfl,by exact Z1o hl,?_⟩;refine Z0 Z20 ⟨s,by simp only [zz,reduceCtorEq,Lis.enc],_,rfl,?_⟩;simp only [zz,reduceCtorEq,Lis.enc];unfold Yn at hK;refine⟨fun h=>?_,fun h=>?_⟩
 · have h:Z4 s≠0:=by simpa using h
   rw [if_pos h]at hK;exact hK
 have h:Z4 s=0:=by simpa using h
 rw [if_neg (by simp [h])]at hK;refine Z0 Z1P ⟨l,s,hl,by simp only [zz,reduceCtorEq,Lis.enc],_,rfl,?_⟩;simp only [zz,reduceCtorEq,Lis.enc];refine⟨fun h=>?_,fun h=>?_⟩
 · rw [if_pos h]at hK;exact hK
 · rw [if_neg (by omega)]at hK;exact hK
theorem Z8x:Contract Tryz.prog 85 fun args K=>∃(l:Lis) (s:List UInt8),l.Ok∧args=[.agg l.enc,.str s]∧K [.d (.int .i64 (Jf l s))]:=by
 refine .of (by kernel_rfl) ZfX ?_;rintro _ K ⟨l,s,hl,rfl,hK⟩ hsm;refine⟨l.enc++[.str s],rfl,by exact Z1o hl,?_⟩;refine Z0 Z1Z ⟨l,hl,by simp only [zz,reduceCtorEq,Lis.enc],_,rfl,?_⟩;simp only [zz,reduceCtorEq,Lis.enc];unfold Jf at hK;refine⟨fun h=>?_,fun h=>?_⟩
 · have h:W8 W4 l≠0:=by simpa using h
   rw [if_pos h]at hK;exact hK
 have h:W8 W4 l=0:=by simpa using h
 rw [if_neg (by simp [h])]at hK;refine Z0 Z5u ⟨l,s,hl,by simp only [zz,reduceCtorEq,Lis.enc],_,rfl,?_⟩;simp only [zz,reduceCtorEq,Lis.enc];exact hK
def Wb (p:Par) (c:Cue):Bool:=(Zb c.moves p).isSome
def Z7q (l:Lis) (s:List UInt8) (p:Par):List UInt8×Bool×Int:=
 if Jf l s≠0 then([],false,Jf l s)else if Z3 p≠0 then([],false,Z3 p)else
 match(Wn l.cues (upto l s)).find? (Wb p)with
 |some c=>(c.num,true,0)
 |none=>([],false,0)
theorem Zk {l:Lis} {s:List UInt8} (hl:l.Ok) (h:Jf l s=0):RightT l∧Z4 s=0∧0≤place l.cues s∧place l.cues s=(upto l s:Int) - 1∧0 < upto l s∧upto l s≤l.cues.length:=by
 unfold Jf at h;split at h
 · contradiction
 rename_i h1;obtain⟨h2,h3⟩:=Z3r h;exact⟨WG hl (by simpa using h1),h2,h3,(Z4e h3).1,(Z4e h3).2,Z9J l s⟩
theorem Zfq {l:Lis} (hl:l.Ok) {s:List UInt8} {p:Par} (hp:p.Ok):HasKs ((liKs++[.str])++paKs) (l.enc++[.str s]++p.enc):=(Z1o hl).append (Par.has hp)
theorem Z8O:Contract Tryz.prog 87 fun args K=>∃(l:Lis) (s:List UInt8) (p:Par),l.Ok∧p.Ok∧args=[.agg l.enc,.str s,.agg p.enc]∧
   K [.d (.str (Z7q l s p).1),.d (.bool (Z7q l s p).2.1),.d (.int .i64 (Z7q l s p).2.2)]:=by
 refine .of (by kernel_rfl) ZfW ?_;rintro _ K ⟨l,s,p,hl,hp,rfl,hK⟩ hsm;refine⟨l.enc++[.str s]++p.enc,rfl,by exact Zfq hl hp,?_⟩;refine Z0 Z5Z ⟨l,s,hl,by simp only [zz,reduceCtorEq,Lis.enc,Par.enc],_,rfl,?_⟩;simp only [zz,reduceCtorEq,Lis.enc,Par.enc];unfold Z7q at hK;refine⟨fun h=>?_,fun h=>?_⟩
 · have h:Jf l s≠0:=by simpa using h
   rw [if_pos h]at hK;exact hK
 have h:Jf l s=0:=by simpa using h
 obtain⟨hR,h05,hpl,hup,hu0,hul⟩:=Zk hl h;rw [if_neg (by simp [h])]at hK;refine⟨fun hbad=>?_,fun hgood=>?_⟩
 · have:Z3 p=2:=by
     unfold Z3;rw [if_pos];grind
   rw [if_pos (by rw [this];decide),this]at hK;exact hK
 have hpp:Z3 p=0:=by
   unfold Z3;rw [if_neg];grind
 rw [if_neg (by simp [hpp])]at hK;have hlen:=hR.len;have hat:(if Jf l s≠0 then 0 else place l.cues s)=(upto l s:Int) - 1:=by rw [if_neg (by simp [h])];exact hup
 have h64:I64 ((upto l s:Int) - 1):=⟨by omega,by omega⟩
 refine Z0 Zbz ⟨l,(upto l s:Int) - 1,hl,h64,by simp only [zz,reduceCtorEq,Lis.enc,Par.enc,hat],_,rfl,?_⟩;refine Z3K ?_;refine⟨(Wn l.cues (upto l s)).map fun c=>[D.agg c.enc],by simpa [den,Lis.enc,Par.enc]using ZbA hR hul,Zdb hR,fun i c ys=>ys=[]∧((Wn l.cues (upto l s)).drop i).find? (Wb p)=(Wn l.cues (upto l s)).find? (Wb p),⟨rfl,rfl⟩,?_,?_⟩
 · rintro i x fx c ys hx hfx _ _ ⟨rfl,hgo⟩;obtain⟨d,hd,rfl⟩:=ZbB hx;cases hfx;have hi:=(List.getElem?_eq_some_iff.1 hd).1;have es:(Wn l.cues (upto l s))[i]=d:=(List.getElem?_eq_some_iff.1 hd).2;have hdm:d∈l.cues:=ZR (es▸List.getElem_mem hi);rw [List.drop_eq_getElem_cons hi,es,List.find?_cons]at hgo;refine Z0 Z86 ⟨d,p,hR.ok.cues d hdm,hp,hR.moves d hdm,hpp,by simp only [zz,reduceCtorEq,Lis.enc,Par.enc,Cue.enc],_,rfl,?_⟩;have hmv:Wb p d=(Zb d.moves p).isSome:=rfl;cases hf:Zb d.moves p with
   | none=>
     rw [hmv,hf]at hgo;simp only [zz,reduceCtorEq,Lis.enc,Par.enc,Cue.enc,Val.enc,Option.isSome_none];exact hgo
   | some m=>
     rw [hmv,hf]at hgo;simp only [Option.isSome_some]at hgo;rw [←hgo]at hK;simp only [zz,reduceCtorEq,Lis.enc,Par.enc,Cue.enc,Val.enc,Option.isSome_some];exact hK
 · rintro c ys _ ⟨rfl,hgo⟩;simp only [List.length_map,List.drop_length,List.find?_nil]at hgo;rw [←hgo]at hK;exact hK
def Z3t (ms:List Mov) (p:Par):Int:=ZC (fun m=>decide (m.pa=p)) 0 ms
theorem Z7v (ms:List Mov) (p:Par):(Z3t ms p= -1∧Zb ms p=none)∨∃(j:Nat) (hj:j < ms.length),Z3t ms p=j∧Zb ms p=some ms[j]:=by
 unfold Z3t Zb;rcases Yz (fun m:Mov=>decide (m.pa=p)) ms 0 with⟨h1,h2⟩|⟨j,hj,h1,h2,h3⟩
 · exact .inl ⟨h1,List.find?_eq_none.2 fun m hm=>by simpa using h2 m hm⟩
 · refine .inr ⟨j,hj,by simpa using h1,List.find?_eq_some_iff_getElem.2 ⟨h2,j,hj,rfl,fun k hk=>by simpa using h3 k hk⟩⟩
theorem Z6A:Contract Tryz.prog 170 fun args K=>∃(ms:List Mov) (p:Par),(∀m∈ms,m.Ok)∧p.Ok∧args=[.slice (ms.map Mov.enc),.agg p.enc]∧K [.d (.int .i64 (Z3t ms p))]:=by
 refine .of (by kernel_rfl) Ze1 ?_;rintro _ K ⟨ms,p,hms,hp,rfl,hK⟩ hsm;refine⟨[.slice (ms.map Mov.enc)]++p.enc,rfl,by exact⟨Y6 fun m hm=>Mov.has (hms m hm),Y2 hp.1,Y2 hp.2,trivial⟩,?_⟩;simp only [zz,reduceCtorEq,t170,List.length_map,Par.enc];refine Jb ms (fun i xs (_:Unit)=>ZC (fun m=>decide (m.pa=p)) i xs) (fun i _=>[.int .i64 i]) () (Z3t ms p) rfl 0 (fun _ _=>rfl) rfl ?_ ?_
 · intro i hi _ hgo;simp only [zz,reduceCtorEq,List.length_map,hi,J0 hi,Mov.enc];intro hcap;refine⟨by omega,?_⟩;simp only [ZC]at hgo;have hpe:ms[i].pa=p↔ms[i].pa.ch=p.ch∧ms[i].pa.at_=p.at_:=⟨fun h=>by rw [h];exact⟨rfl,rfl⟩,fun h=>Par.ext' h.1 h.2⟩
   refine⟨fun h=>?_,fun h=>⟨(),by rw [Z1] <;> omega,?_⟩⟩
   · rw [if_pos (by simpa using hpe.2 h)]at hgo;rw [←hgo]at hK;exact hK
   · have hne:¬ms[i].pa=p:=fun e=>by have:=hpe.1 e;simp [this]at h
     rw [if_neg (by simpa using hne)]at hgo;exact hgo
 · intro _ hgo;simp only [zz,reduceCtorEq,List.length_map,Nat.lt_irrefl];simp only [ZC]at hgo;rw [←hgo]at hK;exact fun _=>hK
def src (cs:List Cue) (p:Par):Nat→Int
 |0=> -1
 | n+1=>match cs[n]? with
   |none=> -1
   |some c=>if Wb p c then n else if c.block then -1 else src cs p n
theorem Z5e {cs:List Cue} {p:Par}:∀ {n:Nat},n≤cs.length→(src cs p n= -1∧(Wn cs n).find? (Wb p)=none)∨∃(i:Nat) (hi:i < cs.length),src cs p n=i∧i < n∧(Wn cs n).find? (Wb p)=some cs[i]∧Wb p cs[i]=true
 |0,_=>.inl ⟨rfl,rfl⟩
 | n + 1,h=>by
   have hn:n < cs.length:=by omega
   simp only [src,Wn,List.getElem?_eq_getElem hn,List.find?_cons];cases hm:Wb p cs[n]with
   |true=>exact .inr ⟨n,hn,by simp,Nat.lt_succ_self n,rfl,hm⟩
   | false=>
     simp only [Bool.false_eq_true,if_false];cases hb:cs[n].block with
     |true=>exact .inl ⟨by simp,by simp⟩
     | false=>
       simp only [Bool.false_eq_true,if_false];rcases Z5e (cs:=cs) (p:=p) (n:=n) (by omega)with h1|⟨i,hi,h1,h2,h3,h4⟩
       · exact .inl h1
       · exact .inr ⟨i,hi,h1,by omega,h3,h4⟩
theorem Zfr {l:Lis} (hl:l.Ok) {v:Int} (hv:I64 v) {p:Par} (hp:p.Ok):HasKs ((liKs++[.int .i64])++paKs) (l.enc++[.int .i64 v]++p.enc):=((Lis.has hl).append (WV hv)).append (Par.has hp)
theorem Za1:Contract Tryz.prog 169 fun args K=>∃(l:Lis) (n:Nat) (p:Par),RightT l∧n≤l.cues.length∧p.Ok∧args=[.agg l.enc,.int .i64 ((n:Int) - 1),.agg p.enc]∧
   K [.d (.int .i64 (src l.cues p n))]:=by
 refine .of (by kernel_rfl) Ze2 ?_;rintro _ K ⟨l,n,p,hR,hn,hp,rfl,hK⟩ hsm;have hlen:=hR.len;have h64:I64 ((n:Int) - 1):=⟨by omega,by omega⟩
 refine⟨l.enc++[.int .i64 ((n:Int) - 1)]++p.enc,rfl,by exact Zfr hR.ok h64 hp,?_⟩;simp only [zz,reduceCtorEq,t169,Lis.enc,Par.enc];rw [JP];refine⟨fun c ys=>c=none∧∃k:Nat,k≤n∧ys=[.int .i64 ((k:Int) - 1)]∧src l.cues p k=src l.cues p n,fun _ ys=>match ys with| [.int _ v]=>(v+1).toNat|_=>0,⟨rfl,n,Nat.le_refl _,rfl,rfl⟩,?_⟩;rintro _ _ _ ⟨rfl,k,hk,rfl,hs⟩;simp only [zz,reduceCtorEq,List.length_map];cases k with
 | zero=>
   refine⟨fun h=>by omega,fun _=>?_⟩;simp only [src]at hs;rw [←hs]at hK;exact hK
 | succ k=>
   have hkl:k < l.cues.length:=by omega
   have e1:(((k+1:Nat):Int) - 1)=(k:Int):=by omega
   rw [e1];have hcm:=List.getElem_mem hkl;refine⟨fun _=>⟨by omega,by omega,?_⟩,fun h=>by omega⟩;refine Z0 Z6A ⟨l.cues[k].moves,p,(hR.ok.cues _ hcm).moves,hp,by simp only [zz,reduceCtorEq,J0 hkl,Cue.enc,Par.enc],_,rfl,?_⟩;have hmv:Wb p l.cues[k]=(Zb l.cues[k].moves p).isSome:=rfl;simp only [src,List.getElem?_eq_getElem hkl]at hs;simp only [zz,reduceCtorEq,J0 hkl,Cue.enc];rcases Z7v l.cues[k].moves p with⟨h1,h2⟩|⟨j,hj,h1,h2⟩
   · rw [hmv,h2]at hs;simp only [Option.isSome_none,Bool.false_eq_true,if_false]at hs;rw [h1];refine⟨fun h=>by omega,fun _=>⟨fun hb=>?_,fun hb=>?_⟩⟩
     · rw [hb]at hs;simp only [if_true]at hs;rw [←hs]at hK;exact hK
     · rw [hb]at hs;simp only [Bool.false_eq_true,if_false]at hs;refine⟨⟨rfl,k,by omega,by rw [Z1 (by omega)],hs⟩,?_⟩;rw [Z1 (by omega)];show((k:Int) - 1+1).toNat < ((k:Int)+1).toNat;omega
   · rw [hmv,h2]at hs;simp only [Option.isSome_some,if_true]at hs;rw [h1];refine⟨fun _=>?_,fun h=>by omega⟩;rw [←hs]at hK;exact hK
def putP:List Par→Par→List Par
 | [],p=>[p]
 |q::l,p=>if q=p then q::l else if W3 p q then p::q::l else q::putP l p
def Js (l:List Par):Prop:=l.Pairwise fun a b=>W3 a b=true
theorem Z5y {p x:Par}:∀ {l:List Par},x∈putP l p↔x=p∨x∈l
 | []=>by simp [putP]
 | q ::l=>by
   simp only [putP];split
   · rename_i h;subst h;simp
   split
   · simp
   · simp only [List.mem_cons,Z5y (l:=l)];constructor
     · rintro(h|h|h) <;> simp [h]
     · rintro(h|h|h) <;> simp [h]
theorem Z3e {p:Par}:∀ {l:List Par},Js l→Js (putP l p)
 | [],_=>by simp [putP,Js]
 | q ::l,h=>by
   have h':=List.pairwise_cons.1 h;simp only [putP];split
   · exact h
   rename_i hne;split
   · rename_i hb;refine List.pairwise_cons.2 ⟨fun x hx=>?_,h⟩;rcases List.mem_cons.1 hx with rfl|hx
     · exact hb
     · exact Yj hb (h'.1 x hx)
   · rename_i hb;refine List.pairwise_cons.2 ⟨fun x hx=>?_,Z3e h'.2⟩;rcases Z5y.1 hx with rfl|hx
     · rcases hq:W3 q x with _|_
       · exact absurd (ZM hq (by simpa using hb)) hne
       · rfl
     · exact h'.1 x hx
theorem Z3B {p:Par}:∀ {l:List Par},(putP l p).length≤l.length+1
 | []=>by simp [putP]
 | q ::l=>by
   simp only [putP];split
   · simp
   split
   · simp
   · have:=Z3B (p:=p) (l:=l);simp only [List.length_cons];omega
theorem Z4s:∀ {a b:List Par},Js a→Js b→(∀x,x∈a↔x∈b)→a=b
 | [],[],_,_,_=>rfl
 | [],y::b,_,_,h=>by have:=(h y).2 (by simp);simp at this
 |x::a,[],_,_,h=>by have:=(h x).1 (by simp);simp at this
 | x ::a,y::b,ha,hb,h=>by
   have ha':=List.pairwise_cons.1 ha;have hb':=List.pairwise_cons.1 hb;have e:x=y:=by
     rcases List.mem_cons.1 ((h x).1 (by simp))with h1|h1
     · exact h1
     rcases List.mem_cons.1 ((h y).2 (by simp))with h2|h2
     · exact h2.symm
     have:=Yj (hb'.1 x h1) (ha'.1 y h2);rw [Wa]at this;cases this
   subst e;congr 1;refine Z4s ha'.2 hb'.2 fun z=>⟨fun hz=>?_,fun hz=>?_⟩
   · rcases List.mem_cons.1 ((h z).1 (List.mem_cons_of_mem _ hz))with h1|h1
     · subst h1;have:=ha'.1 z hz;rw [Wa]at this;cases this
     · exact h1
   · rcases List.mem_cons.1 ((h z).2 (List.mem_cons_of_mem _ hz))with h1|h1
     · subst h1;have:=hb'.1 z hz;rw [Wa]at this;cases this
     · exact h1
def pars (cs:List Cue):List Par:=cs.flatMap fun c=>c.moves.map (·.pa)
def Z2d (a:List Par) (ps:List Par):List Par:=ps.foldl putP a
def Wl (cs:List Cue):List Par:=Z2d [] (pars cs)
def Z1q (a:List Par) (p:Par):List Par:=if p∈a then a else a++[p]
def JH (a:List Par) (ps:List Par):List Par:=ps.foldl Z1q a
def Z48 (cs:List Cue):List Par:=JH [] (pars cs)
theorem Z4E {x:Par}:∀ {ps a:List Par},x∈Z2d a ps↔x∈a∨x∈ps
 | [],a=>by simp [Z2d]
 | p::ps,a=>by
   have:=Z4E (x:=x) (ps:=ps) (a:=putP a p);simp only [Z2d,List.foldl_cons]at this ⊢;rw [this,Z5y];simp only [List.mem_cons];constructor
   · rintro((h|h)|h) <;> simp [h]
   · rintro(h|h|h) <;> simp [h]
theorem Zv:∀ {ps a:List Par},Js a→Js (Z2d a ps)
 | [],_,h=>h
 |p::ps,a,h=>Zv (ps:=ps) (Z3e h)
theorem Z1k:∀ {ps a:List Par},(Z2d a ps).length≤a.length+ps.length
 | [],a=>by simp [Z2d]
 | p::ps,a=>by
   have h1:=Z1k (ps:=ps) (a:=putP a p);have h2:=Z3B (p:=p) (l:=a);simp only [Z2d,List.foldl_cons,List.length_cons]at h1 ⊢;omega
theorem Z6D {a:List Par} {p x:Par}:x∈Z1q a p↔x∈a∨x=p:=by
 unfold Z1q;split
 · rename_i h;exact⟨.inl,fun h'=>h'.elim id fun e=>e▸h⟩
 · simp
theorem Z3x {x:Par}:∀ {ps a:List Par},x∈JH a ps↔x∈a∨x∈ps
 | [],a=>by simp [JH]
 | p::ps,a=>by
   have:=Z3x (x:=x) (ps:=ps) (a:=Z1q a p);simp only [JH,List.foldl_cons]at this ⊢;rw [this,Z6D];simp only [List.mem_cons];constructor
   · rintro((h|h)|h) <;> simp [h]
   · rintro(h|h|h) <;> simp [h]
theorem Z7s {a:List Par} {p:Par} (h:a.Nodup):(Z1q a p).Nodup:=by
 unfold Z1q;split
 · exact h
 · rename_i hp;rw [List.nodup_append];refine⟨h,by simp,fun x hx y hy e=>?_⟩;simp at hy;subst hy e;exact hp hx
theorem Z1e:∀ {ps a:List Par},a.Nodup→(JH a ps).Nodup
 | [],_,h=>h
 |p::ps,a,h=>Z1e (ps:=ps) (Z7s h)
theorem Z6H {a:List Par} {p:Par}:(Z1q a p).length≤a.length+1:=by
 unfold Z1q;split <;> simp
theorem WF {cs:List Cue} {x:Par}:x∈Wl cs↔x∈pars cs:=by simp [Wl,Z4E]
theorem Z3w {cs:List Cue} {x:Par}:x∈Z48 cs↔x∈pars cs:=by simp [Z48,Z3x]
theorem Z5j (cs:List Cue):Js (Wl cs):=Zv (by simp [Js])
theorem Zc7 {cs:List Cue} (h:∀c∈cs,c.moves.length≤128):(pars cs).length≤128 * cs.length:=by
 induction cs with
 |nil=>simp [pars]
 | cons c cs ih=>
   have h1:=h c (by simp);have h2:=ih fun d hd=>h d (List.mem_cons_of_mem _ hd)
   simp only [pars,List.flatMap_cons,List.length_append,List.length_map,List.length_cons]at h2 ⊢;omega
theorem Zar {l:Lis} (hR:RightT l):∀p∈pars l.cues,p.Ok∧Z3 p=0:=by
 intro p hp;simp only [pars,List.mem_flatMap,List.mem_map]at hp;obtain⟨c,hc,m,hm,rfl⟩:=hp;exact⟨((hR.ok.cues c hc).moves m hm).1,(hR.moves c hc).par m hm⟩
theorem Z7J {cs:List Cue} {a:List Par} (hp:∀p∈pars cs,Z3 p=0) (h1:a.Perm (Z48 cs)) (h2:a.Pairwise fun x y=>¬pcmp y x < 0):a=Wl cs:=by
 have hmem:∀x,x∈a↔x∈Wl cs:=fun x=>by rw [h1.mem_iff,Z3w,WF]
 refine Z4s ?_ (Z5j cs) hmem;have hn:a.Nodup:=h1.nodup_iff.2 (Z1e List.nodup_nil);have:=h2.imp₂ (R:=fun x y=>¬pcmp y x < 0) (S:=fun x y=>x≠y) (T:=fun x y=>¬pcmp y x < 0∧x≠y) (fun _ _ h1 h2=>⟨h1,h2⟩) hn;refine List.Pairwise.imp_of_mem ?_ this;intro x y hx hy ⟨h3,h4⟩;have px:=hp x (WF.1 ((hmem x).1 hx));have py:=hp y (WF.1 ((hmem y).1 hy));rcases hb:W3 x y with _|_
 · rcases hb2:W3 y x with _|_
   · exact absurd (ZM hb hb2) h4
   · exact absurd ((Z2O py px).2 hb2) h3
 · rfl
theorem Zc8 {l:List Par} (h:∀p∈l,p.Ok):HasK (.slice paKs) (.slice (l.map Par.enc)):=Y6 fun p hp=>Par.has (h p hp)
structure MI (l:Lis) (n:Nat) (a:List Par):Prop where
 ok:∀p∈a,p.Ok
 rising:Js a
 len:a.length≤n
def mdE:Go.Sx.Mode:= {own:=[],no:=[249,250,251,252,253,254,255]}
noncomputable def t227:R:=.loop 0 [] [] (.ite (.o2 .le (.o2 (.sub .i64) (Va 2) (Va 1)) (Vn 12)) (.call none (.fn 248) [Va 0,Va 1,Va 2,Va 4] [] (.ret [])) (.ite (.o2 .eq (Va 3) (Vn 0)) (.fail "cut") (.ite (.o1 .not (.bool true)) (.fail "cut") (.fail "cut"))))
theorem Zdp:fnO Tryz.prog mdE 227 [.cell (.slice [.int .i64,.int .i64]),.cell (.int .i64),.cell (.int .i64),.cell (.int .i64),.cell .fn]=t227:=by kernel_rfl
noncomputable def t248:R:=let x0:T:=.o2 (.sub .i64) (Va 4) (Vn 1);let x1:T:=.o2 .gt (Va 4) (Va 1);let x2:T:=.o1 .len (Va 0);let x3:T:=.o2 .le (Vn 0) (Va 4);.loop 0 [.o2 (.add .i64) (Va 1) (Vn 1)] [.int .i64] (.ite (.o2 .lt (Va 4) (Va 2)) (.loop 1 [] [] (.need (.ite x1 x3 (.bool true)) (.need (.ite x1 (.o2 .lt (Va 4) x2) (.bool true)) (.need (.ite x1 (.o2 .le (Vn 0) x0) (.bool true)) (.need (.ite x1 (.o2 .lt x0 x2) (.bool true)) (.call (some x1) (.val (Va 3)) [Vl (.idx (Va 0) (Va 4) 0 (.int .i64)) (Vl (.idx (Va 0) (Va 4) 1 (.int .i64)) .lnil),Vl (.idx (Va 0) x0 0 (.int .i64)) (Vl (.idx (Va 0) x0 1 (.int .i64)) .lnil)] [.cell (.int .i64)] (.ite (.ite x1 (.o2 .lt (Va 5) (Vn 0)) (.bool false)) (.need (.o2 .le (Vn 0) x0) (.need (.o2 .lt x0 x2) (.need x3 (.need (.o2 .lt (Va 4) x2) (.fail "zsortanyfunc.go:13"))))) (.again 0 [.o2 (.add .i64) (Va 4) (Vn 1)])))))))) (.ret []))
theorem Zdn:fnO Tryz.prog mdA 248 [.cell (.slice [.int .i64,.int .i64]),.cell (.int .i64),.cell (.int .i64),.cell .fn]=t248:=by kernel_rfl
noncomputable def t199:R:=.fact (.o2 .le (.o1 .len (Va 0)) (Vn 140737488355328)) (.call none (.fn 225) [.o1 (.conv .u64) (.o1 .len (Va 0))] [.cell (.int .i64)] (.call none (.fn 227) [Va 0,Vn 0,.o1 .len (Va 0),Va 2,Va 1] [] (.ret [])))
theorem ZdG:fnO Tryz.prog mdA 199 [.cell (.slice [.int .i64,.int .i64]),.cell .fn]=t199:=by kernel_rfl
theorem ContractX.of_empty {P:Program} {f:FuncId} {ks:List K} {e:Nat} (hek:e=ks.length) (hc:Contract P f fun args K=>∃g caps,args=[.slice [],.clo g caps]∧K []) (hres:Z8 P false (Zs P f)=some [])
   (hty:∀g caps,Zr P f [.slice [],.clo g caps]):ContractX P f [.own ks,.cell .fn] true fun args K=>∃g caps,args=[.own e [],.d (.clo g caps)]∧K [.own e []]:=by
 refine⟨hc.1,?_⟩;rintro _ K ⟨g,caps,rfl,hK⟩ _ w m vs hm hr;have hlen2:vs.length=2:=hr.len
 match vs,hlen2 with
 | [v,u],_=>
 have r0:=hr.rep 0 _ v rfl rfl;have r1:=hr.rep 1 _ u rfl rfl;have rv:RepD m (.slice []) v:=by
   cases r0 with
   |none=>exact .empty _ _
   |own=>exact .empty _ _
 have ru:RepD m (.clo g caps) u:=by cases r1;assumption
 refine(hc.2 [.slice [],.clo g caps] (fun rs=>rs=[]) ⟨g,caps,rfl,rfl⟩ (hty g caps) w m #[v,u] hm rfl ?_).mono ?_
 · intro i d x h1 h2
   match i,h1,h2 with
   |0,h1,h2=>simp at h1 h2;subst h1 h2;exact rv
   |1,h1,h2=>simp at h1 h2;subst h1 h2;exact ru
   |i+2,h1,h2=>simp at h1
 · rintro ex w' ⟨rs,v',m',rfl,_,rfl,⟨us,rfl,hus⟩,hle,hmo,hsame,hbw⟩;have hus0:us=[]:=by have:=hus.len;cases us with|nil=>rfl|cons a l=>simp at this
   subst hus0;refine⟨[.own e []],[],_,m',hK,?_,rfl,rfl,⟨rfl,?_,?_⟩,hle,hmo,fun b hb _=>hsame b hb,⟨hbw.os,hbw.tape,hbw.output,hbw.drawn,hbw.size,fun b hb _=>hbw.block b hb⟩⟩
   · intro rk hrk;rw [hres]at hrk;cases hrk;refine⟨[.slice []],?_,?_⟩
     · simp [Ya,RV.all,RV.cells,hek]
     · simp [Ya,RK.all,RK.kinds,HasKs,HasK]
   · intro i r x h2 h3;cases i with
     |succ i=>simp at h2
     | zero=>
       simp [W5]at h2 h3;subst h2 h3;cases r0 with
       |none=>exact .none
       | own hB hmb hb h0 hc1 hcc hcap hsz he hv=>
         have hlt:=(Array.getElem?_eq_some_iff.1 hb).1;exact .own (xs:=[]) (.inr ⟨0,_,_,rfl,rfl,rfl,by simp [blk];omega⟩) (by rw [hsame _ hlt];exact hmb) (by rw [hbw.block _ hlt];exact hb) h0 hc1 hcc hcap hsz (by simp) (by simp)
   · intro i j r r' x x' b hij h1 h2;cases i with
     |succ i=>simp at h1
     | zero=>cases j with
       |zero=>exact absurd rfl hij
       |succ j=>simp at h2
theorem Z7X:Contract Tryz.prog 225 fun args K=>args=[.int .u64 0]∧K [.d (.int .i64 0)]:=by
 refine Contract.plain (by kernel_rfl) ?_;rintro _ K ⟨rfl,hK⟩ _ w m vs hm hsz hrep
 match vs,hsz with
 |⟨[x]⟩,_=>
 have hx:=hrep 0 _ _ rfl rfl;have:=hx.int_inv;subst this;refine⟨[.int .i64 0],hK,WT (rk:=[.cell (.int .i64)]) (by kernel_rfl) rfl ⟨⟨rfl,by decide,by decide⟩,trivial⟩,?_⟩;refine(Tryz.bits_Len 0 w (by omega) (by omega)).mono ?_;rintro e w' ⟨rfl,rfl⟩;refine⟨[.int .i64 0],rfl,rfl,fun i d u h1 h2=>?_,?_⟩
 · cases i with
   |zero=>simp at h1 h2;subst h1 h2;exact .int _ _
   |succ i=>simp at h1
 · exact⟨Below.refl _ _,Nat.le_refl _⟩
theorem Z9o:Contract Tryz.prog 248 fun args K=>∃g caps,args=[.slice [],.int .i64 0,.int .i64 0,.clo g caps]∧K []:=by
 refine .of (by kernel_rfl) Zdn ?_;rintro _ K ⟨g,caps,rfl,hK⟩ hsm;refine⟨[.slice [],.int .i64 0,.int .i64 0,.clo g caps],rfl,⟨by simp [HasK],Y2 ⟨by omega,by omega⟩,Y2 ⟨by omega,by omega⟩,trivial,trivial⟩,?_⟩;unfold t248;rw [JP];refine⟨fun c ys=>c=none∧ys=[.int .i64 1],fun _ _=>0,⟨rfl,?_⟩,?_⟩
 · simp only [zz,reduceCtorEq];rw [Z1 (by omega)];rfl
 rintro _ _ _ ⟨rfl,rfl⟩;simp only [zz,reduceCtorEq];exact⟨fun h=>by omega,fun _=>hK⟩
theorem Zf6:Contract Tryz.prog 227 fun args K=>∃g caps,args=[.slice [],.int .i64 0,.int .i64 0,.int .i64 0,.clo g caps]∧K []:=by
 refine .of (by kernel_rfl) Zdp ?_;rintro _ K ⟨g,caps,rfl,hK⟩ hsm;refine⟨[.slice [],.int .i64 0,.int .i64 0,.int .i64 0,.clo g caps],rfl,⟨by simp [HasK],Y2 ⟨by omega,by omega⟩,Y2 ⟨by omega,by omega⟩,Y2 ⟨by omega,by omega⟩,trivial,trivial⟩,?_⟩;unfold t227;rw [JP];refine⟨fun c ys=>c=none∧ys=[],fun _ _=>0,⟨rfl,rfl⟩,?_⟩;rintro _ _ _ ⟨rfl,rfl⟩;have e:wr64 ((0:Int) - 0)=0:=by rw [Z1 (by omega)];rfl
 simp only [zz,reduceCtorEq,e];refine⟨fun _=>?_,fun h=>by omega⟩;refine Z0 Z9o ⟨g,caps,rfl,[],rfl,?_⟩;exact hK
theorem ZbQ:Contract Tryz.prog 199 fun args K=>∃g caps,args=[.slice [],.clo g caps]∧K []:=by
 refine .of (by kernel_rfl) ZdG ?_;rintro _ K ⟨g,caps,rfl,hK⟩ hsm;refine⟨[.slice [],.clo g caps],rfl,⟨by simp [HasK],trivial,trivial⟩,?_⟩;simp only [zz,reduceCtorEq,t199];intro _;refine Z0 Z7X ⟨?_,_,rfl,?_⟩
 · simp only [zz,reduceCtorEq];simp [IntKind.wrap,IntKind.signed,IntKind.bits]
 refine Z0 Zf6 ⟨g,caps,rfl,[],rfl,?_⟩;exact hK
theorem Z7g:ContractX Tryz.prog 199 [.own paKs,.cell .fn] true fun args K=>∃g caps,args=[.own 2 [],.d (.clo g caps)]∧K [.own 2 []]:=by
 refine ContractX.of_empty rfl ZbQ (by kernel_rfl) fun g caps=>J4 [some (.cell (.slice paKs)),some (.cell .fn)] (by kernel_rfl) ?_
 intro i rk d h1 h2
 match i,h1,h2 with
 |0,h1,h2=>simp at h1 h2;subst h1 h2;simp [RK.kind,HasK]
 |1,h1,h2=>simp at h1 h2;subst h1 h2;trivial
 |i+2,h1,h2=>simp at h1
noncomputable def t138:R:=let x1:T:=.idx (Va 2) (Va 4) 2 (.slice mvKs);let x5:List K:=[.int .i64,.int .i64];let x0:T:=Vl (.idx x1 (Va 7) 0 (.int .i64)) (Vl (.idx x1 (Va 7) 1 (.int .i64)) .lnil);let x3:List K:=[.slice x5,.int .i64,.slice [.agg x5,.bool]];let x4:T:=.o2 .find (Va 8) x0;let x6:T:=.o2 .app (Va 6) (.push .nils x0);let x2:T:=.o1 .not (.ite (.o2 .ge x4 (Vn 0)) (.idx (Va 8) x4 1 .bool) (.bool false));.fact (.o2 .le (.o1 .len (Va 2)) (Vn 140737488355328)) (.loop 0 [.nils,Vn 0,.nils] x3 (.ite (.o2 .lt (Va 4) (.o1 .len (Va 2))) (.need (.o2 .le (Vn 0) (Va 4)) (.fact (.o2 .le (.o1 .len x1) (Vn 140737488355328)) (.loop 1 [Va 3,Vn 0,Va 5] x3 (.ite (.o2 .lt (Va 7) (.o1 .len x1)) (.need (.o2 .le (Vn 0) (Va 7)) (.need (.ite x2 (.o2 .le (.o1 .len x6) (Vn 8796093022208)) (.bool true)) (.lets [.ite x2 x6 (Va 6),.ite x2 (.ite (.o2 .ge x4 (Vn 0)) (.upd (Va 8) x4 1 (Vl (.bool true) .lnil)) (.push (Va 8) (Vl x0 (Vl (.bool true) .lnil)))) (Va 8)] (.again 1 [Va 9,.o2 (.add .i64) (Va 7) (Vn 1),Va 10])))) (.again 0 [Va 6,.o2 (.add .i64) (Va 4) (Vn 1),Va 8]))))) (.callX true 199 [.own 2 (Va 3),.d (.fn 200)] [.own x5] (.ret [.own 2 (Va 6)]))))
theorem Zen:fnO Tryz.prog mdA 138 [.agg liKs]=t138:=by kernel_rfl
theorem Zc9 (p:Par):∀d∈p.enc,D.flat d=true:=by
 intro d hd;simp only [Par.enc,List.mem_cons,List.not_mem_nil,or_false]at hd;rcases hd with rfl|rfl <;> rfl
theorem Z8T:ContractX Tryz.prog 199 [.own paKs,.cell .fn] true fun args K=>∃(l:List Par) (g:FuncId) (caps:List D) (key:Par→Int) (cf:Par→Par→Int) (sf:Spec),l≠[]∧(∀x∈l,HasKs paKs (Par.enc x))∧args=[.own 2 (l.map Par.enc),.d (.clo g caps)]∧FvC Tryz.prog (.clo g caps) sf∧
     (∀x∈l,∀y∈l,(cf x y < 0↔key x < key y)∧sf [.agg (Par.enc x),.agg (Par.enc y)] fun rs=>rs=[.d (.int .i64 (cf x y))])∧∀l':List Par,l'.Perm l→l'.Pairwise (fun a b=>key a≤key b)→K [.own 2 (l'.map Par.enc)]:=
 Za2 (X:=Par) (enc:=Par.enc) (ks:=paKs) (k:=2) Tryz.sort184 (by kernel_rfl) (by kernel_rfl) rfl (by omega) Zc9 (fun _=>rfl) (fun w=>by kernel_rfl) (fun w=>by kernel_rfl) (by kernel_rfl)
def Z39 (l:List Par):List (List D):=l.map fun p=>[.agg p.enc,.bool true]
theorem Z8e (p q:Par):D.same (.agg p.enc) (.agg q.enc)=decide (p=q):=by
 have:p=q↔p.ch=q.ch∧p.at_=q.at_:=⟨fun h=>by rw [h];exact⟨rfl,rfl⟩,fun h=>Par.ext' h.1 h.2⟩
 rw [Bool.eq_iff_iff];simp only [D.same,D.sameL,Par.enc,this,decide_eq_true_eq,Bool.and_eq_true,beq_iff_eq,and_true,true_and]
theorem Z2t (p:Par):∀(l:List Par) (i:Nat),(p∉l∧D.findRow (.agg p.enc) (Z39 l) i= -1)∨∃j,l[j]? =some p∧D.findRow (.agg p.enc) (Z39 l) i=((i+j:Nat):Int)
 | [],i=>.inl ⟨by simp,rfl⟩
 | q ::l,i=>by
   have e:D.findRow (.agg p.enc) (Z39 (q::l)) i=if p=q then(i:Int)else D.findRow (.agg p.enc) (Z39 l) (i+1):=by
     show(if D.same (.agg p.enc) (.agg q.enc)=true then(i:Int)else _)=_;rw [Z8e];simp only [decide_eq_true_eq];rfl
   rw [e];by_cases h:p=q
   · subst h;exact .inr ⟨0,rfl,by simp⟩
   · rw [if_neg h];rcases Z2t p l (i+1)with⟨h1,h2⟩|⟨j,h1,h2⟩
     · exact .inl ⟨by simp [h,h1],h2⟩
     · exact .inr ⟨j+1,h1,by rw [h2];congr 1;omega⟩
structure FI (l:Lis) (n:Nat) (a:List Par):Prop where
 ok:∀p∈a,p.Ok
 len:a.length≤n
theorem FI.put {l:Lis} {n:Nat} {a:List Par} {p:Par} (h:FI l n a) (hp:p.Ok):FI l (n+1) (Z1q a p):=
 ⟨fun q hq=>(Z6D.1 hq).elim (h.ok q) (fun e=>e▸hp),by have:=Z6H (p:=p) (a:=a);have:=h.len;omega⟩
theorem Z2r:Contract Tryz.prog 138 fun args K=>∃(l:Lis),RightT l∧args=[.agg l.enc]∧K [.own 2 ((Wl l.cues).map Par.enc)]:=by
 refine .of (by kernel_rfl) Zen ?_;rintro _ K ⟨l,hR,rfl,hK⟩ hsm;have hlen:=hR.len;refine⟨l.enc,rfl,Lis.has hR.ok,?_⟩;simp only [zz,reduceCtorEq,t138,Lis.enc];intro hcap;refine Ji l.cues (fun i cs (a:List Par)=>JH a (pars cs)) (fun i a=>[.slice (a.map Par.enc),.int .i64 i,.slice (Z39 a)]) (fun i a=>FI l (128 * i) a) [] (Z48 l.cues) rfl ⟨by simp,by simp⟩ 1 (fun _ _=>rfl) rfl ?_ ?_
 · intro i hi a hI hgo;have hcm:=List.getElem_mem hi;have hml:=(hR.moves _ hcm).len;simp only [zz,reduceCtorEq,List.length_map,hi,J0 hi,Cue.enc];refine⟨by omega,fun hcap1=>?_⟩;rw [show pars (l.cues[i]::l.cues.drop (i+1))=l.cues[i].moves.map (·.pa)++pars (l.cues.drop (i+1))from rfl]at hgo;rw [JH,List.foldl_append]at hgo;refine Ji l.cues[i].moves (fun _ ms (b:List Par)=>JH b (ms.map (·.pa)++pars (l.cues.drop (i+1)))) (fun k b=>[.slice (b.map Par.enc),.int .i64 k,.slice (Z39 b)]) (fun k b=>FI l (128 * i+k) b) a (Z48 l.cues) (by simpa [JH,List.foldl_append]using hgo) (by simpa using hI) 1 (fun _ _=>rfl) (by simp only [zz,reduceCtorEq];simp) ?_ ?_
   · intro k hk b hI2 hgo2;have hb:=hI2.len;have hmk:=((hR.ok.cues _ hcm).moves _ (List.getElem_mem hk)).1;generalize hp:l.cues[i].moves[k].pa=p at hmk;have hgo3:JH (Z1q b p) ((l.cues[i].moves.drop (k+1)).map (·.pa)++pars (l.cues.drop (i+1)))=Z48 l.cues:=by rw [←hp];exact hgo2
     rcases Z2t p b 0 with⟨h1,h2⟩|⟨j,h1,h2⟩
     · have hfr:D.findRow (.agg [.int .i64 p.ch,.int .i64 p.at_]) (Z39 b) 0= -1:=h2;have e0:¬(0:Int)≤ -1:=by omega
       have ef:Z1q b p=b++[p]:=by unfold Z1q;rw [if_neg h1]
       rw [ef]at hgo3;have hput:=hI2.put hmk;rw [ef]at hput;simp only [zz,reduceCtorEq,List.length_map,hi,J0 hi,Cue.enc,hk,J0 hk,Mov.enc,hp,hfr,e0,Bool.not_false,List.length_append];refine⟨by omega,by simp;omega,b++[p],⟨by simp [Par.enc],by rw [Z1] <;> omega,by simp [Z39,Par.enc]⟩,hput,hgo3⟩
     · have hfr:D.findRow (.agg [.int .i64 p.ch,.int .i64 p.at_]) (Z39 b) 0=(j:Int):=by rw [Nat.zero_add]at h2;exact h2
       have e0:(0:Int)≤(j:Int):=by omega
       have hmem:p∈b:=List.mem_of_getElem? h1;have ef:Z1q b p=b:=by unfold Z1q;rw [if_pos hmem]
       rw [ef]at hgo3;have hput:=hI2.put hmk;rw [ef]at hput;have hrow:((Z39 b).getD j []).getD 1 (Go.Sx.K.zero .bool)=.bool true:=by
         simp only [Z39,List.getD_eq_getElem?_getD,List.getElem?_map,h1,Option.map_some,Option.getD_some];rfl
       simp only [zz,reduceCtorEq,List.length_map,hi,J0 hi,Cue.enc,hk,J0 hk,Mov.enc,hp,hfr,e0,Bool.not_true,Int.toNat_natCast,hrow];refine⟨by omega,b,⟨rfl,by rw [Z1] <;> omega,rfl⟩,hput,hgo3⟩
   · intro b hI2 hgo2;simp only [zz,reduceCtorEq,List.length_map,hi,J0 hi,Cue.enc,Nat.lt_irrefl];refine⟨rfl,b,?_,⟨hI2.ok,by have:=hI2.len;omega⟩,by simpa using hgo2⟩;rw [Z1 (by omega)];rfl
 · intro a hI hgo;simp only [zz,reduceCtorEq,List.length_map,Nat.lt_irrefl];simp only [pars,List.flatMap_nil,JH,List.foldl_nil]at hgo;subst hgo;have hpar:=Zar hR;have hok:∀p∈Z48 l.cues,p.Ok∧Z3 p=0:=fun p hp=>hpar p (Z3w.1 hp)
   by_cases hne:Z48 l.cues=[]
   · have e:Wl l.cues=[]:=by
       refine List.eq_nil_iff_forall_not_mem.2 fun x hx=>?_
       have:=Z3w.2 (WF.1 hx);rw [hne]at this;simp at this
     rw [e]at hK;rw [hne];refine ZA Z7g ⟨[.slice [],.clo 200 []],rfl,⟨by simp [HasK],trivial,trivial⟩⟩ (fun _=>rfl) ⟨200,[],rfl,[.slice []],rfl,?_⟩;exact hK
   · refine ZA Z8T ⟨[.slice ((Z48 l.cues).map Par.enc),.clo 200 []],rfl,⟨Zc8 fun p hp=>(hok p hp).1,trivial,trivial⟩⟩ (fun _=>rfl) ?_;have hkey:∀x y:Par,Z3 x=0→Z3 y=0→(pcmp x y < 0↔15 * x.ch+x.at_ < 15 * y.ch+y.at_):=by
       intro x y hx hy;rw [Z2O hx hy];have h1:=Jj hx;have h2:=Jj hy;simp only [W3,Bool.or_eq_true,Bool.and_eq_true,decide_eq_true_eq];omega
     refine⟨Z48 l.cues,200,[],fun p=>15 * p.ch+p.at_,pcmp,fun as_ K=>∃p q:Par,p.Ok∧q.Ok∧as_=[.agg p.enc,.agg q.enc]∧K [.d (.int .i64 (pcmp p q))],hne,fun x hx=>Par.has (hok x hx).1,rfl,FvC.of c200 Z9R ?_,?_,?_⟩
     · rintro _ K ⟨a,b,ha,hb,rfl,hK⟩;refine⟨⟨a,b,ha,hb,rfl,hK⟩,J4 [some (.agg paKs),some (.agg paKs)] (by kernel_rfl) ?_⟩;intro i rk d h1 h2
       match i,h1,h2 with
       |0,h1,h2=>simp at h1 h2;subst h1 h2;exact Par.has ha
       |1,h1,h2=>simp at h1 h2;subst h1 h2;exact Par.has hb
     · intro x hx y hy;exact⟨hkey x y (hok x hx).2 (hok y hy).2,x,y,(hok x hx).1,(hok y hy).1,rfl,rfl⟩
     · intro l' hperm hsorted;have e:=Z7J (cs:=l.cues) (a:=l') (fun p hp=>(hpar p hp).2) hperm (List.Pairwise.imp_of_mem (fun {x y} hx hy h=>by
         have h:15 * x.ch+x.at_≤15 * y.ch+y.at_:=h;rw [hkey y x (hok y (hperm.mem_iff.1 hy)).2 (hok x (hperm.mem_iff.1 hx)).2];omega) hsorted)
       refine⟨[.slice (l'.map Par.enc)],rfl,?_⟩;rw [e];simp only [zz,reduceCtorEq];exact hK
noncomputable def t73:R:=let x1:T:=Vl (Va 1) (Vl (Va 2) .lnil);let x2:T:=.idx (Va 4) (Va 6) 0 (.int .i64);let x3:T:=.idx (Va 4) (Va 6) 1 (.int .i64);let x0:T:=.push .nils (Vl x2 (Vl x3 (Vl (Va 7) (Vl (Va 8) .lnil))));.call none (.fn 138) [Vl (Va 0) x1] [.cell (.slice [.int .i64,.int .i64])] (.fact (.o2 .le (.o1 .len (Va 4)) (Vn 140737488355328)) (.loop 0 [.nils,Vn 0] [.slice [.int .i64,.int .i64,.int .i64,.int .i64],.int .i64] (.ite (.o2 .lt (Va 6) (.o1 .len (Va 4))) (.need (.o2 .le (Vn 0) (Va 6)) (.call none (.fn 139) [Vl (Va 0) x1,Va 3,Vl x2 (Vl x3 .lnil)] [.agg [.int .i64,.int .i64]] (.need (.o2 .le (.o1 .len (.o2 .app (Va 5) x0)) (Vn 4398046511104)) (.again 0 [.o2 .app (Va 5) x0,.o2 (.add .i64) (Va 6) (Vn 1)])))) (.ret [.own 4 (Va 5)]))))
theorem Zg5:fnO Tryz.prog mdA 73 [.agg liKs,.cell (.int .i64)]=t73:=by kernel_rfl
noncomputable def t76:R:=let x2:T:=.idx (Va 1) (Va 3) 2 (.int .i64);let x3:T:=.idx (Va 1) (Va 3) 3 (.int .i64);let x0:T:=.o2 .app (Va 2) (.push .nils (Vl (.idx (Va 1) (Va 3) 0 (.int .i64)) (Vl (.idx (Va 1) (Va 3) 1 (.int .i64)) (Vl x2 (Vl x3 .lnil)))));let x1:T:=.o1 .not (.o2 .band (.o2 .eq x2 (.idx (Va 0) (Va 3) 2 (.int .i64))) (.o2 .band (.o2 .eq x3 (.idx (Va 0) (Va 3) 3 (.int .i64))) (.bool true)));.fact (.o2 .le (.o1 .len (Va 1)) (Vn 140737488355328)) (.loop 0 [.nils,Vn 0] [.slice [.int .i64,.int .i64,.int .i64,.int .i64],.int .i64] (.ite (.o2 .lt (Va 3) (.o1 .len (Va 1))) (.need (.o2 .le (Vn 0) (Va 3)) (.need (.o2 .lt (Va 3) (.o1 .len (Va 0))) (.need (.ite x1 (.o2 .le (.o1 .len x0) (Vn 4398046511104)) (.bool true)) (.lets [.ite x1 x0 (Va 2)] (.again 0 [Va 4,.o2 (.add .i64) (Va 3) (Vn 1)]))))) (.ret [.own 4 (Va 2)])))
noncomputable def t18:R:=let x0:T:=Vl (Va 1) (Vl (Va 2) .lnil);.call none (.fn 72) [Vl (Va 0) x0,Va 3] [.cell (.int .i64),.cell (.int .i64)] (.ite (.o2 .ne (Va 5) (Vn 0)) (.ret [.d .nils,.d (Va 5)]) (.call none (.fn 73) [Vl (Va 0) x0,Va 4] [.cell (.slice [.int .i64,.int .i64,.int .i64,.int .i64])] (.ret [.d (Va 6),.d (Vn 0)])))
theorem ZgK:fnO Tryz.prog mdA 18 [.agg liKs,.cell .str]=t18:=by kernel_rfl
noncomputable def t20:R:=let x0:T:=Vl (Va 1) (Vl (Va 2) .lnil);let x1:List K:=[.int .i64,.int .i64,.int .i64,.int .i64];.call none (.fn 72) [Vl (Va 0) x0,Va 3] [.cell (.int .i64),.cell (.int .i64)] (.ite (.o2 .ne (Va 6) (Vn 0)) (.ret [.d .nils,.d (Va 6)]) (.call none (.fn 72) [Vl (Va 0) x0,Va 4] [.cell (.int .i64),.cell (.int .i64)] (.ite (.o2 .ne (Va 8) (Vn 0)) (.ret [.d .nils,.d (Va 8)]) (.call none (.fn 73) [Vl (Va 0) x0,Va 5] [.cell (.slice x1)] (.call none (.fn 73) [Vl (Va 0) x0,Va 7] [.cell (.slice x1)] (.call none (.fn 76) [Va 9,Va 10] [.cell (.slice x1)] (.ret [.d (Va 11),.d (Vn 0)])))))))
noncomputable def t67:R:=let x0:T:=Vl (Va 1) (Vl (Va 2) .lnil);.call none (.fn 29) [Vl (Va 0) x0] [.cell (.int .i64)] (.ite (.o2 .ne (Va 3) (Vn 0)) (.ret [.d .nils,.d (Va 3)]) (.call none (.fn 138) [Vl (Va 0) x0] [.cell (.slice [.int .i64,.int .i64])] (.ret [.d (Va 4),.d (Vn 0)])))
theorem Zgb:fnO Tryz.prog mdA 67 [.agg liKs]=t67:=by kernel_rfl
structure Ent where
 pa:Par
 va:Val
 deriving DecidableEq
def Ent.enc (e:Ent):List D:=[.int .i64 e.pa.ch,.int .i64 e.pa.at_,.int .i64 e.va.pal,.int .i64 e.va.lev]
def Ent.Ok (e:Ent):Prop:=e.pa.Ok∧e.va.Ok
def enKs:List K:=[.int .i64,.int .i64,.int .i64,.int .i64]
theorem Ent.has {e:Ent} (h:e.Ok):HasKs enKs e.enc:=⟨Y2 h.1.1,Y2 h.1.2,Y2 h.2.1,Y2 h.2.2,trivial⟩
def ZH (cs:List Cue) (n:Nat):List Ent:=(Wl cs).map fun p=>⟨p,W7 cs p n⟩
theorem JN {l:Lis} (hR:RightT l) (p:Par) (n:Nat):(W7 l.cues p n).Ok:=by
 unfold W7 Z7x;cases h:(Wn l.cues n).findSome? fun c=>Zb c.moves p with
 |none=>exact⟨⟨by decide,by decide⟩,⟨by decide,by decide⟩⟩
 | some m=>
   obtain⟨c,hc,hm⟩:=List.exists_of_findSome?_eq_some h;have hcm:=ZR hc;exact((hR.ok.cues c hcm).moves m (List.mem_of_find?_eq_some hm)).2.1
theorem Z3u {l:Lis} (hR:RightT l):(Wl l.cues).length≤8192:=by
 have h1:=Zc7 (cs:=l.cues) fun c hc=>(hR.moves c hc).len
 have h2:=Z1k (ps:=pars l.cues) (a:=[]);have h3:=hR.len;simp only [Wl,List.length_nil]at h2 ⊢;omega
theorem Z04 {l:Lis} (hR:RightT l):∀p∈Wl l.cues,p.Ok∧Z3 p=0:=fun p hp=>Zar hR p (WF.1 hp)
theorem Z5C {l:Lis} (hR:RightT l) (n:Nat):∀e∈ZH l.cues n,e.Ok:=by
 intro e he;obtain⟨p,hp,rfl⟩:=List.mem_map.1 he;exact⟨(Z04 hR p hp).1,JN hR p n⟩
theorem ZaV {l:Lis} (hl:l.Ok) {v:Int} (hv:I64 v):HasKs (liKs++[.int .i64]) (l.enc++[.int .i64 v]):=(Lis.has hl).append (WV hv)
def Z4I (cs:List Cue) (n:Nat) (ps:List Par) (acc:List Ent):List Ent:=acc++ps.map fun p=>⟨p,W7 cs p n⟩
theorem look_ok:Contract Tryz.prog 73 fun args K=>∃(l:Lis) (n:Nat),RightT l∧n≤l.cues.length∧args=[.agg l.enc,.int .i64 ((n:Int) - 1)]∧K [.own 4 ((ZH l.cues n).map Ent.enc)]:=by
 refine .of (by kernel_rfl) Zg5 ?_;rintro _ K ⟨l,n,hR,hn,rfl,hK⟩ hsm;have hlen:=hR.len;have h64:I64 ((n:Int) - 1):=⟨by omega,by omega⟩
 refine⟨l.enc++[.int .i64 ((n:Int) - 1)],rfl,by exact ZaV hR.ok h64,?_⟩;refine Z0 Z2r ⟨l,hR,by simp only [zz,reduceCtorEq,Lis.enc],_,rfl,?_⟩;have hml:=Z3u hR;have hmp:=Z04 hR;generalize hps:Wl l.cues=ps at hml hmp;have hK':K [.own 4 ((Z4I l.cues n ps []).map Ent.enc)]:=by simpa [Z4I,ZH,hps]using hK
 simp only [zz,reduceCtorEq,Lis.enc,List.length_map];intro hcap;refine Ji ps (fun _ ps (acc:List Ent)=>Z4I l.cues n ps acc) (fun i acc=>[.slice (acc.map Ent.enc),.int .i64 i]) (fun i acc=>acc.length=i) [] (Z4I l.cues n ps []) rfl rfl 1 (fun _ _=>rfl) rfl ?_ ?_
 · intro i hi acc hI hgo;have hpm:=hmp _ (List.getElem_mem hi);simp only [zz,reduceCtorEq,List.length_map,hi,J0 hi,Par.enc];refine⟨by omega,?_⟩;refine Z0 Z9M ⟨l,n,ps[i],hR,hn,hpm.1,hpm.2,by simp only [zz,reduceCtorEq,Lis.enc,J0 hi,Par.enc],_,rfl,?_⟩;simp only [zz,reduceCtorEq,Lis.enc,J0 hi,Par.enc,Val.enc,List.length_append,List.length_map];refine⟨by simp;omega,acc++[⟨ps[i],W7 l.cues ps[i] n⟩],⟨by simp [Ent.enc],by rw [Z1] <;> omega⟩,by simp [hI],by simp only [Z4I,List.append_assoc,List.singleton_append,List.map_cons,List.map_drop]at hgo ⊢;exact hgo⟩
 · intro acc hI hgo;simp only [zz,reduceCtorEq,List.length_map,Nat.lt_irrefl];rw [←hgo]at hK';simpa [Z4I]using hK'
theorem Jp {a:List Ent} (h:∀e∈a,e.Ok):HasK (.slice enKs) (.slice (a.map Ent.enc)):=Y6 fun e he=>Ent.has (h e he)
theorem Z4d (v w:Val):v=w↔v.pal=w.pal∧v.lev=w.lev:=⟨fun h=>by rw [h];exact⟨rfl,rfl⟩,fun h=>by cases v;cases w;simp_all⟩
def Z5B (l:Lis) (s:List UInt8):List Ent×Int:=if Jf l s≠0 then([],Jf l s)else(ZH l.cues (upto l s),0)
def Zct (l:Lis):List Par×Int:=if W8 W4 l≠0 then([],W8 W4 l)else(Wl l.cues,0)
def entRV (r:List Ent×Int):List RV:=[.d (.slice (r.1.map Ent.enc)),.d (.int .i64 r.2)]
theorem Z5D:Contract Tryz.prog 18 fun args K=>∃(l:Lis) (s:List UInt8),l.Ok∧args=[.agg l.enc,.str s]∧K (entRV (Z5B l s)):=by
 refine .of (by kernel_rfl) ZgK ?_;rintro _ K ⟨l,s,hl,rfl,hK⟩ hsm;refine⟨l.enc++[.str s],rfl,by exact Z1o hl,?_⟩;refine Z0 Z5Z ⟨l,s,hl,by simp only [zz,reduceCtorEq,Lis.enc],_,rfl,?_⟩;simp only [zz,reduceCtorEq,Lis.enc];unfold Z5B at hK;refine⟨fun h=>?_,fun h=>?_⟩
 · have h:Jf l s≠0:=by simpa using h
   rw [if_pos h]at hK;exact hK
 have h:Jf l s=0:=by simpa using h
 obtain⟨hR,h05,hpl,hup,hu0,hul⟩:=Zk hl h;rw [if_neg (by simp [h])]at hK;have hat:(if Jf l s≠0 then 0 else place l.cues s)=(upto l s:Int) - 1:=by rw [if_neg (by simp [h])];exact hup
 refine Z0 look_ok ⟨l,upto l s,hR,hul,by simp only [zz,reduceCtorEq,Lis.enc,hat],_,rfl,?_⟩;simp only [zz,reduceCtorEq,Lis.enc];exact hK
theorem Z3z {l:Lis} (hR:RightT l) (n:Nat):(ZH l.cues n).length≤10000:=by
 have:=Z3u hR;simp only [ZH,List.length_map];omega
def parRV (r:List Par×Int):List RV:=[.d (.slice (r.1.map Par.enc)),.d (.int .i64 r.2)]
theorem Zcu:Contract Tryz.prog 67 fun args K=>∃(l:Lis),l.Ok∧args=[.agg l.enc]∧K (parRV (Zct l)):=by
 refine .of (by kernel_rfl) Zgb ?_;rintro _ K ⟨l,hl,rfl,hK⟩ hsm;refine⟨l.enc,rfl,Lis.has hl,?_⟩;refine Z0 YL ⟨l,hl,by simp only [zz,reduceCtorEq,Lis.enc],_,rfl,?_⟩;simp only [zz,reduceCtorEq,Lis.enc];unfold Zct at hK;refine⟨fun h=>?_,fun h=>?_⟩
 · have h:W8 W4 l≠0:=by simpa using h
   rw [if_pos h]at hK;exact hK
 have h:W8 W4 l=0:=by simpa using h
 rw [if_neg (by simp [h])]at hK;refine Z0 Z2r ⟨l,WG hl h,by simp only [zz,reduceCtorEq,Lis.enc],_,rfl,?_⟩;simp only [zz,reduceCtorEq,Lis.enc];exact hK
noncomputable def t44:R:=let x0:T:=.o1 .len (.idx (Va 2) (Va 5) 2 (.slice mvKs));let x1:T:=Vl (Va 1) (Vl (Va 2) .lnil);let x2:T:=.o1 .len (Va 2);.call none (.fn 107) [Vl (Va 0) x1] [.cell .bool] (.ite (.o1 .not (Va 3)) (.ret [.d (.bool false)]) (.fact (.o2 .le x2 (Vn 140737488355328)) (.ite (.o2 .gt x2 (Vn 10)) (.call none (.fn 45) [Vl (Va 0) x1] [.cell (.int .i64)] (.ret [.d (.o2 .ne (Va 4) (Vn 0))])) (.loop 0 [Vn 0,Vn 0] [.int .i64,.int .i64] (.ite (.o2 .lt (Va 5) x2) (.need (.o2 .le (Vn 0) (Va 5)) (.fact (.o2 .le x0 (Vn 140737488355328)) (.ite (.ite (.o2 .gt x0 (Vn 20)) (.bool true) (.o2 .gt (.o2 (.add .i64) (Va 4) x0) (Vn 30))) (.call none (.fn 45) [Vl (Va 0) x1] [.cell (.int .i64)] (.ret [.d (.o2 .ne (Va 6) (Vn 0))])) (.again 0 [.o2 (.add .i64) (Va 4) x0,.o2 (.add .i64) (Va 5) (Vn 1)])))) (.ret [.d (.bool true)]))))))
theorem Zgy:fnO Tryz.prog mdA 44 [.agg liKs]=t44:=by kernel_rfl
noncomputable def t202:R:=.ret [.d (Vl (Vn 0) (Vl (Va 0) .lnil))]
theorem ZdD:fnO Tryz.prog mdA 202 [.cell (.int .i64)]=t202:=by kernel_rfl
noncomputable def t144:R:=.call none (.fn 202) [Va 2] [.agg [.int .i64,.int .i64]] (.ret [.d (Vl (Va 0) (Vl (Va 1) (Vl (Va 3) (Vl (Va 4) (Vl (Vn 1) .lnil)))))])
theorem Zek:fnO Tryz.prog mdA 144 [.cell (.int .i64),.cell (.int .i64),.cell (.int .i64)]=t144:=by kernel_rfl
noncomputable def t143:R:=let x0:T:=Vl (Vn 0) .lnil;.ret [.d (Vl (Va 0) (Vl (.str []) (Vl (Va 2) (Vl (.rep (Vn 1) (Vl (Vn 0) (Vl (Vn 0) (Vl (Vn 0) (Vl (Vn 0) (Vl (Vn 0) x0)))))) (Vl (Va 1) (Vl (.bool false) (Vl (Vn (-1)) (Vl (.str []) x0))))))))]
theorem Zel:fnO Tryz.prog mdA 143 [.cell .str,.cell .bool,.cell (.slice mvKs)]=t143:=by kernel_rfl
noncomputable def t78:R:=let x1:List K:=mvKs;let x0:List K:=[.str,.str,.slice x1,.slice tmKs,.bool,.bool,.int .i64,.str,.int .i64];.call none (.fn 144) [Vn 1,Vn 0,Vn 100] [.agg x1] (.call none (.fn 144) [Vn 1,Vn 1,Vn 7] [.agg x1] (.call none (.fn 143) [.str [49],.bool false,.push (.push .nils (Vl (Va 0) (Vl (Va 1) (Vl (Va 2) (Vl (Va 3) (Vl (Va 4) .lnil)))))) (Vl (Va 5) (Vl (Va 6) (Vl (Va 7) (Vl (Va 8) (Vl (Va 9) .lnil)))))] [.agg x0] (.call none (.fn 144) [Vn 1,Vn 0,Vn 200] [.agg x1] (.call none (.fn 143) [.str [50],.bool false,.push .nils (Vl (Va 19) (Vl (Va 20) (Vl (Va 21) (Vl (Va 22) (Vl (Va 23) .lnil)))))] [.agg x0] (.call none (.fn 144) [Vn 1,Vn 1,Vn 9] [.agg x1] (.call none (.fn 143) [.str [51],.bool true,.push .nils (Vl (Va 33) (Vl (Va 34) (Vl (Va 35) (Vl (Va 36) (Vl (Va 37) .lnil)))))] [.agg x0] (.call none (.fn 144) [Vn 2,Vn 0,Vn 50] [.agg x1] (.call none (.fn 143) [.str [52],.bool false,.push .nils (Vl (Va 47) (Vl (Va 48) (Vl (Va 49) (Vl (Va 50) (Vl (Va 51) .lnil)))))] [.agg x0] (.ret [.d (Vl (Vn 1) (Vl (Vn 0) (Vl (.push (.push (.push (.push .nils (Vl (Va 10) (Vl (Va 11) (Vl (Va 12) (Vl (Va 13) (Vl (Va 14) (Vl (Va 15) (Vl (Va 16) (Vl (Va 17) (Vl (Va 18) .lnil)))))))))) (Vl (Va 24) (Vl (Va 25) (Vl (Va 26) (Vl (Va 27) (Vl (Va 28) (Vl (Va 29) (Vl (Va 30) (Vl (Va 31) (Vl (Va 32) .lnil)))))))))) (Vl (Va 38) (Vl (Va 39) (Vl (Va 40) (Vl (Va 41) (Vl (Va 42) (Vl (Va 43) (Vl (Va 44) (Vl (Va 45) (Vl (Va 46) .lnil)))))))))) (Vl (Va 52) (Vl (Va 53) (Vl (Va 54) (Vl (Va 55) (Vl (Va 56) (Vl (Va 57) (Vl (Va 58) (Vl (Va 59) (Vl (Va 60) .lnil)))))))))) .lnil)))])))))))))
theorem Zg3:fnO Tryz.prog mdA 78 []=t78:=by kernel_rfl
theorem Zcy:Contract Tryz.prog 44 fun args K=>∃(l:Lis),l.Ok∧args=[.agg l.enc]∧∀b:Bool,K [.d (.bool b)]:=by
 refine .of (by kernel_rfl) Zgy ?_;rintro _ K ⟨l,hl,rfl,hK⟩ hsm;refine⟨l.enc,rfl,Lis.has hl,?_⟩;refine Z0 Zcz ⟨l,hl,by simp only [zz,reduceCtorEq,Lis.enc],_,rfl,?_⟩;simp only [zz,reduceCtorEq,Lis.enc,List.length_map];refine⟨fun _=>hK false,fun _ hcap=>⟨fun _=>?_,fun h10=>?_⟩⟩
 · refine Z0 Z1Z ⟨l,hl,by simp only [zz,reduceCtorEq,Lis.enc],_,rfl,?_⟩;simp only [zz,reduceCtorEq];exact hK _
 · rw [JP];refine⟨fun c ys=>c=none∧∃(i:Nat) (m:Int),i≤l.cues.length∧ys=[.int .i64 m,.int .i64 i],fun _ ys=>match ys with| [_,.int _ i]=>l.cues.length - i.toNat|_=>0,⟨rfl,0,0,Nat.zero_le _,rfl⟩,?_⟩;rintro _ _ _ ⟨rfl,i,m,hi,rfl⟩;simp only [zz,reduceCtorEq,List.length_map];refine⟨fun h=>?_,fun _=>hK true⟩;have h:i < l.cues.length:=by omega
   simp only [zz,reduceCtorEq,J0 h,Cue.enc,List.length_map];refine⟨by omega,fun hcap2=>⟨fun _=>?_,fun _=>?_⟩⟩
   · refine Z0 Z1Z ⟨l,hl,by simp only [zz,reduceCtorEq,Lis.enc],_,rfl,?_⟩;simp only [zz,reduceCtorEq];exact hK _
   · refine⟨⟨rfl,i+1,_,by omega,⟨rfl,?_⟩⟩,?_⟩
     · rw [Z1 (by omega)];rfl
     · rw [Z1 (by omega)];show l.cues.length - ((i:Int)+1).toNat < l.cues.length - ((i:Int)).toNat;omega
theorem ZfH:Contract Tryz.prog 202 fun args K=>∃v:Int,I64 v∧args=[.int .i64 v]∧K [.d (.agg (Val.enc ⟨0,v⟩))]:=by
 refine .of (by kernel_rfl) ZdD ?_;rintro _ K ⟨v,hv,rfl,hK⟩ hsm;refine⟨[.int .i64 v],rfl,⟨Y2 hv,trivial⟩,?_⟩;simp only [zz,reduceCtorEq,t202];exact hK
def mv18 (c a v:Int):Mov:=⟨⟨c,a⟩,⟨0,v⟩,1⟩
theorem Z3s:Contract Tryz.prog 144 fun args K=>∃c a v:Int,I64 c∧I64 a∧I64 v∧args=[.int .i64 c,.int .i64 a,.int .i64 v]∧K [.d (.agg (mv18 c a v).enc)]:=by
 refine .of (by kernel_rfl) Zek ?_;rintro _ K ⟨c,a,v,hc,ha,hv,rfl,hK⟩ hsm;refine⟨[.int .i64 c,.int .i64 a,.int .i64 v],rfl,⟨Y2 hc,Y2 ha,Y2 hv,trivial⟩,?_⟩;refine Z0 ZfH ⟨v,hv,rfl,_,rfl,?_⟩;simp only [zz,reduceCtorEq,Val.enc];exact hK
def zt:Tim:=⟨0,0,0,0,0,0⟩
def Z1t (n:List UInt8) (b:Bool) (ms:List Mov):Cue:=⟨n,[],ms,[zt],b,false, -1,[],0⟩
theorem Z1s:Contract Tryz.prog 143 fun args K=>∃(n:List UInt8) (b:Bool) (ms:List Mov),(∀m∈ms,m.Ok)∧args=[.str n,.bool b,.slice (ms.map Mov.enc)]∧K [.d (.agg (Z1t n b ms).enc)]:=by
 refine .of (by kernel_rfl) Zel ?_;rintro _ K ⟨n,b,ms,hm,rfl,hK⟩ hsm;refine⟨[.str n,.bool b,.slice (ms.map Mov.enc)],rfl,⟨trivial,trivial,Y6 fun m h=>Mov.has (hm m h),trivial⟩,?_⟩;simp only [zz,reduceCtorEq,t143];exact hK
def four:Lis:=⟨1,0,[Z1t [49] false [mv18 1 0 100,mv18 1 1 7],Z1t [50] false [mv18 1 0 200],Z1t [51] true [mv18 1 1 9],Z1t [52] false [mv18 2 0 50]]⟩
theorem Z03 {c a v:Int} (hc:I64 c) (ha:I64 a) (hv:I64 v):(mv18 c a v).Ok:=⟨⟨hc,ha⟩,⟨show I64 0 from⟨by decide,by decide⟩,hv⟩,show I64 1 from⟨by decide,by decide⟩⟩
theorem Zfs:Contract Tryz.prog 78 fun args K=>args=[]∧K [.d (.agg four.enc)]:=by
 refine .of (by kernel_rfl) Zg3 ?_;rintro _ K ⟨rfl,hK⟩ hsm;refine⟨[],rfl,trivial,?_⟩;have i:∀ {v:Int}, -1000≤v∧v≤1000→I64 v:=fun h=>⟨by omega,by omega⟩
 refine Z0 Z3s ⟨1,0,100,i (by omega),i (by omega),i (by omega),rfl,_,rfl,?_⟩;refine Z0 Z3s ⟨1,1,7,i (by omega),i (by omega),i (by omega),rfl,_,rfl,?_⟩;refine Z0 Z1s ⟨[49],false,[mv18 1 0 100,mv18 1 1 7],fun m hm=>by
   simp only [List.mem_cons,List.not_mem_nil,or_false]at hm;rcases hm with rfl|rfl <;> exact Z03 (i (by omega)) (i (by omega)) (i (by omega)),rfl,_,rfl,?_⟩
 refine Z0 Z3s ⟨1,0,200,i (by omega),i (by omega),i (by omega),rfl,_,rfl,?_⟩;refine Z0 Z1s ⟨[50],false,[mv18 1 0 200],fun m hm=>by
   simp only [List.mem_cons,List.not_mem_nil,or_false]at hm;rcases hm with rfl;exact Z03 (i (by omega)) (i (by omega)) (i (by omega)),rfl,_,rfl,?_⟩
 refine Z0 Z3s ⟨1,1,9,i (by omega),i (by omega),i (by omega),rfl,_,rfl,?_⟩;refine Z0 Z1s ⟨[51],true,[mv18 1 1 9],fun m hm=>by
   simp only [List.mem_cons,List.not_mem_nil,or_false]at hm;rcases hm with rfl;exact Z03 (i (by omega)) (i (by omega)) (i (by omega)),rfl,_,rfl,?_⟩
 refine Z0 Z3s ⟨2,0,50,i (by omega),i (by omega),i (by omega),rfl,_,rfl,?_⟩;refine Z0 Z1s ⟨[52],false,[mv18 2 0 50],fun m hm=>by
   simp only [List.mem_cons,List.not_mem_nil,or_false]at hm;rcases hm with rfl;exact Z03 (i (by omega)) (i (by omega)) (i (by omega)),rfl,_,rfl,?_⟩
 exact hK
theorem YH:four.Ok:=by
 have i:∀ {v:Int}, -1000≤v∧v≤1000→I64 v:=fun h=>⟨by omega,by omega⟩
 have hc:∀(n:List UInt8) (b:Bool) (ms:List Mov),(∀m∈ms,m.Ok)→(Z1t n b ms).Ok:=fun n b ms h=>⟨h,by simp [Z1t,zt,Tim.Ok,I64],by simp [Z1t,I64],by simp [Z1t,I64]⟩
 refine⟨by simp [four,I64],by simp [four,I64],fun c hcm=>?_⟩;simp only [four,List.mem_cons,List.not_mem_nil,or_false]at hcm;rcases hcm with rfl|rfl|rfl|rfl <;> refine hc _ _ _ fun m hm=>?_ <;> simp only [List.mem_cons,List.not_mem_nil,or_false]at hm
 · rcases hm with rfl|rfl <;> exact Z03 (i (by omega)) (i (by omega)) (i (by omega))
 · rcases hm with rfl;exact Z03 (i (by omega)) (i (by omega)) (i (by omega))
 · rcases hm with rfl;exact Z03 (i (by omega)) (i (by omega)) (i (by omega))
 · rcases hm with rfl;exact Z03 (i (by omega)) (i (by omega)) (i (by omega))
noncomputable def t175:R:=let x0:T:=Vl (Va 1) (Vl (Va 2) .lnil);let x1:List K:=enKs;let x2:T:=.push .nils (Vl (Va 6) .lnil);.call none (.fn 29) [Vl (Va 0) x0] [.cell (.int .i64)] (.ite (.o2 .ne (Va 3) (Vn 0)) (.ret [.d .nils,.d (Va 3)]) (.fact (.o2 .le (.o1 .len (Va 2)) (Vn 140737488355328)) (.loop 0 [.nils,Vn 0] [.slice [.slice x1],.int .i64] (.ite (.o2 .lt (Va 5) (.o1 .len (Va 2))) (.call none (.fn 73) [Vl (Va 0) x0,Va 5] [.cell (.slice x1)] (.need (.o2 .le (.o1 .len (.o2 .app (Va 4) x2)) (Vn 5864062014805)) (.again 0 [.o2 .app (Va 4) x2,.o2 (.add .i64) (Va 5) (Vn 1)]))) (.ret [.own 1 (Va 4),.d (Vn 0)])))))
end Go.Sx.La
