/-
 Part 11 of the proof: the executor over the kit's code with its soundness, or contracts of functions.
-/
import Derived.Test.YtihpfldadiiinaaGreatDoorFDj
import Derived.Shelf.Spec.SlicesGrow
import Derived.Test.YtihpfldadiiinaaGreatDoorGrow
set_option linter.unusedSimpArgs false
set_option linter.unusedVariables false
set_option linter.unusedSectionVars false
set_option linter.defProp false
set_option maxRecDepth 100000
namespace Go.Sx.La
open Go Go.Sx Go.RowKit Go.Proofs
def YL (l:Lis) (s:List UInt8) (p:Par):Val×Bool:=if Ya l s≠0 then(⟨0,0⟩,false)else(J3 l.cues p (upto l s),true)
theorem c6:J2 Tryz.prog 6=true:=by kernel_rfl
end Go.Sx.La
namespace Go.Sx.La
open Go Go.Sx Go.RowKit Go.Proofs Go.Shelf
theorem growX {P:Program} {f:FuncId} {ρ:Ren} (L:Lays8.n4 P ρ) (hf:ρ.f 4=f) (hcl:J2 P f=true) {ks:List K} (hres:J7 P false (Wp P f)=some [.cell (.slice ks)]) (h0:0 < ks.length)
   (hchk:(match P.info? (ρ.t 25)with|some i=>(match i.zero with|some z=>i.size==ks.length&&z.cells.size==ks.length&&decide (i.bytes≤1000)|none=>false)|none=>false)=true):
   ContractX P f [.own ks,.cell (.int .i64)] false fun args K=>∃n:Nat,n≤1000000∧args=[.own ks.length [],.d (.int .i64 n)]∧K [.own ks.length []]:=by
 obtain⟨i0,z,hi0,hz0,hs,hzs,hby⟩:∃i0 z,P.info? (ρ.t 25)=some i0∧i0.zero=some z∧i0.size=ks.length∧z.cells.size=ks.length∧i0.bytes≤1000:=by
   split at hchk <;> try contradiction
   rename_i i hi;split at hchk <;> try contradiction
   rename_i z hz;simp only [Bool.and_eq_true,beq_iff_eq,decide_eq_true_eq]at hchk;exact⟨i,z,hi,hz,hchk.1.1,hchk.1.2,hchk.2⟩
 refine⟨hcl,?_⟩;rintro _ K ⟨n,hn,rfl,hK⟩ _ w m vs hm hr;have hlen2:vs.length=2:=hr.len
 match vs,hlen2 with
 | [v,u],_=>
 have r0:=hr.rep 0 _ v rfl rfl;have r1:=hr.rep 1 _ u rfl rfl;obtain rfl:u=.int .i64 n:=by cases r1 with|d h=>cases h;rfl
 have hty:Yy P f [] [.own ks.length []]:=by
   intro rk hrk;rw [hres]at hrk;cases hrk;exact⟨[.slice []],rfl,by simp [RK.all,RK.kinds,HasKs,HasK]⟩
 have fin:∀ {e:Ending} {w':World} {v':Value},e=.returned v'→RepR m w' (fun b=>w.heap.size≤b∨Yb [.own ks.length [],.d (.int .i64 n)] [v,.int .i64 n] b) (.own ks.length []) v'→MemOk m w'→Apart (Yb [.own ks.length [],.d (.int .i64 n)] [v,.int .i64 n]) w w'→
     ∃ rs us v_1 m',K rs∧Yy P f (if false=true then Za [.own ks,.cell (.int .i64)]else []) rs∧e=.returned v_1∧v_1=Z0i us∧
       RepRs m' w' (fun b=>w.heap.size≤b∨Yb [.own ks.length [],.d (.int .i64 n)] [v,.int .i64 n] b) rs (us++if false=true then Z5 [.own ks.length [],.d (.int .i64 n)] [v,.int .i64 n]else [])∧
       m.le m'∧MemOk m' w'∧(∀b,b < w.heap.size→¬Yb [.own ks.length [],.d (.int .i64 n)] [v,.int .i64 n] b→m' b=m b)∧Apart (Yb [.own ks.length [],.d (.int .i64 n)] [v,.int .i64 n]) w w':=by
   intro e w' v' he hrep hmo hap;refine⟨[.own ks.length []],[v'],v',m,hK,hty,he,by simp [Z0i],⟨rfl,?_,?_⟩,Mem.le_refl m,hmo,fun _ _ _=>rfl,hap⟩
   · intro i r u h1 h2;cases i with
     |zero=>simp at h1 h2;subst h1 h2;exact hrep
     |succ i=>simp at h1
   · intro i j r r' u u' b hne h1 h2;cases i with
     |succ i=>simp at h1
     | zero=>cases j with
       |zero=>exact absurd rfl hne
       |succ j=>simp at h2
 have hfresh:m w.heap.size=none:=by
   cases hh:m w.heap.size with
   |none=>rfl
   |some o=>exact absurd (hm.lt hh) (Nat.lt_irrefl _)
 have alloc_at:∀(W:World) (o:Obj),(W.alloc o).heap[W.heap.size]? =some o:=fun W o=>by
   show(W.heap.push o)[W.heap.size]? =some o;simp
 have new:∀(base:Option Addr) (c:Nat) (cs:List Value),v=.slice base 0 c→c < n→cs.length=c * ks.length→(base=none→c=0)→(∀a,base=some a→∀j v,cs[j]? =some v→w.cell? (a.add j)=some v)→
     Calls P f #[v,.int .i64 n] w fun e w'=>∃rs us v_1 m',K rs∧Yy P f (if false=true then Za [.own ks,.cell (.int .i64)]else []) rs∧e=.returned v_1∧v_1=Z0i us∧
       RepRs m' w' (fun b=>w.heap.size≤b∨Yb [.own ks.length [],.d (.int .i64 n)] [v,.int .i64 n] b) rs (us++if false=true then Z5 [.own ks.length [],.d (.int .i64 n)] [v,.int .i64 n]else [])∧
       m.le m'∧MemOk m' w'∧(∀b,b < w.heap.size→¬Yb [.own ks.length [],.d (.int .i64 n)] [v,.int .i64 n] b→m' b=m b)∧Apart (Yb [.own ks.length [],.d (.int .i64 n)] [v,.int .i64 n]) w w':=by
   rintro base c cs rfl hcn hcl' hnil hcs;have hmul:n * i0.bytes≤1000000 * 1000:=Nat.mul_le_mul hn hby;have:=Any8.slices_Grow_grow L i0 z hi0 hz0 (by omega) base 0 c n cs w (Nat.zero_le _) (by omega) (by rw [Nat.zero_add];omega) (by omega) (by rw [hs];exact hcl') hnil hcs;rw [hf]at this;refine this.mono ?_;rintro e w' ⟨he,rfl⟩;have hG:n≤grownCap w (0+n) c (ρ.t 25):=by have:=grownCap_ge w (0+n) c (ρ.t 25);omega
   have hGm:grownCap w (0+n) c (ρ.t 25)≤maxLen:=grownCap_le_maxLen w (0+n) c (ρ.t 25) (by unfold maxLen;omega);generalize grownCap w (0+n) c (ρ.t 25)=G at he hG hGm ⊢;refine fin he (.own (xs:=[]) (.inl (Nat.le_refl _)) hfresh (alloc_at w.drew _) (by omega) (Nat.zero_le _) hGm (Nat.zero_le _) ?_ (by simp) (by simp)) ?_ ⟨rfl,rfl,rfl,Nat.le_succ _,by show w.heap.size≤(w.heap.push _).size;simp,fun b hb _=>heap_alloc_old w.drew _ hb⟩
   · have hz:∀k,(Builtin.zeroCells z.cells k).size=k * ks.length:=fun k=>by simp [Builtin.zeroCells,hzs]
     simp only [Array.size_append,List.size_toArray,hz,hcl',Nat.zero_add];rw [←Nat.add_mul, ←Nat.add_mul];congr 1;omega
   · intro b o hb;rw [heap_alloc_old w.drew _ (hm.lt hb)];exact hm b o hb
 have old:∀(base:Option Addr) (c:Nat),v=.slice base 0 c→n≤c→c≤maxLen→RepR m w (fun b=>w.heap.size≤b∨Yb [.own ks.length [],.d (.int .i64 n)] [v,.int .i64 n] b) (.own ks.length []) v→
     Calls P f #[v,.int .i64 n] w fun e w'=>∃rs us v_1 m',K rs∧Yy P f (if false=true then Za [.own ks,.cell (.int .i64)]else []) rs∧e=.returned v_1∧v_1=Z0i us∧
       RepRs m' w' (fun b=>w.heap.size≤b∨Yb [.own ks.length [],.d (.int .i64 n)] [v,.int .i64 n] b) rs (us++if false=true then Z5 [.own ks.length [],.d (.int .i64 n)] [v,.int .i64 n]else [])∧
       m.le m'∧MemOk m' w'∧(∀b,b < w.heap.size→¬Yb [.own ks.length [],.d (.int .i64 n)] [v,.int .i64 n] b→m' b=m b)∧Apart (Yb [.own ks.length [],.d (.int .i64 n)] [v,.int .i64 n]) w w':=by
   rintro base c rfl hcn hcm hrep;have:=Any8.slices_Grow_room L base 0 c n w (Nat.zero_le _) (by unfold maxLen at hcm;omega) (by omega) (by omega);rw [hf]at this;refine this.mono ?_;rintro e w' ⟨he,rfl⟩;exact fin he hrep hm ⟨rfl,rfl,rfl,Nat.le_refl _,Nat.le_refl _,fun _ _ _=>rfl⟩
 cases r0 with
 | none=>
   rcases Nat.eq_zero_or_pos n with h|h
   · exact old _ 0 rfl (by omega) (Nat.zero_le _) .none
   · exact new _ 0 [] rfl h (by simp) (fun _=>rfl) (by simp)
 | @own _ _ b c arr t hB hmb hb h0c hc hcc hcap hsz he hv=>
   rcases Nat.lt_or_ge c n with h|h
   · refine new _ c arr.toList rfl h (by simpa using hsz) (fun h=>by cases h) ?_;intro ad had j v hj;cases had;have ea:(⟨b,0,none⟩:Addr).add j=⟨b,j,none⟩:=by
       simp only [Addr.add];split
       · rename_i h0;rw [h0]
       · simp
     rw [ea];simp only [World.cell?,hb];simpa using hj
   · exact old _ c rfl h hcc (.own (.inr ⟨0,_,_,rfl,rfl,rfl,by simp [blk];omega⟩) hmb hb h0c hc hcc hcap hsz (by simp) (by simp))
end Go.Sx.La
namespace Go.Sx.La
open Go Go.Sx Go.RowKit Go.Proofs
def ZdH (a b:Lis) (s:List UInt8):Prop:=∀c∈a.cues,c.num≠s→∀p,p.Ok→∃v,YL a c.num p=(v,true)∧YL b c.num p=(v,true)
theorem Z0L {l:Lis} (h:J4 Y2 l=0) {i:Nat} (hi:i < l.cues.length) (p:Par):YL l l.cues[i].num p=(J3 l.cues p (i+1),true):=by
 obtain⟨h1,h2,_⟩:=Z2Z h hi;unfold YL;rw [if_neg (by simp [h1]),h2]
structure Less (l:Lis) (A:List Cue) (c:Cue) (B:List Cue) (out:List Cue):Prop where
 len:out.length+1=l.cues.length
 ck:J4 Y2 {l with cues:=out}=0
 ok:Lis.Ok {l with cues:=out}
 nums:out.map (·.num)=(A++B).map (·.num)
theorem Z7a {l:Lis} {s:List UInt8} {A B:List Cue} {c:Cue} (hl:l.Ok) (hA:Around l s A c B) (keep:Bool) (hr:(WN l s keep).2=0) (h1:Ya l s=0):
   (WN l s keep).1= {l with cues:=W9 l.cues s keep}∧Less l A c B (W9 l.cues s keep):=by
 have hda:=Zp hA keep;have hRL:=Zc hA.ck;have hlen:l.cues.length=A.length+B.length+1:=by rw [hA.eq];simp;omega
 have h64:=hRL.len;have hsub:∀x∈A++B,x∈l.cues:=fun x hx=>by rw [hA.eq];simp at hx ⊢;rcases hx with h|h <;> simp [h]
 have hck2:=Z45 hA.ck hA.eq;unfold WN at hr ⊢;rw [if_neg (by simp [h1])]at hr ⊢;have e1:(Wq {l with cues:=W9 l.cues s keep}).1= {l with cues:=W9 l.cues s keep}∧∀x∈W9 l.cues s keep,x.moves.length≤128:=by
   unfold Wq at hr ⊢;split at hr
   · cases hr
   · rename_i h;rw [if_neg h];refine⟨rfl,fun x hx=>?_⟩;simp only [not_or,List.any_eq_true,not_exists,not_and,decide_eq_true_eq]at h;have:=h.2 x hx;omega
 have hnum:(W9 l.cues s keep).map (·.num)=(A++B).map (·.num):=by
   rw [hda];cases B with
   |nil=>simp
   |cons d B'=>simp only;split <;> simp [setC]
 have hln:(W9 l.cues s keep).length+1=l.cues.length:=by
   have:=congrArg List.length hnum;simp at this;omega
 refine⟨e1.1,hln,?_,{hl with cues:=Za0 hl hA keep},hnum⟩;refine Z1V (by exact Z5S (l:=l) hA.ck) (by show(W9 l.cues s keep).length≤64;omega) (fun x hx=>?_) (Z22 hnum (Zc hck2).rising);have hx0:x∈W9 l.cues s keep:=hx;have hx2:=e1.2 x hx0;rw [hda]at hx0;cases B with
 |nil=>exact hRL.cues x (hsub x (by simpa using hx0))
 | cons d B'=>
   simp only at hx0;split at hx0
   · exact hRL.cues x (hsub x hx0)
   · rcases List.mem_append.1 hx0 with h|h
     · exact hRL.cues x (hsub x (by simp [h]))
     rcases List.mem_cons.1 h with rfl|h
     · have hd16:=hRL.cues d (hsub d (by simp));exact JX hd16 (Z0v hl hA.ck _ _) (by decide) (by have:=(Z2A hd16).one;omega) (by omega)
     · exact hRL.cues x (hsub x (by simp [h]))
theorem Z7b {l:Lis} {s:List UInt8} {A B:List Cue} {c:Cue} (hl:l.Ok) (hA:Around l s A c B) (hL:Less l A c B (W9 l.cues s true)) (t:List UInt8):ZdH {l with cues:=W9 l.cues s true} l t:=by
 intro x hx _ p _;obtain⟨j,hj,rfl⟩:=List.mem_iff_getElem.1 hx;have hj:j < (W9 l.cues s true).length:=hj;refine⟨_,Z0L hL.ck hj p,?_⟩;obtain⟨k1,k2⟩:=Z60 hA p;have hlen:=hL.len;have hn:∀k,k < l.cues.length→(A++B)[j]? =l.cues[k]?→(W9 l.cues s true)[j].num=(l.cues[k]?.map (·.num)).getD []:=fun k _ hk=>by
   have:=congrArg (fun x=>x[j]?) hL.nums;simp only [List.getElem?_map,hk,List.getElem?_eq_getElem hj,Option.map_some]at this;rw [←this];rfl
 rcases Nat.lt_or_ge j A.length with h|h
 · have hj2:j < l.cues.length:=by omega
   have e:(W9 l.cues s true)[j].num=l.cues[j].num:=by
     rw [hn j hj2 (by rw [hA.eq,List.getElem?_append_left h,List.getElem?_append_left h]),List.getElem?_eq_getElem hj2];rfl
   show YL l (W9 l.cues s true)[j].num p=_;rw [e,Z0L hA.ck hj2,k1 j h]
 · have hj2:j+1 < l.cues.length:=by omega
   have e:(W9 l.cues s true)[j].num=l.cues[j+1].num:=by
     rw [hn (j+1) hj2 (by rw [hA.eq,List.getElem?_append_right h,List.getElem?_append_right (by omega),show j+1 - A.length=(j - A.length)+1 by omega,List.getElem?_cons_succ]),List.getElem?_eq_getElem hj2];rfl
   show YL l (W9 l.cues s true)[j].num p=_;rw [e,Z0L hA.ck hj2,k2 j h hj]
theorem JZ {l:Lis} (h:J4 Y2 l=0) {P Q:List Cue} {c:Cue} (he:l.cues=P++c::Q) (p:Par):YL l c.num p=(vl (c::P.reverse) p,true):=by
 have hi:P.length < l.cues.length:=by rw [he];simp
 have hc:l.cues[P.length]=c:=by
   have:l.cues[P.length]? =some c:=by rw [he];simp
   exact(List.getElem?_eq_some_iff.1 this).2
 have:=Z0L h hi p;rw [hc]at this;rw [this,Jp _ p _ (by omega),he,show P++c::Q=(P++[c])++Q by simp,List.take_left' (by simp)];simp
structure RecF (l:Lis) (s:List UInt8) (es:List Ent) (only:Bool) (out:List Cue):Prop where
 ok:Lis.Ok {l with cues:=out}
 ck:J4 Y2 {l with cues:=out}=0
 len:out.length≤l.cues.length+1
 val:∀e∈es,YL {l with cues:=out} s e.pa=(e.va,true)
 alike:only=true→ZdH l {l with cues:=out} s
 nums:(out.map (·.num)).filter (fun x=>!(x==s))=(l.cues.map (·.num)).filter (fun x=>!(x==s))
set_option maxHeartbeats 1000000 in
theorem Z6r {l:Lis} {s:List UInt8} {es:List Ent} {part:Int} {only:Bool} (hl:l.Ok) (hes:∀e∈es,e.Ok) (hp:I64 part) (h1:J4 Y2 l=0) (h2:W3 s=0) (h3:Yj es=0) (hr:(YI l s es part only).2=0):
   (YI l s es part only).1= {l with cues:=Yg l.cues s es part only}∧RecF l s es only (Yg l.cues s es part only):=by
 have hRL:=Zc h1;have hRT:=Zf hl h1;have hE:=Z0U hes h3;obtain⟨A,X,B,hS⟩:=ZU h2 hRL.rising hRL.num;have hold:=Z3q hl h1 h2 hS;unfold YI at hr ⊢;rw [if_neg (by simp [h1]),if_neg (by simp [h2]),if_neg (by simp [h3])]at hr ⊢;split at hr
 · cases hr
 rename_i hpart;rw [if_neg hpart];have e1:(Wq {l with cues:=Yg l.cues s es part only}).1= {l with cues:=Yg l.cues s es part only}∧(Yg l.cues s es part only).length≤64∧∀x∈Yg l.cues s es part only,x.moves.length≤128:=by
   unfold Wq at hr ⊢;split at hr
   · cases hr
   · rename_i h;rw [if_neg h];simp only [not_or,List.any_eq_true,not_exists,not_and,decide_eq_true_eq]at h;exact⟨rfl,by have:=h.1;omega,fun x hx=>by have:=h.2 x hx;omega⟩
 obtain⟨e1,e2,e3⟩:=e1;have hok:=Z97 hl h1 h2 hes hp only;have hsub:∀x,x∈A∨x∈B→x∈l.cues:=fun x hx=>by rw [hS.eq];simp;rcases hx with h|h <;> simp [h]
 have hnn:=hE.es.nodup;have hcn:(setC (oldC l.cues s) es part).num=s:=by rw [Z2M];exact Z11 hS
 obtain⟨R,hrec,hRn,hR16,hRa⟩:∃R,Yg l.cues s es part only=A++setC (oldC l.cues s) es part::R∧R.map (·.num)=B.map (·.num)∧(∀x∈R,x.moves.length≤128→J5 x=0)∧
     (only=true→∀P c Q,B=P++c::Q→∃P' c' Q',R=P'++c'::Q'∧c'.num=c.num∧∀p,vl (c::(A++X++P).reverse) p=vl (c'::(A++setC (oldC l.cues s) es part::P').reverse) p):=by
   rcases YG hS hRL.rising es part only with⟨rfl,hr'⟩|⟨d,B',rfl,hr'⟩
   · exact⟨[],hr',rfl,by simp,fun _ P c Q h=>by simp at h⟩
   · refine⟨_,hr',by simp only [List.map_cons];split <;> simp [setC],fun x hx hm=>?_,fun ho=>?_⟩
     · rcases List.mem_cons.1 hx with rfl|hx
       · have hd16:=hRL.cues d (hsub d (by simp));split at hm
         · rename_i h;rw [if_pos h];exact hd16
         · rename_i h;rw [if_neg h];exact JX hd16 (Z3A hE.es fun p=>Z0c h1 p _) (by decide) (by have:=(Z2A hd16).one;omega) (by omega)
       · exact hRL.cues x (hsub x (by simp [hx]))
     · intro P c Q hB;subst ho;have key:=ZcY (A:=A) (X:=X) (c':=setC (oldC l.cues s) es part) (old:=oldC l.cues s) (d:=d) (es:=es) (part:=part) (cs:=l.cues) hnn (fun p=>Z20 (by rw [hS.eq]) p) rfl (by
         rcases Z0e hS with⟨_,g,rfl⟩|⟨j,hj,_,g,rfl⟩
         · exact .inl ⟨rfl,s,g⟩
         · exact .inr (by rw [g]))
       have hcond:(if true=false∨d.block=true then d else setC d (JE l.cues ((A++X).length+1) d es) 1)=(if d.block=true then d else setC d (JE l.cues ((A++X).length+1) d es) 1):=by simp
       rw [hcond];cases P with
       | nil=>
         simp only [List.nil_append,List.cons.injEq]at hB;obtain⟨rfl,rfl⟩:=hB;refine⟨[],_,B',rfl,by split <;> simp [setC],fun p=>?_⟩;rw [List.append_nil,key p];simp
       | cons x P=>
         simp only [List.cons_append,List.cons.injEq]at hB;obtain⟨rfl,rfl⟩:=hB;refine⟨_::P,c,Q,rfl,rfl,fun p=>?_⟩;have:=Z7h key p (c::P.reverse);simpa using this
 have hnum:(Yg l.cues s es part only).map (·.num)=(A++setC (oldC l.cues s) es part::B).map (·.num):=by rw [hrec];simp [hRn]
 have hris:Zs (A++setC (oldC l.cues s) es part::B):=by
   have hr0:=hRL.rising;rw [hS.eq]at hr0;obtain⟨q1,q2,q3⟩:=List.pairwise_append.1 hr0;have hv:Wl (setC (oldC l.cues s) es part)=We s:=by unfold Wl;rw [hcn]
   refine List.pairwise_append.2 ⟨(List.pairwise_append.1 q1).1,List.pairwise_cons.2 ⟨fun b hb=>by rw [hv];exact hS.hi b hb,q2⟩,fun a ha b hb=>?_⟩;rcases List.mem_cons.1 hb with rfl|hb
   · rw [hv];exact hS.lo a ha
   · exact Int.lt_trans (hS.lo a ha) (hS.hi b hb)
 have hck:J4 Y2 {l with cues:=Yg l.cues s es part only}=0:=by
   refine Z1V (by exact Z5S (l:=l) h1) e2 (fun x hx=>?_) (Z22 hnum hris);have hx0:x∈Yg l.cues s es part only:=hx;have hx2:=e3 x hx0;rw [hrec]at hx0;rcases List.mem_append.1 hx0 with h|h
   · exact hRL.cues x (hsub x (.inl h))
   rcases List.mem_cons.1 h with rfl|h
   · exact JX hold.2 hE.es (by omega) (by omega) (by omega)
   · exact hR16 x h hx2
 refine⟨e1,⟨{hl with cues:=hok},hck,?_,fun e he=>?_,fun ho c hc hcs p _=>?_,?_⟩⟩
 · have h5:=congrArg List.length hnum;have h6:=congrArg List.length hS.eq;simp only [List.length_map,List.length_append,List.length_cons]at h5 h6;omega
 · have:=JZ hck (P:=A) (Q:=R) (c:=setC (oldC l.cues s) es part) hrec e.pa;rw [hcn]at this;rw [this,Z7r hnn,Zdm hnn he]
 · have hc':=hc;rw [hS.eq]at hc';have hin:c∈A∨c∈B:=by
     rcases List.mem_append.1 hc' with h|h
     · rcases List.mem_append.1 h with h|h
       · exact .inl h
       · rcases hS.x with rfl|⟨x,rfl,hx⟩
         · cases h
         · simp at h;subst h;exact absurd hx hcs
     · exact .inr h
   rcases hin with h|h
   · obtain⟨P,Q,rfl⟩:=List.append_of_mem h;refine⟨_,JZ h1 (P:=P) (Q:=Q++X++B) (by rw [hS.eq];simp) p,JZ hck (P:=P) (Q:=Q++setC (oldC l.cues s) es part::R) (by show Yg _ _ _ _ _=_;rw [hrec];simp) p⟩
   · obtain⟨P,Q,hB⟩:=List.append_of_mem h;obtain⟨P',c',Q',hR,hn,hv⟩:=hRa ho P c Q hB;refine⟨_,JZ h1 (P:=A++X++P) (Q:=Q) (by rw [hS.eq,hB];simp) p,?_⟩;have:=JZ hck (P:=A++setC (oldC l.cues s) es part::P') (Q:=Q') (c:=c') (by show Yg _ _ _ _ _=_;rw [hrec,hR];simp) p;rw [hn]at this;rw [this,hv p]
 · have hX:(X.map (·.num)).filter (fun x=>!(x==s))=[]:=by
     rcases hS.x with rfl|⟨x,rfl,hx⟩
     · rfl
     · simp [hx]
   rw [hnum]
   conv=>rhs;rw [hS.eq]
   simp only [List.map_append,List.map_cons,List.filter_append,hX,List.append_nil,hcn];simp
theorem YH {l:Lis} {s:List UInt8} {p:Par} {v:Val} (h:YL l s p=(v,true)):Ya l s=0∧J3 l.cues p (upto l s)=v:=by
 unfold YL at h;split at h
 · simp at h
 · rename_i h1;simp only [Prod.mk.injEq,and_true]at h;exact⟨by simpa using h1,h⟩
theorem Z1g (cs:List Cue) (m n:Nat):∀ps:List Par,Z1h (ps.map fun p=>⟨p,J3 cs p m⟩) (ps.map fun p=>⟨p,J3 cs p n⟩)=(ps.filter fun p=>decide (J3 cs p m≠J3 cs p n)).map fun p=>(⟨p,J3 cs p n⟩:Ent)
 | []=>rfl
 | p::ps=>by
   simp only [List.map_cons,Z1h,Z1g cs m n ps];by_cases h:J3 cs p m=J3 cs p n
   · simp [h]
   · simp [h]
theorem ZbA {cs ds:List Cue} {m n m' n':Nat} (hm:m≤cs.length) (hn:n≤cs.length) (hm':m'≤ds.length) (hn':n'≤ds.length)
   (h1:∀p,p∈Yd cs∨p∈Yd ds→J3 cs p m=J3 ds p m'∧J3 cs p n=J3 ds p n'):Z1h (Ja cs m) (Ja cs n)=Z1h (Ja ds m') (Ja ds n'):=by
 have home:∀ {cs:List Cue} {m:Nat} {p:Par},m≤cs.length→p∉Yd cs→J3 cs p m=hval:=fun {cs m p} hm hp=>by
   rw [Jp _ p _ hm,Z31 fun c hc=>Z3s hp c (List.mem_of_mem_take (List.mem_reverse.1 hc))]
 unfold Ja;rw [Z1g,Z1g];have e:(Yd cs).filter (fun p=>decide (J3 cs p m≠J3 cs p n))=(Yd ds).filter fun p=>decide (J3 ds p m'≠J3 ds p n'):=by
   refine Z1A ((Zw cs).filter _) ((Zw ds).filter _) fun p=>?_
   simp only [List.mem_filter,decide_eq_true_eq];constructor
   · rintro⟨hp,hd⟩;obtain⟨q1,q2⟩:=h1 p (.inl hp);refine⟨?_,by rw [←q1, ←q2];exact hd⟩;rcases Decidable.em (p∈Yd ds)with h|h
     · exact h
     · exact absurd (by rw [q1,q2,home hm' h,home hn' h]) hd
   · rintro⟨hp,hd⟩;obtain⟨q1,q2⟩:=h1 p (.inr hp);refine⟨?_,by rw [q1,q2];exact hd⟩;rcases Decidable.em (p∈Yd cs)with h|h
     · exact h
     · exact absurd (by rw [←q1, ←q2,home hm h,home hn h]) hd
 rw [e];refine List.map_congr_left fun p hp=>?_
 rw [(h1 p (.inr (List.mem_filter.1 hp).1)).2]
theorem Z9a {cs:List Cue} {s:List UInt8} (h:place cs s < 0):∀c∈cs,c.num≠s:=by
 unfold place at h;rcases Yr (fun c:Cue=>c.num==s) cs 0 with⟨_,h2⟩|⟨j,hj,h2,_⟩
 · exact fun c hc=>by simpa using h2 c hc
 · rw [h2]at h;omega
structure Back (l a b:Lis):Prop where
 len:b.cues.length=l.cues.length
 val:∀i (hi:i < l.cues.length) p,p.Ok→∃v,YL l l.cues[i].num p=(v,true)∧YL a l.cues[i].num p=(v,true)∧YL b l.cues[i].num p=(v,true)
theorem Zgf {l:Lis} {s:List UInt8} {es:List Ent} {outA outB A B:List Cue} {c:Cue} (hl:l.Ok) (hck:J4 Y2 l=0) (hp:place l.cues s < 0) (F:RecF l s es true outA) (hA:Around {l with cues:=outA} s A c B)
   (hB:outB=W9 outA s true) (L:Less {l with cues:=outA} A c B outB):Back l {l with cues:=outA} {l with cues:=outB}:=by
 have hno:=Z9a hp;have hwo:without outA s=A++B:=hA.wo;have hnum:outB.map (·.num)=l.cues.map (·.num):=by
   rw [L.nums, ←hwo];unfold La.without;rw [show(outA.filter fun c=>!(c.num==s)).map (·.num)=(outA.map (·.num)).filter (fun x=>!(x==s)) by rw [List.filter_map];rfl,F.nums];refine List.filter_eq_self.2 fun x hx=>?_
   obtain⟨c,hc,rfl⟩:=List.mem_map.1 hx;simpa using hno c hc
 have hlen:outB.length=l.cues.length:=by simpa using congrArg List.length hnum
 refine⟨hlen,fun i hi p hpo=>?_⟩;have hi2:i < outB.length:=by omega
 have hn:outB[i].num=l.cues[i].num:=by
   have:=congrArg (fun x=>x[i]?) hnum;simpa [hi,hi2]using this
 obtain⟨v,v1,v2⟩:=F.alike rfl l.cues[i] (List.getElem_mem hi) (hno _ (List.getElem_mem hi)) p hpo;subst hB;obtain⟨v',w1,w2⟩:=Z7b F.ok hA L s (W9 outA s true)[i] (List.getElem_mem hi2) (by rw [hn];exact hno _ (List.getElem_mem hi)) p hpo;rw [hn]at w1 w2;rw [v2]at w2;simp only [Prod.mk.injEq,and_true]at w2;subst w2;exact⟨v,v1,v2,w1⟩
noncomputable def t141:R:=.fact (.o2 .le (.o1 .len (Va 0)) (Vn 140737488355328)) (.loop 0 [Vn 0] [.int .i64] (.ite (.o2 .lt (Va 2) (.o1 .len (Va 0))) (.need (.o2 .le (Vn 0) (Va 2)) (.call none (.val (Va 1)) [Vl (.idx (Va 0) (Va 2) 0 (.int .i64)) (Vl (.idx (Va 0) (Va 2) 1 (.int .i64)) (Vl (.idx (Va 0) (Va 2) 2 (.int .i64)) (Vl (.idx (Va 0) (Va 2) 3 (.int .i64)) .lnil)))] [.cell .bool] (.ite (Va 3) (.ret [.d (Va 2)]) (.again 0 [.o2 (.add .i64) (Va 2) (Vn 1)])))) (.ret [.d (Vn (-1))])))
theorem Zf2:fnO Tryz.prog mdA 141 [.cell (.slice enKs),.cell .fn]=t141:=by kernel_rfl
theorem Z3D:Contract Tryz.prog 141 fun args K=>∃(l:List Ent) (p:Ent→Bool) (f:FuncId) (caps:List D),(∀m∈l,m.Ok)∧args=[.slice (l.map Ent.enc),.clo f caps]∧Yp Tryz.prog (.clo f caps) Ent.enc l p∧K [.d (.int .i64 (ZA p 0 l))]:=by
 refine .of (by kernel_rfl) Zf2 ?_;rintro _ K ⟨l,p,f,caps,hl,rfl,⟨sf,hf,hs⟩,hK⟩ hsm;refine⟨[.slice (l.map Ent.enc),.clo f caps],rfl,by exact⟨Zi hl,trivial,trivial⟩,?_⟩;simp only [zz,reduceCtorEq,t141,List.length_map];intro hcap;refine Jc l (fun i l' (_:Unit)=>ZA p i l') (fun i _=>[.int .i64 i]) () _ rfl 0 (fun _ _=>rfl) rfl ?_ ?_
 · intro i hi _ hgo;simp only [ZA]at hgo;simp only [zz,reduceCtorEq,hi,List.length_map];refine⟨by omega,W6 (FvC.up' (s:=sf) (fv:=.clo f caps) hf) ⟨fun rs=>rs=[.d (.bool (p l[i]))],?_,fun rs h=>⟨[.bool (p l[i])],by rw [h];rfl,by simp [RK.all,RK.kinds,HasKs,HasK],?_⟩⟩⟩
   · simp only [zz,reduceCtorEq,J0 hi,Ent.enc];exact hs l[i] (List.getElem_mem hi)
   · simp only [zz,reduceCtorEq];grind [Z1]
 · intro _ hgo;simp only [ZA]at hgo;simp only [zz,reduceCtorEq,List.length_map];rw [←hgo]at hK;exact hK
noncomputable def t103:R:=let x0:T:=Vl (Va 1) (Vl (Va 2) .lnil);let x1:List K:=enKs;let x2:T:=Vl .nils (Vl .nils .lnil);.call none (.fn 18) [Vl (Va 0) x0,Va 3] [.cell (.slice x1),.cell (.int .i64)] (.ite (.o2 .ne (Va 5) (Vn 0)) (.ret [.d x2,.d (Vn 0),.d (Va 5)]) (.call none (.fn 175) [Vl (Va 0) x0] [.cell (.slice [.slice x1]),.cell (.int .i64)] (.ite (.o2 .ne (Va 7) (Vn 0)) (.ret [.d x2,.d (Vn 0),.d (Va 7)]) (.call none (.fn 31) [Va 2,.clo 176 (Vl (.ptr (Vl (Va 3) .lnil)) .lnil)] [.cell (.int .i64)] (.ret [.d (Vl (Va 2) (Vl (Va 6) .lnil)),.d (Va 8),.d (Vn 0)])))))
theorem ZfF:fnO Tryz.prog mdA 103 [.agg liKs,.cell .str]=t103:=by kernel_rfl
noncomputable def t176:R:=.ret [.d (.o2 .eq (Va 0) (.fld (Va 9) 0 .str))]
theorem ZeB:fnO Tryz.prog mdA 176 ([.agg J9]++[.cell (.ptr [.str])])=t176:=by kernel_rfl
theorem c176:J2 Tryz.prog 176=true:=by kernel_rfl
noncomputable def t178:R:=let x0:T:=Vl (Va 3) (Vl (Va 4) (Vl (Va 5) (Vl (Va 6) (Vl (Va 7) (Vl (Va 8) (Vl (Va 9) (Vl (Va 10) (Vl (Va 11) (Vl (Va 12) (Vl (Va 13) (Vl (Va 14) (Vl (Va 15) (Vl (Va 16) (Vl (Va 17) (Vl (Va 18) .lnil)))))))))))))));let x1:List K:=[.int .u64,.int .u64,.int .u64,.int .u64,.int .u64,.int .u64,.int .u64,.int .u64,.int .u64,.int .u64,.int .u64,.int .u64,.int .u64,.int .u64,.int .u64,.int .u64];let x2:T:=.o2 (.sub .i64) (Va 2) (Vn 1);let x3:List K:=mvKs;let x4:List K:=enKs;.ite (.o2 .lt (Va 2) (Vn 0)) (.ret [.d .nils]) (.need (.o2 .le (Vn 0) (Va 2)) (.need (.o2 .lt (Va 2) (.o1 .len (Va 1))) (.call none (.fn 214) [.idx (Va 1) (Va 2) 0 (.slice x4)] [.agg x1] (.ite (.o2 .gt (Va 2) (Vn 0)) (.need (.o2 .le (Vn 0) x2) (.need (.o2 .lt x2 (.o1 .len (Va 1))) (.call none (.fn 214) [.idx (Va 1) x2 0 (.slice x4)] [.agg x1] (.call none (.fn 215) [Vl (Va 0) (Vl (Va 1) .lnil),.o2 (.add .i64) (Va 2) (Vn 1),.clo 216 (Vl (.ptr x0) (Vl (.ptr (Vl (Va 19) (Vl (Va 20) (Vl (Va 21) (Vl (Va 22) (Vl (Va 23) (Vl (Va 24) (Vl (Va 25) (Vl (Va 26) (Vl (Va 27) (Vl (Va 28) (Vl (Va 29) (Vl (Va 30) (Vl (Va 31) (Vl (Va 32) (Vl (Va 33) (Vl (Va 34) .lnil))))))))))))))))) .lnil))] [.cell (.slice x3)] (.ret [.d (Va 35)]))))) (.call none (.fn 215) [Vl (Va 0) (Vl (Va 1) .lnil),.o2 (.add .i64) (Va 2) (Vn 1),.clo 216 (Vl (.ptr x0) (Vl (.ptr (Vl (.int .u64 0) (Vl (.int .u64 0) (Vl (.int .u64 0) (Vl (.int .u64 0) (Vl (.int .u64 0) (Vl (.int .u64 0) (Vl (.int .u64 0) (Vl (.int .u64 0) (Vl (.int .u64 0) (Vl (.int .u64 0) (Vl (.int .u64 0) (Vl (.int .u64 0) (Vl (.int .u64 0) (Vl (.int .u64 0) (Vl (.int .u64 0) (Vl (.int .u64 0) .lnil))))))))))))))))) .lnil))] [.cell (.slice x3)] (.ret [.d (Va 19)]))))))
theorem Zez:fnO Tryz.prog mdA 178 [.agg [.slice J9,.slice [.slice enKs]],.cell (.int .i64)]=t178:=by kernel_rfl
noncomputable def t216:R:=.call none (.fn 217) [Vl (.fld (Va 5) 0 (.int .u64)) (Vl (.fld (Va 5) 1 (.int .u64)) (Vl (.fld (Va 5) 2 (.int .u64)) (Vl (.fld (Va 5) 3 (.int .u64)) (Vl (.fld (Va 5) 4 (.int .u64)) (Vl (.fld (Va 5) 5 (.int .u64)) (Vl (.fld (Va 5) 6 (.int .u64)) (Vl (.fld (Va 5) 7 (.int .u64)) (Vl (.fld (Va 5) 8 (.int .u64)) (Vl (.fld (Va 5) 9 (.int .u64)) (Vl (.fld (Va 5) 10 (.int .u64)) (Vl (.fld (Va 5) 11 (.int .u64)) (Vl (.fld (Va 5) 12 (.int .u64)) (Vl (.fld (Va 5) 13 (.int .u64)) (Vl (.fld (Va 5) 14 (.int .u64)) (Vl (.fld (Va 5) 15 (.int .u64)) .lnil))))))))))))))),Va 0] [.cell .bool] (.call (some (.o1 .not (Va 7))) (.fn 217) [Vl (.fld (Va 6) 0 (.int .u64)) (Vl (.fld (Va 6) 1 (.int .u64)) (Vl (.fld (Va 6) 2 (.int .u64)) (Vl (.fld (Va 6) 3 (.int .u64)) (Vl (.fld (Va 6) 4 (.int .u64)) (Vl (.fld (Va 6) 5 (.int .u64)) (Vl (.fld (Va 6) 6 (.int .u64)) (Vl (.fld (Va 6) 7 (.int .u64)) (Vl (.fld (Va 6) 8 (.int .u64)) (Vl (.fld (Va 6) 9 (.int .u64)) (Vl (.fld (Va 6) 10 (.int .u64)) (Vl (.fld (Va 6) 11 (.int .u64)) (Vl (.fld (Va 6) 12 (.int .u64)) (Vl (.fld (Va 6) 13 (.int .u64)) (Vl (.fld (Va 6) 14 (.int .u64)) (Vl (.fld (Va 6) 15 (.int .u64)) .lnil))))))))))))))),Va 0] [.cell .bool] (.ret [.d (.ite (.o1 .not (Va 7)) (.o1 .not (Va 8)) (.bool false))]))
theorem Ze0:fnO Tryz.prog mdA 216 ([.agg mvKs]++[.cell (.ptr chKs),.cell (.ptr chKs)])=t216:=by kernel_rfl
theorem c216:J2 Tryz.prog 216=true:=by kernel_rfl
noncomputable def t215:R:=let x0:List K:=mvKs;let x2:T:=.o1 .len (Va 0);let x3:T:=.o2 .lt (Va 2) (Vn 0);let x4:T:=.o2 .le (Vn 0) (Va 2);let x1:T:=.o1 .not (.ite x3 (.bool true) (.o2 .ge (Va 2) x2));.fact (.ite (.o1 .not x3) (.o2 .le x2 (Vn 140737488355328)) (.bool true)) (.need (.ite x1 x4 (.bool true)) (.need (.ite x1 (.o2 .lt (Va 2) x2) (.bool true)) (.ite (.ite (.ite x3 (.bool true) (.o2 .ge (Va 2) x2)) (.bool true) (.o1 .not (.idx (Va 0) (Va 2) 5 .bool))) (.ret [.d .nils]) (.need x4 (.need (.o2 .lt (Va 2) x2) (.call none (.fn 88) [.idx (Va 0) (Va 2) 2 (.slice x0)] [.own x0] (.callX false 230 [.own 5 (Va 4),.d (.clo 231 (Vl (.ptr (Vl (Va 3) .lnil)) .lnil))] [.own x0] (.ret [.own 5 (Va 5)]))))))))
theorem Ze1:fnO Tryz.prog mdA 215 [.agg [.slice J9,.slice [.slice enKs]],.cell (.int .i64),.cell .fn]=t215:=by kernel_rfl
noncomputable def t231:R:=let x0:T:=.o2 .eq (Va 1) (Vn 0);.call (some (.o1 .not x0)) (.val (.fld (Va 5) 0 .fn)) [Vl (Va 0) (Vl (Va 1) (Vl (Va 2) (Vl (Va 3) (Vl (Va 4) .lnil))))] [.cell .bool] (.ret [.d (.ite x0 (.bool true) (.o1 .not (Va 6)))])
theorem ZdQ:fnO Tryz.prog mdA 231 ([.agg mvKs]++[.cell (.ptr [.fn])])=t231:=by kernel_rfl
theorem c231:J2 Tryz.prog 231=true:=by kernel_rfl
noncomputable def t104:R:=let x0:List K:=enKs;let x1:T:=.o2 .ge (Va 7) (Vn 0);let x2:T:=.idx (Va 4) (Va 5) 2 (.int .i64);let x3:T:=.idx (Va 4) (Va 5) 3 (.int .i64);.need (.o2 .le (Vn 0) (Va 2)) (.need (.o2 .lt (Va 2) (.o1 .len (Va 1))) (.call none (.fn 177) [.idx (Va 1) (Va 2) 0 (.slice x0)] [.own x0] (.call none (.fn 178) [Vl (Va 0) (Vl (Va 1) .lnil),Va 2] [.cell (.slice mvKs)] (.fact (.o2 .le (.o1 .len (Va 4)) (Vn 140737488355328)) (.loop 0 [Vn 0,Va 3] [.int .i64,.slice x0] (.ite (.o2 .lt (Va 5) (.o1 .len (Va 4))) (.need (.o2 .le (Vn 0) (Va 5)) (.call none (.fn 141) [Va 6,.clo 179 (Vl (.ptr (Vl (.idx (Va 4) (Va 5) 0 (.int .i64)) (Vl (.idx (Va 4) (Va 5) 1 (.int .i64)) (Vl x2 (Vl x3 (Vl (.idx (Va 4) (Va 5) 4 (.int .i64)) .lnil)))))) .lnil)] [.cell (.int .i64)] (.need (.ite x1 (.o2 .le (Vn 0) (Va 7)) (.bool true)) (.need (.ite x1 (.o2 .lt (Va 7) (.o1 .len (Va 6))) (.bool true)) (.lets [.ite x1 (.upd (Va 6) (Va 7) 2 (Vl x2 (Vl x3 .lnil))) (Va 6)] (.again 0 [.o2 (.add .i64) (Va 5) (Vn 1),Va 8])))))) (.ret [.own 4 (Va 6)])))))))
theorem ZfE:fnO Tryz.prog mdA 104 [.agg [.slice J9,.slice [.slice enKs]],.cell (.int .i64)]=t104:=by kernel_rfl
noncomputable def t179:R:=.ret [.d (.o2 .band (.o2 .eq (Va 0) (.fld (.padd (Va 4) 0) 0 (.int .i64))) (.o2 .band (.o2 .eq (Va 1) (.fld (.padd (Va 4) 0) 1 (.int .i64))) (.bool true)))]
theorem Zey:fnO Tryz.prog mdA 179 ([.agg enKs]++[.cell (.ptr mvKs)])=t179:=by kernel_rfl
theorem c179:J2 Tryz.prog 179=true:=by kernel_rfl
noncomputable def t42:R:=let x0:List K:=enKs;.call none (.fn 103) [Vl (Va 0) (Vl (Va 1) (Vl (Va 2) .lnil)),Va 3] [.agg [.slice J9,.slice [.slice x0]],.cell (.int .i64),.cell (.int .i64)] (.ite (.o2 .ne (Va 7) (Vn 0)) (.ret [.d .nils,.d (Va 7)]) (.call none (.fn 104) [Vl (Va 4) (Vl (Va 5) .lnil),Va 6] [.cell (.slice x0)] (.ret [.d (Va 8),.d (Vn 0)])))
theorem Zhe:fnO Tryz.prog mdA 42 [.agg liKs,.cell .str]=t42:=by kernel_rfl
theorem Z3W {l:Lis} {s:List UInt8} (h:Ya l s=0):J4 Y2 l=0:=by
 unfold Ya at h;split at h
 · contradiction
 · rename_i h1;simpa using h1
def sheE (l:Lis):List D:=[.slice (l.cues.map Cue.enc),.slice ((JF l.cues l.cues.length).map enS)]
abbrev shKs:List K:=[.slice J9,.slice [.slice enKs]]
theorem Zcu {l:Lis} (hR:RightT l):HasK (.slice [.slice enKs]) (.slice ((JF l.cues l.cues.length).map enS)):=Zav fun x hx e he=>by
 simp only [JF,List.mem_map]at hx;obtain⟨k,_,rfl⟩:=hx;exact Wu hR _ e he
theorem Z7p {l:Lis} (hR:RightT l) {ks:List K} {ds:List D} (h:HasKs ks ds):HasKs (shKs++ks) (sheE l++ds):=
 HasKs.append (show HasKs shKs (sheE l)from⟨JM hR.ok.cues,Zcu hR,trivial⟩) h
theorem Z3c {l:Lis} {n:Nat} (hn:n < l.cues.length):((JF l.cues l.cues.length).map enS).getD n []=enS (Ja l.cues (n+1)):=by
 rw [J0 (by rw [Z1s];exact hn)];simp [JF]
theorem Zax (l:Lis):((JF l.cues l.cues.length).map enS).length=l.cues.length:=by simp [Z1s]
theorem Zd6:Contract Tryz.prog 176 fun args K=>∃(c:Cue) (s:List UInt8),c.Ok∧args=[.agg c.enc,.ptr [.str s]]∧K [.d (.bool (c.num==s))]:=by
 refine .of c176 ZeB ?_;rintro _ K ⟨c,s,hc,rfl,hK⟩ hsm;refine⟨c.enc++[.ptr [.str s]],rfl,by exact(Cue.has hc).append (show HasKs [.ptr [.str]] [.ptr [.str s]]from⟨⟨trivial,trivial⟩,trivial⟩),?_⟩;simp only [zz,reduceCtorEq,t176,Cue.enc];exact hK
theorem Z9I (l:List Cue) (hl:∀c∈l,c.Ok) (s:List UInt8):Yp Tryz.prog (.clo 176 [.ptr [.str s]]) Cue.enc l (fun c=>c.num==s):=by
 refine⟨fun as_ K=>∃c:Cue,c.Ok∧as_=[.agg c.enc]∧K [.d (.bool (c.num==s))],FvC.of c176 Zd6 ?_,fun c hc=>⟨c,hl c hc,rfl,rfl⟩⟩;rintro _ K ⟨c,hc,rfl,hK⟩;refine⟨⟨c,s,hc,rfl,hK⟩,Z4 [some (.agg J9)] (by kernel_rfl) ?_⟩;intro i rk d h1 h2;cases i with
 |zero=>simp at h1 h2;subst h1 h2;exact Cue.has hc
 |succ i=>simp at h1
theorem Zd0:Contract Tryz.prog 103 fun args K=>∃(l:Lis) (s:List UInt8),l.Ok∧args=[.agg l.enc,.str s]∧
   K (if Ya l s≠0 then [.d (.agg [.slice [],.slice []]),.d (.int .i64 0),.d (.int .i64 (Ya l s))]else [.d (.agg (sheE l)),.d (.int .i64 ((upto l s:Int) - 1)),.d (.int .i64 0)]):=by
 refine .of (by kernel_rfl) ZfF ?_;rintro _ K ⟨l,s,hl,rfl,hK⟩ hsm;refine⟨l.enc++[.str s],rfl,by exact Z2B hl,?_⟩;refine Z0 Z0h ⟨l,s,hl,by simp only [zz,reduceCtorEq,Lis.enc],?_⟩;by_cases h:Ya l s=0
 · obtain⟨hR,h05,hpl,hup,hu0,hul⟩:=Zo hl h;have hch:=Z3W h;rw [if_neg (by simp [h])]at hK;have e:Z0n l s=(Ja l.cues (upto l s),0):=by unfold Z0n;rw [if_neg (by simp [h])]
   rw [e];refine⟨_,rfl,?_⟩;simp only [zz,reduceCtorEq,Lis.enc,Zbt];refine Z0 Zaw ⟨l,hl,by simp only [zz,reduceCtorEq,Lis.enc],?_⟩;rw [Z6n hch];intro rvs hr;refine⟨[.slice ((JF l.cues l.cues.length).map enS),.int .i64 0],by rcases hr with rfl|rfl <;> rfl,?_⟩;simp only [zz,reduceCtorEq,Lis.enc];refine Z0 JW ⟨l.cues,fun c=>c.num==s,176,[.ptr [.str s]],hl.cues,by simp only [zz,reduceCtorEq,Lis.enc],Z9I l.cues hl.cues s,_,rfl,?_⟩;simp only [zz,reduceCtorEq,Lis.enc];rw [←hup]at hK;exact hK
 · rw [if_pos h]at hK;have e:Z0n l s=([],Ya l s):=by unfold Z0n;rw [if_pos h]
   rw [e];refine⟨_,rfl,?_⟩;simp only [zz,reduceCtorEq,Lis.enc,Zbt];exact⟨fun _=>hK,fun h'=>(h (by simpa using h')).elim⟩
theorem Zbv:Contract Tryz.prog 216 fun args K=>∃(m:Mov) (a b:List Nat),m.Ok∧Z3 m.pa=0∧a.length=16∧b.length=16∧(∀w∈a,w < 2 ^ 64)∧(∀w∈b,w < 2 ^ 64)∧args=[.agg m.enc,.ptr (encW a),.ptr (encW b)]∧
   K [.d (.bool (!hasW a m.pa.ch.toNat&&!hasW b m.pa.ch.toNat))]:=by
 refine .of c216 Ze0 ?_;rintro _ K ⟨m,a,b,hm,hp,hal,hbl,ha,hb,rfl,hK⟩ hsm;have hpi:=Wc hp;have hch:(m.pa.ch.toNat:Int)=m.pa.ch:=by omega
 refine⟨m.enc++[.ptr (encW a),.ptr (encW b)],rfl,by exact(Mov.has hm).append (show HasKs [.ptr chKs,.ptr chKs] [.ptr (encW a),.ptr (encW b)]from⟨Z3Q hal ha,Z3Q hbl hb,trivial⟩),?_⟩
 match a,hal with
 | [a0,a1,a2,a3,a4,a5,a6,a7,a8,a9,a10,a11,a12,a13,a14,a15],_=>
 match b,hbl with
 | [b0,b1,b2,b3,b4,b5,b6,b7,b8,b9,b10,b11,b12,b13,b14,b15],_=>
 refine Z0 Z7P ⟨[a0,a1,a2,a3,a4,a5,a6,a7,a8,a9,a10,a11,a12,a13,a14,a15],m.pa.ch.toNat,rfl,ha,by omega,by simp only [zz,reduceCtorEq,Mov.enc,encW,hch],_,rfl,?_⟩;generalize hasW [a0,a1,a2,a3,a4,a5,a6,a7,a8,a9,a10,a11,a12,a13,a14,a15] m.pa.ch.toNat=x at hK ⊢;cases x with
 | true=>
   refine W5 Z7P false [.bool false] (by simp only [zz,reduceCtorEq,Mov.enc]) (fun e=>by cases e) (fun _=>rfl) ?_;simp only [zz,reduceCtorEq,Mov.enc];exact hK
 | false=>
   refine W5 Z7P true [.bool (hasW [b0,b1,b2,b3,b4,b5,b6,b7,b8,b9,b10,b11,b12,b13,b14,b15] m.pa.ch.toNat)] (by simp only [zz,reduceCtorEq,Mov.enc]) (fun _=>⟨[b0,b1,b2,b3,b4,b5,b6,b7,b8,b9,b10,b11,b12,b13,b14,b15],m.pa.ch.toNat,rfl,hb,by omega,by simp only [zz,reduceCtorEq,Mov.enc,encW,hch],rfl⟩) (fun e=>by cases e) ?_;simp only [zz,reduceCtorEq,Mov.enc];simpa using hK
theorem Z8b {ms:List Mov} (hms:∀m∈ms,m.Ok) (hp:∀m∈ms,Z3 m.pa=0) {a b:List Nat} (hal:a.length=16) (hbl:b.length=16) (ha:∀w∈a,w < 2 ^ 64) (hb:∀w∈b,w < 2 ^ 64):
   Yp Tryz.prog (.clo 216 [.ptr (encW a),.ptr (encW b)]) Mov.enc ms fun m=>!hasW a m.pa.ch.toNat&&!hasW b m.pa.ch.toNat:=by
 refine⟨fun as_ K=>∃m:Mov,m.Ok∧Z3 m.pa=0∧as_=[.agg m.enc]∧K [.d (.bool (!hasW a m.pa.ch.toNat&&!hasW b m.pa.ch.toNat))],FvC.of c216 Zbv ?_,fun m hm=>⟨m,hms m hm,hp m hm,rfl,rfl⟩⟩;rintro _ K ⟨m,hm,hpm,rfl,hK⟩;refine⟨⟨m,a,b,hm,hpm,hal,hbl,ha,hb,rfl,hK⟩,Z4 [some (.agg mvKs)] (by kernel_rfl) ?_⟩;intro i rk d h1 h2;cases i with
 |zero=>simp at h1 h2;subst h1 h2;exact Mov.has hm
 |succ i=>simp at h1
theorem ZaS:Contract Tryz.prog 231 fun args K=>∃(m:Mov) (p:Mov→Bool) (f:FuncId) (caps:List D),m.Ok∧Yp Tryz.prog (.clo f caps) Mov.enc [m] p∧args=[.agg m.enc,.ptr [.clo f caps]]∧
   K [.d (.bool (decide (m.pa.at_=0)||!p m))]:=by
 refine .of c231 ZdQ ?_;rintro _ K ⟨m,p,f,caps,hm,⟨sf,hf,hs⟩,rfl,hK⟩ hsm;refine⟨m.enc++[.ptr [.clo f caps]],rfl,by exact(Mov.has hm).append (show HasKs [.ptr [.fn]] [.ptr [.clo f caps]]from⟨⟨trivial,trivial⟩,trivial⟩),?_⟩;by_cases h:m.pa.at_=0
 · refine JB (s:=fun _ _=>True) false [.bool false] (by simp only [zz,reduceCtorEq,Mov.enc,h]) (fun e=>by cases e) (fun _=>rfl) ?_;simp only [zz,reduceCtorEq,Mov.enc,h];simpa [h]using hK
 · refine JB (s:=sf.up) true [.bool (p m)] (by simp only [zz,reduceCtorEq,Mov.enc];simp [h]) (fun _=>⟨?_,fun rs=>rs=[.d (.bool (p m))],?_,fun rs hr=>⟨[.bool (p m)],by rw [hr];rfl,by simp [RK.all,RK.kinds,HasKs,HasK],rfl⟩⟩) (fun e=>by cases e) ?_
   · exact FvC.up' (s:=sf) (fv:=.clo f caps) hf
   · simp only [zz,reduceCtorEq,Mov.enc];exact hs m (by simp)
   · simp only [zz,reduceCtorEq,Mov.enc];simpa [h]using hK
theorem Z7N {ms:List Mov} (hms:∀m∈ms,m.Ok) {p:Mov→Bool} {f:FuncId} {caps:List D} (h:Yp Tryz.prog (.clo f caps) Mov.enc ms p):Yp Tryz.prog (.clo 231 [.ptr [.clo f caps]]) Mov.enc ms fun m=>decide (m.pa.at_=0)||!p m:=by
 obtain⟨sf,hf,hs⟩:=h;refine⟨fun as_ K=>∃m:Mov,m∈ms∧as_=[.agg m.enc]∧K [.d (.bool (decide (m.pa.at_=0)||!p m))],FvC.of c231 ZaS ?_,fun m hm=>⟨m,hm,rfl,rfl⟩⟩;rintro _ K ⟨m,hm,rfl,hK⟩;refine⟨⟨m,p,f,caps,hms m hm,⟨sf,hf,fun x hx=>by simp at hx;subst hx;exact hs _ hm⟩,rfl,hK⟩,Z4 [some (.agg mvKs)] (by kernel_rfl) ?_⟩;intro i rk d h1 h2;cases i with
 |zero=>simp at h1 h2;subst h1 h2;exact Mov.has (hms m hm)
 |succ i=>simp at h1
def Z6F (cs:List Cue) (i:Int) (p:Mov→Bool):List Mov:=if i < 0 then []else match cs[i.toNat]? with
 |some c=>if c.mark then c.moves.filter fun m=>!(decide (m.pa.at_=0)||!p m)else []
 |none=>[]
theorem Z6x:Contract Tryz.prog 215 fun args K=>∃(l:Lis) (i:Int) (p:Mov→Bool) (f:FuncId) (caps:List D),RightT l∧I64 i∧(∀c∈l.cues,l.cues[i.toNat]? =some c→Yp Tryz.prog (.clo f caps) Mov.enc c.moves p)∧args=[.agg (sheE l),.int .i64 i,.clo f caps]∧
   ∀rvs,(rvs=[.d (.slice ((Z6F l.cues i p).map Mov.enc))]∨rvs=[.own 5 ((Z6F l.cues i p).map Mov.enc)])→K rvs:=by
 refine .of (by kernel_rfl) Ze1 ?_;rintro _ K ⟨l,i,p,f,caps,hR,hi,hs,rfl,hK⟩ hsm;refine⟨sheE l++[.int .i64 i,.clo f caps],rfl,by exact Z7p hR (show HasKs [.int .i64,.fn] [.int .i64 i,.clo f caps]from⟨Y4 hi,trivial,trivial⟩),?_⟩;simp only [zz,reduceCtorEq,t215,sheE,List.length_map];intro hcap;refine⟨?_,?_,?_⟩
 · split <;> simp_all
 · split <;> simp_all
 by_cases h:i < 0∨(l.cues.length:Int)≤i
 · have e:Z6F l.cues i p=[]:=by
     unfold Z6F;split
     · rfl
     · rename_i h0;rw [List.getElem?_eq_none (by omega)]
   rw [e]at hK;exact⟨fun _=>hK _ (.inl rfl),fun hh=>by exfalso;grind⟩
 · obtain⟨n,rfl⟩:∃n:Nat,i=n:=⟨i.toNat,by omega⟩
   have hn:n < l.cues.length:=by omega
   have hc0:l.cues[(n:Int).toNat]? =some l.cues[n]:=by simp [hn]
   have e:Z6F l.cues n p=if l.cues[n].mark then l.cues[n].moves.filter fun m=>!(decide (m.pa.at_=0)||!p m)else []:=by
     unfold Z6F;rw [if_neg (by omega),hc0]
   rw [e]at hK;have hok:=hR.ok.cues _ (List.getElem_mem hn);have hM:=hR.moves _ (List.getElem_mem hn);simp only [zz,reduceCtorEq,J0 hn,Cue.enc,hn];refine⟨fun hh=>?_,fun hh=>?_⟩
   · have hm:l.cues[n].mark=false:=by grind
     rw [hm]at hK;exact hK _ (.inl rfl)
   · have hm:l.cues[n].mark=true:=by grind
     rw [hm]at hK;simp only [if_true]at hK;refine⟨by omega,?_⟩;have hlen:=hM.len;refine Z0 Z3Z ⟨l.cues[n].moves,hok.moves,by omega,by simp only [zz,reduceCtorEq,J0 hn,Cue.enc],_,rfl,?_⟩;refine Jo ZbG ⟨[.slice (l.cues[n].moves.map Mov.enc),.clo 231 [.ptr [.clo f caps]]],rfl,⟨Z7 fun m hm=>Mov.has (hok.moves m hm),trivial,trivial⟩⟩ (fun e=>by cases e)
       ⟨l.cues[n].moves,fun m=>decide (m.pa.at_=0)||!p m,231,[.ptr [.clo f caps]],hok.moves,by omega,by simp only [zz,reduceCtorEq],Z7N hok.moves (hs _ (List.getElem_mem hn) hc0),⟨_,rfl,?_⟩⟩
     simp only [zz,reduceCtorEq];exact hK _ (.inr rfl)
theorem Z7S {l:Lis} (hl:l.Ok) (h:J4 Y2 l=0) {n:Nat} (h0:0 < n) (b:List Nat) (hb:b=litW (Ja l.cues (n - 1))∨(n=1∧b=List.replicate 16 0)):
   Z6F l.cues n (fun m=>!hasW (litW (Ja l.cues n)) m.pa.ch.toNat&&!hasW b m.pa.ch.toNat)=JQ l.cues n:=by
 unfold Z6F JQ;rw [if_neg (by omega),if_neg (by omega)];simp only [Int.toNat_natCast];cases hc:l.cues[n]? with
 |none=>rfl
 | some c=>
   simp only;split
   · refine List.filter_congr fun m hm=>?_
     have hM:=(Zf hl h).moves c (List.mem_of_getElem? hc);have hp:=Wc (hM.par m hm);have hch:(m.pa.ch.toNat:Int)=m.pa.ch:=by omega
     have e1:=Z57 (ZP hl h n) m.pa.ch.toNat;have e2:Z3B (Ja l.cues (n - 1)) m.pa.ch=!hasW b m.pa.ch.toNat:=by
       rcases hb with rfl|⟨rfl,rfl⟩
       · have:=Z57 (ZP hl h (n - 1)) m.pa.ch.toNat;rw [hch]at this;exact this
       · rw [Z6S];have hz:=Z1I (c:=m.pa.ch) (ZP hl h 0).val (ZP hl h 0).rising;rw [hz];have:((Ja l.cues 0).any fun e=>decide (e.pa.ch=m.pa.ch∧e.pa.at_=0)&&litV e.va)=false:=by
           rw [List.any_eq_false];intro e he;rw [Zb5]at he;obtain⟨q,_,rfl⟩:=List.mem_map.1 he;simp [litV,hval]
         rw [this]
     rw [hch]at e1;unfold Z8M;rw [e1,e2];cases decide (m.pa.at_=0) <;> simp
   · rfl
theorem Z8I {l:Lis} (hl:l.Ok) (h:J4 Y2 l=0) (n:Nat):∀e∈Ja l.cues n,Z3 e.pa=0:=(ZP hl h n).par
theorem ZaW:Contract Tryz.prog 178 fun args K=>∃(l:Lis) (n:Nat),l.Ok∧J4 Y2 l=0∧n≤l.cues.length∧args=[.agg (sheE l),.int .i64 ((n:Int) - 1)]∧K [.d (.slice ((JQ l.cues n).map Mov.enc))]:=by
 refine .of (by kernel_rfl) Zez ?_;rintro _ K ⟨l,n,hl,h,hn,rfl,hK⟩ hsm;have hR:=Zf hl h;have hlen:=hR.len;have h64:I64 ((n:Int) - 1):=⟨by omega,by omega⟩
 refine⟨sheE l++[.int .i64 ((n:Int) - 1)],rfl,by exact Z7p hR (ZX h64),?_⟩;simp only [zz,reduceCtorEq,t178,sheE];refine⟨fun hh=>?_,fun hh=>?_⟩
 · have:n=0:=by omega
   subst this;exact hK
 have h0:0 < n:=by omega
 obtain⟨k,rfl⟩:∃k,n=k+1:=⟨n - 1,by omega⟩
 have e1:(((k+1:Nat):Int) - 1)=(k:Int):=by omega
 have hk:k < l.cues.length:=by omega
 have hw1:wr64 ((k:Int)+1)=((k+1:Nat):Int):=by rw [Z1] <;> omega
 have hsl:=Zax l;rw [e1];simp only [zz,reduceCtorEq,hsl,Z3c hk,enS];refine⟨by omega,by omega,?_⟩;have hsays:∀(b:List Nat),b.length=16→(∀w∈b,w < 2 ^ 64)→∀c∈l.cues,l.cues[((k+1:Nat):Int).toNat]? =some c→Yp Tryz.prog (.clo 216 [.ptr (encW (litW (Ja l.cues (k+1)))),.ptr (encW b)]) Mov.enc c.moves fun m=>!hasW (litW (Ja l.cues (k+1))) m.pa.ch.toNat&&!hasW b m.pa.ch.toNat:=
   fun b hb1 hb2 c hc _=>Z8b (hl.cues c hc).moves (hR.moves c hc).par (Z5L _).1 hb1 (Z5L _).2 hb2
 refine Z0 ZdB ⟨Ja l.cues (k+1),Wu hR _,Z8I hl h _,by simp only [zz,reduceCtorEq,Z3c hk,enS],?_⟩;obtain⟨w1,w2⟩:=Z5L (Ja l.cues (k+1));have hke:=fun b hb=>Z7S hl h (n:=k+1) (by omega) b hb
 generalize litW (Ja l.cues (k+1))=zs at w1 w2 hsays hke ⊢
 match zs,w1 with
 | [a0,a1,a2,a3,a4,a5,a6,a7,a8,a9,a10,a11,a12,a13,a14,a15],_=>
 refine⟨_,rfl,?_⟩;simp only [zz,reduceCtorEq,encW,hsl];refine⟨fun hk0=>?_,fun hk0=>?_⟩
 · have e2:wr64 ((k:Int) - 1)=((k - 1:Nat):Int):=by rw [Z1] <;> omega
   have hk1:k - 1 < l.cues.length:=by omega
   have e3:k - 1+1=k:=by omega
   simp only [zz,reduceCtorEq,e2,Z3c hk1,enS];refine⟨by omega,by omega,?_⟩;refine Z0 ZdB ⟨Ja l.cues k,Wu hR _,Z8I hl h _,by simp only [zz,reduceCtorEq,e2,Z3c hk1,enS,e3],?_⟩;obtain⟨v1,v2⟩:=Z5L (Ja l.cues k);have hs2:=hsays (litW (Ja l.cues k)) v1 v2;have hk2:=hke (litW (Ja l.cues k)) (.inl rfl);generalize litW (Ja l.cues k)=ys at v1 v2 hs2 hk2 ⊢
   match ys,v1 with
   | [b0,b1,b2,b3,b4,b5,b6,b7,b8,b9,b10,b11,b12,b13,b14,b15],_=>
   refine⟨_,rfl,?_⟩;refine Z0 Z6x ⟨l,((k+1:Nat):Int),_,216,_,hR,⟨by omega,by omega⟩,hs2,by simp only [zz,reduceCtorEq,encW,sheE,hw1],fun rvs hr=>⟨[.slice ((JQ l.cues (k+1)).map Mov.enc)],?_,?_⟩⟩
   · rw [hk2]at hr;rcases hr with rfl|rfl <;> rfl
   · simp only [zz,reduceCtorEq];exact hK
 · have hk0:k=0:=by omega
   subst hk0;have hs2:=hsays (List.replicate 16 0) (by simp) (by simp);have hk2:=hke (List.replicate 16 0) (.inr ⟨rfl,rfl⟩);refine Z0 Z6x ⟨l,((0+1:Nat):Int),_,216,_,hR,⟨by omega,by omega⟩,hs2,by simp only [zz,reduceCtorEq,encW,sheE,hw1];rfl,fun rvs hr=>⟨[.slice ((JQ l.cues (0+1)).map Mov.enc)],?_,?_⟩⟩
   · rw [hk2]at hr;rcases hr with rfl|rfl <;> rfl
   · simp only [zz,reduceCtorEq];exact hK
theorem Zd2:Contract Tryz.prog 179 fun args K=>∃(x:Ent) (m:Mov),x.Ok∧m.Ok∧args=[.agg x.enc,.ptr m.enc]∧K [.d (.bool (decide (x.pa=m.pa)))]:=by
 refine .of c179 Zey ?_;rintro _ K ⟨x,m,hx,hm,rfl,hK⟩ hsm;refine⟨x.enc++[.ptr m.enc],rfl,by exact(Ent.has hx).append (show HasKs [.ptr mvKs] [.ptr m.enc]from⟨Mov.has hm,trivial⟩),?_⟩;have e:decide (x.pa=m.pa)=(decide (x.pa.ch=m.pa.ch)&&decide (x.pa.at_=m.pa.at_)):=by
   rw [Bool.eq_iff_iff];simp only [Bool.and_eq_true,decide_eq_true_eq];exact⟨fun h=>by rw [h];exact⟨rfl,rfl⟩,fun h=>Par.ext' h.1 h.2⟩
 rw [e]at hK;simp only [zz,reduceCtorEq,t179,Ent.enc,Mov.enc];simpa using hK
theorem Z9v {es:List Ent} (hes:∀e∈es,e.Ok) {m:Mov} (hm:m.Ok):Yp Tryz.prog (.clo 179 [.ptr m.enc]) Ent.enc es fun x=>decide (x.pa=m.pa):=by
 refine⟨fun as_ K=>∃x:Ent,x.Ok∧as_=[.agg x.enc]∧K [.d (.bool (decide (x.pa=m.pa)))],FvC.of c179 Zd2 ?_,fun x hx=>⟨x,hes x hx,rfl,rfl⟩⟩;rintro _ K ⟨x,hx,rfl,hK⟩;refine⟨⟨x,m,hx,hm,rfl,hK⟩,Z4 [some (.agg enKs)] (by kernel_rfl) ?_⟩;intro i rk d h1 h2;cases i with
 |zero=>simp at h1 h2;subst h1 h2;exact Ent.has hx
 |succ i=>simp at h1
theorem ZfM {a:List Ent} {x:Ent} (hnd:(a.map (·.pa)).Nodup) {k:Nat} (hk:k < a.length) (h:a[k].pa=x.pa):put1 a x=a.set k x:=by
 apply List.ext_getElem?;intro i;simp only [put1,List.getElem?_map,List.getElem?_set];by_cases hi:k=i
 · subst hi;simp [hk,h]
 · rw [if_neg hi];cases hc:a[i]? with
   |none=>rfl
   | some y=>
     obtain⟨hlt,rfl⟩:=List.getElem?_eq_some_iff.1 hc;have:a[i].pa≠x.pa:=fun e=>hi (by
       have h2:(a.map (·.pa))[k]'(by simpa using hk)=(a.map (·.pa))[i]'(by simpa using hlt):=by simp [e,h]
       exact(List.getElem_inj hnd).1 h2)
     simp [this]
theorem ZaJ {a:List Ent} {x:Ent} (h:∀y∈a,y.pa≠x.pa):put1 a x=a:=by
 unfold put1;rw [List.map_congr_left (g:=id) (fun y hy=>by rw [if_neg (h y hy)];rfl)];simp
theorem ZcN (a:List Ent) (x:Ent):(put1 a x).map (·.pa)=a.map (·.pa):=by
 unfold put1;rw [List.map_map];refine List.map_congr_left fun y _=>?_
 simp only [Function.comp];split
 · rename_i h;exact h.symm
 · rfl
theorem setV {l:List Ent} {k:Nat} (hk:k < l.length) (v:Val):((l.map Ent.enc).modify k fun x=>Zg x 2 [.int .i64 v.pal,.int .i64 v.lev])=(l.set k ⟨l[k].pa,v⟩).map Ent.enc:=by
 apply List.ext_getElem?;intro i;rw [List.getElem?_modify,List.getElem?_map,List.getElem?_map,List.getElem?_set];by_cases h:k=i
 · subst h;simp [hk,Zg,Ent.enc]
 · simp [h]
theorem Z7R (cs:List Cue) (n:Nat):((Ja cs n).map (·.pa)).Nodup:=by
 have:(Ja cs n).map (·.pa)=Yd cs:=by simp [Ja,Function.comp_def]
 rw [this];exact Z26 (Zw cs)
theorem Zb0:Contract Tryz.prog 104 fun args K=>∃(l:Lis) (n:Nat),l.Ok∧J4 Y2 l=0∧0 < n∧n≤l.cues.length∧args=[.agg (sheE l),.int .i64 ((n:Int) - 1)]∧K [.own 4 ((Zb1 l.cues n).map Ent.enc)]:=by
 refine .of (by kernel_rfl) ZfE ?_;rintro _ K ⟨l,n,hl,h,h0,hn,rfl,hK⟩ hsm;have hR:=Zf hl h;have hlen:=hR.len;have h64:I64 ((n:Int) - 1):=⟨by omega,by omega⟩
 refine⟨sheE l++[.int .i64 ((n:Int) - 1)],rfl,by exact Z7p hR (ZX h64),?_⟩;obtain⟨k,rfl⟩:∃k,n=k+1:=⟨n - 1,by omega⟩
 have e1:(((k+1:Nat):Int) - 1)=(k:Int):=by omega
 have hk:k < l.cues.length:=by omega
 have hsl:=Zax l;simp only [zz,reduceCtorEq,t104,sheE,hsl,e1];refine⟨by omega,by omega,?_⟩;have hml:(Ja l.cues (k+1)).length≤10000:=YJ hR _;refine Z0 Zc0 ⟨Ja l.cues (k+1),Wu hR _,hml,by simp only [zz,reduceCtorEq,Z3c hk,enS],_,rfl,?_⟩;refine Z0 ZaW ⟨l,k+1,hl,h,hn,by simp only [zz,reduceCtorEq,sheE,e1],_,rfl,?_⟩;have hee:=Zdn hl (k+1);have hK':K [.own 4 ((Z7D (Ja l.cues (k+1)) (Z3K (JQ l.cues (k+1)))).map Ent.enc)]:=hK;have hlk:=Wu hR (k+1);have hnd:=Z7R l.cues (k+1);generalize JQ l.cues (k+1)=es at hee hK';generalize Ja l.cues (k+1)=lk at hml hK' hlk hnd;simp only [zz,reduceCtorEq,List.length_map];intro hcap;refine Jj es (fun _ es (acc:List Ent)=>Z7D acc (Z3K es)) (fun i acc=>[.int .i64 i,.slice (acc.map Ent.enc)]) (fun i acc=>acc.length=lk.length∧(∀e∈acc,e.Ok)∧(acc.map (·.pa)).Nodup) lk (Z7D lk (Z3K es)) rfl ⟨rfl,hlk,hnd⟩ 0 (fun _ _=>rfl) rfl ?_ ?_
 · rintro i hi acc ⟨hal,hao,han⟩ hgo;have hm:=hee es[i] (List.getElem_mem hi);simp only [zz,reduceCtorEq,List.length_map,hi];refine⟨by omega,?_⟩;refine Z0 Z3D ⟨acc,fun x=>decide (x.pa=es[i].pa),179,[.ptr es[i].enc],hao,by simp only [zz,reduceCtorEq,J0 hi,Mov.enc],Z9v hao hm,_,rfl,?_⟩;have hgo':Z7D (put1 acc ⟨es[i].pa,es[i].va⟩) (Z3K (es.drop (i+1)))=Z7D lk (Z3K es):=hgo;rcases Yr (fun x:Ent=>decide (x.pa=es[i].pa)) acc 0 with⟨h1,h2⟩|⟨j,hj,h1,h2,h3⟩
   · rw [h1];have hp:put1 acc ⟨es[i].pa,es[i].va⟩=acc:=ZaJ fun y hy=>by have:=h2 y hy;simpa using this
     rw [hp]at hgo';simp only [zz,reduceCtorEq];exact⟨by simp,by simp,acc,⟨by rw [Z1] <;> omega,rfl⟩,⟨hal,hao,han⟩,hgo'⟩
   · rw [h1];have hpe:acc[j].pa=es[i].pa:=by simpa using h2
     have hp:=ZfM (x:=⟨es[i].pa,es[i].va⟩) han hj hpe;have hset:=setV hj es[i].va;rw [hpe]at hset;simp only [Nat.zero_add];simp only [zz,reduceCtorEq,List.length_map,hj,J0 hi,Mov.enc,D.upd,hset];refine⟨by simp,by simp,acc.set j ⟨es[i].pa,es[i].va⟩,⟨by rw [Z1] <;> omega,by simp⟩,⟨by simp [hal],?_,?_⟩,by rw [←hp];exact hgo'⟩
     · rw [←hp];exact ZfN hao ⟨hm.1,hm.2.1⟩
     · rw [←hp,ZcN];exact han
 · rintro acc ⟨hal,hao,han⟩ hgo;simp only [zz,reduceCtorEq,List.length_map,Nat.lt_irrefl];have hgo:acc=Z7D lk (Z3K es):=hgo;rw [hgo];exact hK'
theorem Z9u:Contract Tryz.prog 42 fun args K=>∃(l:Lis) (s:List UInt8),l.Ok∧args=[.agg l.enc,.str s]∧K (Zbt (Z5I l s)):=by
 refine .of (by kernel_rfl) Zhe ?_;rintro _ K ⟨l,s,hl,rfl,hK⟩ hsm;refine⟨l.enc++[.str s],rfl,by exact Z2B hl,?_⟩;refine Z0 Zd0 ⟨l,s,hl,by simp only [zz,reduceCtorEq,Lis.enc],?_⟩;unfold Z5I at hK;by_cases h:Ya l s=0
 · obtain⟨hR,h05,hpl,hup,hu0,hul⟩:=Zo hl h;have hch:=Z3W h;rw [if_neg (by simp [h])]at hK ⊢;refine⟨_,rfl,?_⟩;simp only [zz,reduceCtorEq,sheE,Lis.enc];refine Z0 Zb0 ⟨l,upto l s,hl,hch,hu0,hul,by simp only [zz,reduceCtorEq,sheE,Lis.enc],_,rfl,?_⟩;simp only [zz,reduceCtorEq,Lis.enc];exact hK
 · rw [if_pos h]at hK ⊢;refine⟨_,rfl,?_⟩;simp only [zz,reduceCtorEq,Lis.enc];exact⟨fun _=>hK,fun h'=>(h (by simpa using h')).elim⟩
noncomputable def t74:R:=let x0:List K:=enKs;let x1:T:=.o1 .len (.idx (Va 0) (Va 2) 0 (.slice x0));let x2:T:=.idx (Va 0) (Va 5) 0 (.slice x0);let x3:T:=.o1 .len (Va 0);.fact (.o2 .le x3 (Vn 140737488355328)) (.loop 0 [Vn 0,Vn 0] [.int .i64,.int .i64] (.ite (.o2 .lt (Va 2) x3) (.need (.o2 .le (Vn 0) (Va 2)) (.fact (.o2 .le x1 (Vn 140737488355328)) (.ite (.o2 .lt (.o2 (.add .i64) (Va 1) x1) (Vn 0)) (.fail "slices.go:496") (.again 0 [.o2 (.add .i64) (Va 1) x1,.o2 (.add .i64) (Va 2) (Vn 1)])))) (.callX false 140 [.own 4 .nils,.d (Va 1)] [.own x0] (.loop 1 [Va 3,Vn 0] [.slice x0,.int .i64] (.ite (.o2 .lt (Va 5) x3) (.need (.o2 .le (Vn 0) (Va 5)) (.need (.o2 .le (.o1 .len (.o2 .app (Va 4) x2)) (Vn 4398046511104)) (.again 1 [.o2 .app (Va 4) x2,.o2 (.add .i64) (Va 5) (Vn 1)]))) (.ret [.own 4 (Va 4)]))))))
theorem Zgy:fnO Tryz.prog mdA 74 [.cell (.slice [.slice enKs])]=t74:=by kernel_rfl
noncomputable def t142:R:=.ret [.d (.o2 .band (.o2 .eq (Va 0) (.fld (Va 4) 0 (.int .i64))) (.o2 .band (.o2 .eq (Va 1) (.fld (Va 4) 1 (.int .i64))) (.bool true)))]
theorem Zf0:fnO Tryz.prog mdA 142 ([.agg enKs]++[.cell (.ptr paKs)])=t142:=by kernel_rfl
theorem c142:J2 Tryz.prog 142=true:=by kernel_rfl
noncomputable def t75:R:=.call none (.fn 141) [Va 0,.clo 142 (Vl (.ptr (Vl (Va 1) (Vl (Va 2) .lnil))) .lnil)] [.cell (.int .i64)] (.ite (.o2 .lt (Va 3) (Vn 0)) (.ret [.d (Vl (Vn (-1)) (Vl (Vn 0) .lnil))]) (.need (.o2 .le (Vn 0) (Va 3)) (.need (.o2 .lt (Va 3) (.o1 .len (Va 0))) (.ret [.d (Vl (.idx (Va 0) (Va 3) 2 (.int .i64)) (Vl (.idx (Va 0) (Va 3) 3 (.int .i64)) .lnil))]))))
theorem Zgx:fnO Tryz.prog mdA 75 [.cell (.slice enKs),.agg [.int .i64,.int .i64]]=t75:=by kernel_rfl
noncomputable def t19:R:=let x0:T:=Vl (.idx (Va 2) (Va 3) 1 (.int .i64)) .lnil;let x1:T:=.idx (Va 2) (Va 3) 0 (.int .i64);.call none (.fn 74) [.push (.push .nils (Vl (Va 0) .lnil)) (Vl (Va 1) .lnil)] [.cell (.slice enKs)] (.fact (.o2 .le (.o1 .len (Va 2)) (Vn 140737488355328)) (.loop 0 [Vn 0] [.int .i64] (.ite (.o2 .lt (Va 3) (.o1 .len (Va 2))) (.need (.o2 .le (Vn 0) (Va 3)) (.call none (.fn 75) [Va 0,Vl x1 x0] [.agg [.int .i64,.int .i64]] (.call none (.fn 75) [Va 1,Vl x1 x0] [.agg [.int .i64,.int .i64]] (.ite (.o1 .not (.o2 .band (.o2 .eq (Va 4) (Va 6)) (.o2 .band (.o2 .eq (Va 5) (Va 7)) (.bool true)))) (.ret [.d (.bool false)]) (.again 0 [.o2 (.add .i64) (Va 3) (Vn 1)]))))) (.ret [.d (.bool true)]))))
theorem Zhk:fnO Tryz.prog mdA 19 [.cell (.slice enKs),.cell (.slice enKs)]=t19:=by kernel_rfl
noncomputable def t105:R:=let x0:T:=Vl (Vn 0) .lnil;.ret [.d (Vl (Va 0) (Vl (.str []) (Vl (Va 2) (Vl (.rep (Vn 1) (Vl (Vn 0) (Vl (Vn 0) (Vl (Vn 0) (Vl (Vn 0) (Vl (Vn 0) x0)))))) (Vl (.bool false) (Vl (Va 1) (Vl (Vn (-1)) (Vl (.str []) x0))))))))]
theorem ZfD:fnO Tryz.prog mdA 105 [.cell .str,.cell .bool,.cell (.slice mvKs)]=t105:=by kernel_rfl
noncomputable def t106:R:=.ret [.d (Vl (Va 0) (Vl (Va 1) (Vl (Vn 0) (Vl (Va 2) (Vl (Vn 1) .lnil)))))]
theorem ZfC:fnO Tryz.prog mdA 106 [.agg [.int .i64,.int .i64],.cell (.int .i64)]=t106:=by kernel_rfl
noncomputable def t43:R:=let x1:List K:=mvKs;let x2:T:=Vl (Vn 0) .lnil;let x3:T:=Vl (Vn 1) .lnil;let x0:List K:=[.str,.str,.slice x1,.slice tmKs,.bool,.bool,.int .i64,.str,.int .i64];.call none (.fn 106) [Vl (Vn 1) x2,Vn 9] [.agg x1] (.call none (.fn 106) [Vl (Vn 1) x3,Vn 5] [.agg x1] (.call none (.fn 105) [.str [49],.bool false,.push (.push .nils (Vl (Va 0) (Vl (Va 1) (Vl (Va 2) (Vl (Va 3) (Vl (Va 4) .lnil)))))) (Vl (Va 5) (Vl (Va 6) (Vl (Va 7) (Vl (Va 8) (Vl (Va 9) .lnil)))))] [.agg x0] (.call none (.fn 106) [Vl (Vn 1) x2,Vn 0] [.agg x1] (.call none (.fn 105) [.str [50],.bool false,.push .nils (Vl (Va 19) (Vl (Va 20) (Vl (Va 21) (Vl (Va 22) (Vl (Va 23) .lnil)))))] [.agg x0] (.call none (.fn 105) [.str [50,46,53],.bool false,.nils] [.agg x0] (.call none (.fn 106) [Vl (Vn 1) x2,Vn 9] [.agg x1] (.call none (.fn 106) [Vl (Vn 1) x3,Vn 7] [.agg x1] (.call none (.fn 105) [.str [51],.bool true,.push (.push .nils (Vl (Va 42) (Vl (Va 43) (Vl (Va 44) (Vl (Va 45) (Vl (Va 46) .lnil)))))) (Vl (Va 47) (Vl (Va 48) (Vl (Va 49) (Vl (Va 50) (Vl (Va 51) .lnil)))))] [.agg x0] (.ret [.d (Vl (Vn 1) (Vl (Vn 0) (Vl (.push (.push (.push (.push .nils (Vl (Va 10) (Vl (Va 11) (Vl (Va 12) (Vl (Va 13) (Vl (Va 14) (Vl (Va 15) (Vl (Va 16) (Vl (Va 17) (Vl (Va 18) .lnil)))))))))) (Vl (Va 24) (Vl (Va 25) (Vl (Va 26) (Vl (Va 27) (Vl (Va 28) (Vl (Va 29) (Vl (Va 30) (Vl (Va 31) (Vl (Va 32) .lnil)))))))))) (Vl (Va 33) (Vl (Va 34) (Vl (Va 35) (Vl (Va 36) (Vl (Va 37) (Vl (Va 38) (Vl (Va 39) (Vl (Va 40) (Vl (Va 41) .lnil)))))))))) (Vl (Va 52) (Vl (Va 53) (Vl (Va 54) (Vl (Va 55) (Vl (Va 56) (Vl (Va 57) (Vl (Va 58) (Vl (Va 59) (Vl (Va 60) .lnil)))))))))) .lnil)))])))))))))
theorem Zhd:fnO Tryz.prog mdA 43 []=t43:=by kernel_rfl
noncomputable def t12:R:=let x0:T:=Vl (Va 1) (Vl (Va 2) .lnil);let x1:T:=.o2 .eq (Va 4) (Vn 0);.call none (.fn 44) [Vl (Va 0) x0] [.cell .bool] (.call (some (Va 3)) (.fn 45) [Vl (Va 0) x0] [.cell (.int .i64)] (.fact (.ite (.ite (Va 3) x1 (.bool false)) (.o2 .le (.o1 .len (Va 2)) (Vn 140737488355328)) (.bool true)) (.ret [.d (.ite (.ite (Va 3) x1 (.bool false)) (.o2 .le (.o1 .len (Va 2)) (Vn 8)) (.bool false))])))
theorem Zhr:fnO Tryz.prog mdA 12 [.agg liKs]=t12:=by kernel_rfl
theorem Z9S:ContractX Tryz.prog 140 [.own enKs,.cell (.int .i64)] false fun args K=>∃n:Nat,n≤1000000∧args=[.own 4 [],.d (.int .i64 n)]∧K [.own 4 []]:=
 growX Tryz.grow140 rfl (by kernel_rfl) (ks:=enKs) (by kernel_rfl) (by decide) (by kernel_rfl)
theorem Za2:Contract Tryz.prog 74 fun args K=>∃(ls:List (List Ent)),(∀l∈ls,∀p∈l,p.Ok)∧ls.length≤1000000∧(ls.map List.length).sum≤1000000∧args=[.slice (ls.map fun l=>[.slice (l.map Ent.enc)])]∧K [.own 4 (ls.flatten.map Ent.enc)]:=by
 refine .of (by kernel_rfl) Zgy ?_;rintro _ K ⟨ls,hls,h1,h2,rfl,hK⟩ hsm;refine⟨[.slice (ls.map fun l=>[.slice (l.map Ent.enc)])],rfl,⟨?_,trivial⟩,?_⟩
 · intro x hx;obtain⟨l,hl,rfl⟩:=List.mem_map.1 hx;exact⟨fun y hy=>by obtain⟨p,hp,rfl⟩:=List.mem_map.1 hy;exact Ent.has (hls l hl p hp),trivial⟩
 intro _;refine Jc ls (fun _ l (s:Nat)=>s+(l.map List.length).sum) (fun i s=>[.int .i64 s,.int .i64 i]) 0 (ls.map List.length).sum (by simp) 1 (fun _ _=>rfl) rfl ?_ ?_
 · intro i hi s hgo;refine⟨fun _=>⟨by simp only [zz,reduceCtorEq] <;> omega,?_⟩,fun h=>?_⟩;rotate_left
   · exfalso;simp only [zz,reduceCtorEq,List.length_map,hi]at h
   intro _;simp only [List.map_cons,List.sum_cons]at hgo;refine Z6 ?_ ?_
   · simp only [zz,reduceCtorEq,J0 hi,List.length_map];rw [Z1 (by omega)];simp;omega
   simp only [zz,reduceCtorEq,J0 hi,List.length_map];exact⟨s+ls[i].length,⟨by rw [Z1] <;> omega,by rw [Z1] <;> omega⟩,by omega⟩
 · intro s hgo;refine⟨fun h=>?_,fun _=>?_⟩
   · exfalso;simp only [zz,reduceCtorEq,List.length_map,Nat.lt_irrefl]at h
   simp only [List.map_nil,List.sum_nil]at hgo;refine Jo Z9S ⟨_,rfl,?_⟩ (fun h=>by cases h) ⟨s,by omega,by simp only [zz,reduceCtorEq],_,rfl,?_⟩
   · simp [Y1,PK.kinds,HasKs,HasK,IntKind.min,IntKind.max,IntKind.signed,IntKind.bits,den];omega
   refine Jc ls (fun _ l (a:List Ent)=>a++l.flatten) (fun i a=>[.slice (a.map Ent.enc),.int .i64 i]) [] ls.flatten (by simp) 1 (fun _ _=>rfl) rfl ?_ ?_
   · intro i hi a hgo;refine⟨fun _=>⟨by simp only [zz,reduceCtorEq] <;> omega,?_⟩,fun h=>?_⟩;rotate_left
     · exfalso;simp only [zz,reduceCtorEq,List.length_map,hi]at h
     have hl:a.length+ls[i].length≤1000000:=by
       have:=congrArg List.length hgo;simp only [List.length_append,List.flatten_cons,List.length_flatten]at this;omega
     refine⟨by simp only [zz,reduceCtorEq,J0 hi,List.length_map,List.length_append] <;> omega,?_⟩;simp only [zz,reduceCtorEq,J0 hi,List.length_map];exact⟨a++ls[i],⟨by simp,by rw [Z1] <;> omega⟩,by rw [List.append_assoc];exact hgo⟩
   · intro a hgo;refine⟨fun h=>?_,fun _=>?_⟩
     · exfalso;simp only [zz,reduceCtorEq,List.length_map,Nat.lt_irrefl]at h
     have:a=ls.flatten:=by simpa using hgo
     subst this;simp only [zz,reduceCtorEq];exact hK
theorem Zd7:Contract Tryz.prog 142 fun args K=>∃(m:Ent) (p:Par),m.Ok∧p.Ok∧args=[.agg m.enc,.ptr p.enc]∧K [.d (.bool (decide (m.pa=p)))]:=by
 refine .of c142 Zf0 ?_;rintro _ K ⟨m,p,hm,hp,rfl,hK⟩ hsm;refine⟨m.enc++[.ptr p.enc],rfl,by exact(Ent.has hm).append (show HasKs [.ptr paKs] [.ptr p.enc]from⟨Par.has hp,trivial⟩),?_⟩;simp only [zz,reduceCtorEq,t142,Ent.enc,Par.enc];have e:decide (m.pa=p)=(decide (m.pa.ch=p.ch)&&decide (m.pa.at_=p.at_)):=by
   rw [Bool.eq_iff_iff];simp only [decide_eq_true_eq,Bool.and_eq_true];exact⟨fun h=>by rw [h];exact⟨rfl,rfl⟩,fun h=>Par.ext' h.1 h.2⟩
 rw [e]at hK;simpa using hK
theorem Z9O (l:List Ent) (hl:∀c∈l,c.Ok) {p:Par} (hp:p.Ok):Yp Tryz.prog (.clo 142 [.ptr p.enc]) Ent.enc l (fun m=>decide (m.pa=p)):=by
 refine⟨fun as_ K=>∃m:Ent,m.Ok∧as_=[.agg m.enc]∧K [.d (.bool (decide (m.pa=p)))],FvC.of c142 Zd7 ?_,fun c hc=>⟨c,hl c hc,rfl,rfl⟩⟩;rintro _ K ⟨c,hc,rfl,hK⟩;refine⟨⟨c,p,hc,hp,rfl,hK⟩,Z4 [some (.agg enKs)] (by kernel_rfl) ?_⟩;intro i rk d h1 h2;cases i with
 |zero=>simp at h1 h2;subst h1 h2;exact Ent.has hc
 |succ i=>simp at h1
theorem Z9Q {X:Type} (q:X→Bool) (l:List X):(ZA q 0 l= -1∧l.find? q=none)∨∃(j:Nat) (h:j < l.length),ZA q 0 l=j∧l.find? q=some l[j]:=by
 rcases Yr q l 0 with⟨h1,h2⟩|⟨j,hj,h1,h2,h3⟩
 · exact .inl ⟨h1,List.find?_eq_none.2 fun x hx=>by simp [h2 x hx]⟩
 · refine .inr ⟨j,hj,by rw [h1];simp,?_⟩;rw [List.find?_eq_some_iff_getElem];exact⟨h2,j,hj,rfl,fun k hk=>by simp [h3 k hk]⟩
theorem Z3g:Contract Tryz.prog 75 fun args K=>∃(l:List Ent) (p:Par),(∀e∈l,e.Ok)∧p.Ok∧args=[.slice (l.map Ent.enc),.agg p.enc]∧K [.d (.agg (wOf l p).enc)]:=by
 refine .of (by kernel_rfl) Zgx ?_;rintro _ K ⟨l,p,hl,hp,rfl,hK⟩ hsm;refine⟨[.slice (l.map Ent.enc)]++p.enc,rfl,by exact(show HasKs [.slice enKs] [.slice (l.map Ent.enc)]from⟨Zi hl,trivial⟩).append (Par.has hp),?_⟩;refine Z0 Z3D ⟨l,fun e=>decide (e.pa=p),142,[.ptr p.enc],hl,by simp only [zz,reduceCtorEq,Par.enc],Z9O l hl hp,_,rfl,?_⟩;unfold wOf ZL at hK;rcases Z9Q (fun e:Ent=>decide (e.pa=p)) l with⟨h1,h2⟩|⟨j,hj,h1,h2⟩
 · rw [h2]at hK;rw [h1];refine W8 (by simp only [zz,reduceCtorEq,Par.enc] <;> simp) ?_;simp only [zz,reduceCtorEq,Par.enc];exact hK
 · rw [h2]at hK;rw [h1];refine Z6 (by simp only [zz,reduceCtorEq,Par.enc] <;> simp) ?_;refine⟨by simp only [zz,reduceCtorEq,Par.enc] <;> simp,by simp only [zz,reduceCtorEq,List.length_map,Par.enc] <;> omega,?_⟩;simp only [zz,reduceCtorEq,J0 hj,Ent.enc,Par.enc];exact hK
theorem Z3i:Contract Tryz.prog 19 fun args K=>∃(a b:List Ent),(∀e∈a,e.Ok)∧(∀e∈b,e.Ok)∧a.length≤10000∧b.length≤10000∧(∀p,p.Ok→wOf a p=wOf b p)∧args=[.slice (a.map Ent.enc),.slice (b.map Ent.enc)]∧K [.d (.bool true)]:=by
 refine .of (by kernel_rfl) Zhk ?_;rintro _ K ⟨a,b,ha,hb,la,lb,hw,rfl,hK⟩ hsm;refine⟨[.slice (a.map Ent.enc),.slice (b.map Ent.enc)],rfl,⟨Zi ha,Zi hb,trivial⟩,?_⟩;have hin:∀e∈a++b,e.Ok:=fun e he=>(List.mem_append.1 he).elim (ha e) (hb e)
 refine Z0 Za2 ⟨[a,b],?_,by simp,by simp;omega,by simp only [zz,reduceCtorEq],_,rfl,?_⟩
 · intro l h p hp;simp at h;rcases h with rfl|rfl
   · exact ha p hp
   · exact hb p hp
 have e2: [a,b].flatten=a++b:=by simp
 rw [e2];intro _;have hlen:(a++b).length≤20000:=by simp;omega
 generalize a++b=l at hin hlen;refine Jc l (fun _ _ (_:Unit)=>()) (fun i _=>[.int .i64 i]) () () rfl 0 (fun _ _=>rfl) rfl ?_ ?_
 · intro i hi _ _;have hem:=List.getElem_mem hi;refine⟨fun _=>⟨by simp only [zz,reduceCtorEq] <;> omega,?_⟩,fun h=>?_⟩;rotate_left
   · exfalso;simp only [zz,reduceCtorEq,List.length_map,hi]at h
   refine Z0 Z3g ⟨a,l[i].pa,ha,(hin _ hem).1,by simp only [zz,reduceCtorEq,J0 hi,Ent.enc,Par.enc],_,rfl,?_⟩;refine Z0 Z3g ⟨b,l[i].pa,hb,(hin _ hem).1,by simp only [zz,reduceCtorEq,J0 hi,Ent.enc,Par.enc],_,rfl,?_⟩;rw [hw _ (hin _ hem).1];refine Z6 (by simp only [zz,reduceCtorEq,Val.enc]) ?_;simp only [zz,reduceCtorEq,Val.enc];refine⟨(),?_⟩;rw [Z1] <;> omega
 · intro _ _;refine⟨fun h=>?_,fun _=>?_⟩
   · exfalso;simp only [zz,reduceCtorEq,List.length_map,Nat.lt_irrefl]at h
   simp only [zz,reduceCtorEq];exact hK
theorem Z7u:Contract Tryz.prog 12 fun args K=>∃(l:Lis),l.Ok∧args=[.agg l.enc]∧∀b:Bool,(b=true→J4 Y2 l=0∧l.cues.length≤8)→K [.d (.bool b)]:=by
 refine .of (by kernel_rfl) Zhr ?_;rintro _ K ⟨l,hl,rfl,hK⟩ hsm;refine⟨l.enc,rfl,Lis.has hl,?_⟩;refine Z0 Zdh ⟨l,hl,by simp only [zz,reduceCtorEq,Lis.enc];first|done|rfl,fun b=>⟨_,rfl,?_⟩⟩;refine W5 Z1W b [.int .i64 (if b then J4 Y2 l else 0)] (by simp only [zz,reduceCtorEq,Lis.enc]) (fun h=>⟨l,hl,by simp only [zz,reduceCtorEq,Lis.enc],by rw [h];rfl⟩) (fun h=>by rw [h];rfl) ?_;have hK2:=hK (b&&decide (J4 Y2 l=0)&&decide (l.cues.length≤8)) (fun h=>by
   simp only [Bool.and_eq_true,decide_eq_true_eq]at h;exact⟨h.1.2,h.2⟩)
 cases b
 · simp only [zz,reduceCtorEq,Lis.enc,List.length_map];exact hK2
 · simp only [zz,reduceCtorEq,Lis.enc,List.length_map];intro _;have e:decide ((l.cues.length:Int)≤8)=decide (l.cues.length≤8):=decide_eq_decide.2 (by omega);rw [e];exact hK2
def cueR (n:List UInt8) (b:Bool) (ms:List Mov):Cue:=⟨n,[],ms,[zt],false,b, -1,[],0⟩
theorem Z0N:Contract Tryz.prog 105 fun args K=>∃(n:List UInt8) (b:Bool) (ms:List Mov),(∀m∈ms,m.Ok)∧args=[.str n,.bool b,.slice (ms.map Mov.enc)]∧K [.d (.agg (cueR n b ms).enc)]:=by
 refine .of (by kernel_rfl) ZfD ?_;rintro _ K ⟨n,b,ms,hm,rfl,hK⟩ hsm;refine⟨[.str n,.bool b,.slice (ms.map Mov.enc)],rfl,⟨trivial,trivial,Z2R hm,trivial⟩,?_⟩;simp only [zz,reduceCtorEq,t105];exact hK
theorem Z0O:Contract Tryz.prog 106 fun args K=>∃(p:Par) (v:Int),p.Ok∧I64 v∧args=[.agg p.enc,.int .i64 v]∧K [.d (.agg (Mov.enc ⟨p,⟨0,v⟩,1⟩))]:=by
 refine .of (by kernel_rfl) ZfC ?_;rintro _ K ⟨p,v,hp,hv,rfl,hK⟩ hsm;refine⟨p.enc++[.int .i64 v],rfl,by exact(Par.has hp).append (ks':=[.int .i64]) ⟨Y4 hv,trivial⟩,?_⟩;simp only [zz,reduceCtorEq,t106,Par.enc];exact hK
def runL:Lis:=⟨1,0,[cueR [49] false [⟨⟨1,0⟩,⟨0,9⟩,1⟩,⟨⟨1,1⟩,⟨0,5⟩,1⟩],cueR [50] false [⟨⟨1,0⟩,⟨0,0⟩,1⟩],cueR [50,46,53] false [],cueR [51] true [⟨⟨1,0⟩,⟨0,9⟩,1⟩,⟨⟨1,1⟩,⟨0,7⟩,1⟩]]⟩
theorem i64d {v:Int} (h:(decide (-9223372036854775808≤v)&&decide (v≤9223372036854775807))=true):I64 v:=by simpa [I64]using h
theorem Z1y:Contract Tryz.prog 43 fun args K=>args=[]∧K [.d (.agg runL.enc)]:=by
 refine .of (by kernel_rfl) Zhd ?_;rintro _ K ⟨rfl,hK⟩ hsm;refine⟨[],rfl,trivial,?_⟩;have j0:I64 0:=i64d (by decide);have j1:I64 1:=i64d (by decide);have j5:I64 5:=i64d (by decide);have j7:I64 7:=i64d (by decide);have j9:I64 9:=i64d (by decide);have m:∀ {c a v:Int},I64 c→I64 a→I64 v→Mov.Ok ⟨⟨c,a⟩,⟨0,v⟩,1⟩:=fun hc ha hv=>⟨⟨hc,ha⟩,⟨j0,hv⟩,j1⟩
 refine Z0 Z0O ⟨⟨1,0⟩,9,⟨j1,j0⟩,j9,by simp only [zz,reduceCtorEq,Par.enc],_,rfl,?_⟩;refine Z0 Z0O ⟨⟨1,1⟩,5,⟨j1,j1⟩,j5,by simp only [zz,reduceCtorEq,Par.enc],_,rfl,?_⟩;refine Z0 Z0N ⟨[49],false,[⟨⟨1,0⟩,⟨0,9⟩,1⟩,⟨⟨1,1⟩,⟨0,5⟩,1⟩],by simp [m j1 j0 j9,m j1 j1 j5],by simp only [zz,reduceCtorEq,Mov.enc],_,rfl,?_⟩;refine Z0 Z0O ⟨⟨1,0⟩,0,⟨j1,j0⟩,j0,by simp only [zz,reduceCtorEq,Par.enc],_,rfl,?_⟩;refine Z0 Z0N ⟨[50],false,[⟨⟨1,0⟩,⟨0,0⟩,1⟩],by simp [m j1 j0 j0],by simp only [zz,reduceCtorEq,Mov.enc,Cue.enc,cueR],_,rfl,?_⟩;refine Z0 Z0N ⟨[50,46,53],false,[],by simp,by simp only [zz,reduceCtorEq,Mov.enc,Cue.enc,cueR],_,rfl,?_⟩;refine Z0 Z0O ⟨⟨1,0⟩,9,⟨j1,j0⟩,j9,by simp only [zz,reduceCtorEq,Par.enc],_,rfl,?_⟩;refine Z0 Z0O ⟨⟨1,1⟩,7,⟨j1,j1⟩,j7,by simp only [zz,reduceCtorEq,Par.enc],_,rfl,?_⟩;refine Z0 Z0N ⟨[51],true,[⟨⟨1,0⟩,⟨0,9⟩,1⟩,⟨⟨1,1⟩,⟨0,7⟩,1⟩],by simp [m j1 j0 j9,m j1 j1 j7],by simp only [zz,reduceCtorEq,Mov.enc,Cue.enc,cueR],_,rfl,?_⟩;simp only [zz,reduceCtorEq,Mov.enc,Cue.enc,cueR];exact hK
noncomputable def t11:R:=let x0:T:=.o2 .eq (.o2 (.add .i64) (.o2 (.add .i64) (Va 4) (Va 9)) (Va 16)) (Vn 0);let x6:T:=.o2 .eq (.idx (Va 3) (Vn 1) 3 (.int .i64)) (Vn 7);let x8:T:=.o2 .eq (.idx (Va 8) (Vn 1) 3 (.int .i64)) (Vn 5);let x9:T:=.o1 .len (Va 15);let x10:List K:=mvKs;let x11:List K:=enKs;let x12:T:=.o1 .len (Va 3);let x13:T:=.o1 .len (Va 8);let x1:T:=.idx (Va 15) (Vn 0) 2 (.slice x10);let x2:List K:=[.int .i64,.int .i64,.slice [.str,.str,.slice x10,.slice tmKs,.bool,.bool,.int .i64,.str,.int .i64]];let x3:T:=.o2 .eq x12 (Vn 2);let x4:T:=.o2 .eq x13 (Vn 2);let x5:T:=.o2 .eq x9 (Vn 4);let x7:T:=.o2 .eq (.o1 .len x1) (Vn 2);.call none (.fn 43) [] [.agg x2] (.call none (.fn 42) [Vl (Va 0) (Vl (Va 1) (Vl (Va 2) .lnil)),.str [50,46,53]] [.cell (.slice x11),.cell (.int .i64)] (.call none (.fn 43) [] [.agg x2] (.call none (.fn 18) [Vl (Va 5) (Vl (Va 6) (Vl (Va 7) .lnil)),.str [50,46,53]] [.cell (.slice x11),.cell (.int .i64)] (.call none (.fn 43) [] [.agg x2] (.call none (.fn 28) [Vl (Va 10) (Vl (Va 11) (Vl (Va 12) .lnil)),.str [50,46,53],.push .nils (Vl (Vn 1) (Vl (Vn 1) (Vl (Vn 0) (Vl (Vn 6) .lnil))))] [.agg x2,.cell (.int .i64)] (.fact (.ite x0 (.o2 .le x12 (Vn 140737488355328)) (.bool true)) (.fact (.ite (.ite x0 x3 (.bool false)) (.o2 .le x13 (Vn 140737488355328)) (.bool true)) (.fact (.ite (.ite (.ite x0 x3 (.bool false)) x4 (.bool false)) (.o2 .le x9 (Vn 140737488355328)) (.bool true)) (.need (.ite (.ite (.ite (.ite x0 x3 (.bool false)) x4 (.bool false)) x5 (.bool false)) (.o2 .lt (Vn 0) x9) (.bool true)) (.fact (.ite (.ite (.ite (.ite x0 x3 (.bool false)) x4 (.bool false)) x5 (.bool false)) (.o2 .le (.o1 .len x1) (Vn 140737488355328)) (.bool true)) (.need (.ite (.ite (.ite (.ite (.ite x0 x3 (.bool false)) x4 (.bool false)) x5 (.bool false)) x7 (.bool false)) (.o2 .lt (Vn 1) x12) (.bool true)) (.need (.ite (.ite (.ite (.ite (.ite (.ite x0 x3 (.bool false)) x4 (.bool false)) x5 (.bool false)) x7 (.bool false)) x6 (.bool false)) (.o2 .lt (Vn 1) x13) (.bool true)) (.need (.ite (.ite (.ite (.ite (.ite (.ite (.ite x0 x3 (.bool false)) x4 (.bool false)) x5 (.bool false)) x7 (.bool false)) x6 (.bool false)) x8 (.bool false)) (.o2 .lt (Vn 0) x9) (.bool true)) (.need (.ite (.ite (.ite (.ite (.ite (.ite (.ite x0 x3 (.bool false)) x4 (.bool false)) x5 (.bool false)) x7 (.bool false)) x6 (.bool false)) x8 (.bool false)) (.o2 .lt (Vn 1) (.o1 .len x1)) (.bool true)) (.ret [.d (.ite (.ite (.ite (.ite (.ite (.ite (.ite x0 x3 (.bool false)) x4 (.bool false)) x5 (.bool false)) x7 (.bool false)) x6 (.bool false)) x8 (.bool false)) (.o2 .eq (.idx x1 (Vn 1) 3 (.int .i64)) (Vn 6)) (.bool false))])))))))))))))))
theorem Zhs:fnO Tryz.prog mdA 11 []=t11:=by kernel_rfl
noncomputable def t3:R:=let x0:List K:=liKs;let x1:T:=.o2 .ne (.o2 (.add .i64) (.o2 (.add .i64) (Va 20) (Va 22)) (Va 24)) (Vn 0);let x2:List K:=enKs;let x3:T:=Vl (Va 1) (Vl (Va 2) .lnil);let x4:T:=.o2 (.sub .i64) (Va 18) (Vn 1);let x5:T:=.o2 .ne (Va 7) (Vn 0);let x6:T:=.o1 .not (Va 6);let x7:T:=.o2 .ne (Va 8) (Vn 0);let x8:T:=.o1 .len (Va 2);let x9:T:=.o2 .gt (.o1 .len (Va 4)) (Vn 12);let x10:T:=Vl (Va 11) (Vl (Va 12) .lnil);let x11:T:=Vl (Va 15) (Vl (Va 16) .lnil);let x12:T:=.o2 .ne (Va 28) (Vn 0);let x13:T:=.o2 .ne (Va 30) (Vn 0);.call none (.fn 11) [] [.cell .bool] (.ite (.o1 .not (Va 5)) (.ret [.d (.bool false)]) (.call none (.fn 12) [Vl (Va 0) x3] [.cell .bool] (.call (some (.o1 .not x6)) (.fn 13) [Va 3] [.cell (.int .i64)] (.call (some (.o1 .not (.ite x6 (.bool true) x5))) (.fn 14) [Va 4] [.cell (.int .i64)] (.fact (.ite (.o1 .not (.ite (.ite x6 (.bool true) x5) (.bool true) x7)) (.o2 .le (.o1 .len (Va 4)) (Vn 140737488355328)) (.bool true)) (.call (some (.o1 .not (.ite (.ite (.ite x6 (.bool true) x5) (.bool true) x7) (.bool true) x9))) (.fn 15) [Vl (Va 0) x3,Va 3] [.cell (.int .i64)] (.ite (.ite (.ite (.ite (.ite x6 (.bool true) x5) (.bool true) x7) (.bool true) x9) (.bool true) (.o2 .ge (Va 9) (Vn 0))) (.ret [.d (.bool true)]) (.call none (.fn 16) [Vl (Va 0) x3,Va 3,Va 4,Vn 1,.bool true] [.agg x0,.cell (.int .i64)] (.ite (.o2 .ne (Va 13) (Vn 0)) (.ret [.d (.o2 .eq (Va 13) (Vn 5))]) (.call none (.fn 17) [Vl (Va 10) x10,Va 3,.bool true] [.agg x0,.cell (.int .i64)] (.ite (.o2 .ne (Va 17) (Vn 0)) (.ret [.d (.o2 .eq (Va 17) (Vn 5))]) (.fact (.o2 .le (.o1 .len (Va 16)) (Vn 140737488355328)) (.fact (.o2 .le x8 (Vn 140737488355328)) (.ite (.o2 .ne (.o1 .len (Va 16)) x8) (.ret [.d (.bool false)]) (.loop 0 [Vn 0] [.int .i64] (.ite (.o2 .lt (Va 18) x8) (.need (.o2 .le (Vn 0) (Va 18)) (.call none (.fn 18) [Vl (Va 0) x3,.idx (Va 2) (Va 18) 0 .str] [.cell (.slice x2),.cell (.int .i64)] (.call none (.fn 18) [Vl (Va 10) x10,.idx (Va 2) (Va 18) 0 .str] [.cell (.slice x2),.cell (.int .i64)] (.call none (.fn 18) [Vl (Va 14) x11,.idx (Va 2) (Va 18) 0 .str] [.cell (.slice x2),.cell (.int .i64)] (.call (some (.o1 .not x1)) (.fn 19) [Va 19,Va 21] [.cell .bool] (.call (some (.o1 .not (.ite x1 (.bool true) (.o1 .not (Va 25))))) (.fn 19) [Va 19,Va 23] [.cell .bool] (.ite (.ite (.ite x1 (.bool true) (.o1 .not (Va 25))) (.bool true) (.o1 .not (Va 26))) (.ret [.d (.bool false)]) (.ite (.o2 .eq (Va 18) (Vn 0)) (.again 0 [.o2 (.add .i64) (Va 18) (Vn 1)]) (.need (.o2 .le (Vn 0) x4) (.need (.o2 .lt x4 x8) (.call none (.fn 20) [Vl (Va 0) x3,.idx (Va 2) x4 0 .str,.idx (Va 2) (Va 18) 0 .str] [.cell (.slice x2),.cell (.int .i64)] (.call none (.fn 20) [Vl (Va 14) x11,.idx (Va 2) x4 0 .str,.idx (Va 2) (Va 18) 0 .str] [.cell (.slice x2),.cell (.int .i64)] (.call (some (.o1 .not (.ite x12 (.bool true) x13))) (.fn 21) [Va 27,Va 29] [.cell .bool] (.ite (.ite (.ite x12 (.bool true) x13) (.bool true) (.o1 .not (Va 31))) (.ret [.d (.bool false)]) (.again 0 [.o2 (.add .i64) (Va 18) (Vn 1)]))))))))))))))) (.ret [.d (.bool true)])))))))))))))))))
theorem t3_ok:fnO Tryz.prog mdA 3 [.agg liKs,.cell .str,.cell (.slice enKs)]=t3:=by kernel_rfl
theorem c3:J2 Tryz.prog 3=true:=by kernel_rfl
theorem ZcG:lisB runL=true:=by kernel_rfl
def Zb4:List Ent×Int:=Z5I runL [50,46,53]
def Zb3:List Ent×Int:=Z0n runL [50,46,53]
def Zb2:Lis×Int:=Z1p runL [50,46,53] [⟨⟨1,1⟩,⟨0,6⟩⟩]
def ZaZ:Bool:=decide (Zb4.2=0)&&decide (Zb3.2=0)&&decide (Zb2.2=0)&&decide (Zb4.1.length=2)&&decide (Zb3.1.length=2)&&decide (Zb2.1.cues.length=4)&&(match Zb4.1,Zb3.1,Zb2.1.cues with
 | [_,a],[_,b],c::_=>decide (a.va.lev=7)&&decide (b.va.lev=5)&&(match c.moves with| [_,m]=>decide (m.va.lev=6)|_=>false)
 |_,_,_=>false)
theorem Zd1:ZaZ=true:=by kernel_rfl
theorem ZaX:∃(a0 a1 b0 b1:Ent) (c c1 c2 c3:Cue) (m0 m1:Mov) (n p:Int),Zb4=([a0,a1],0)∧a1.va.lev=7∧Zb3=([b0,b1],0)∧b1.va.lev=5∧Zb2=(⟨n,p,[c,c1,c2,c3]⟩,0)∧c.moves=[m0,m1]∧m1.va.lev=6:=by
 have h:=Zd1;unfold ZaZ at h;generalize Zb4=A at h ⊢;generalize Zb3=B at h ⊢;generalize Zb2=C at h ⊢;obtain⟨A,ea⟩:=A;obtain⟨B,eb⟩:=B;obtain⟨⟨n,p,cs⟩,ec⟩:=C;simp only [Bool.and_eq_true,decide_eq_true_eq]at h;obtain⟨⟨⟨⟨⟨⟨rfl,rfl⟩,rfl⟩,h1⟩,h2⟩,h3⟩,h4⟩:=h
 match A,B,cs,h1,h2,h3,h4 with
 | [a0,a1],[b0,b1],[c,c1,c2,c3],_,_,_,h4=>
   simp only [Bool.and_eq_true,decide_eq_true_eq]at h4;obtain⟨⟨g1,g2⟩,g3⟩:=h4;split at g3
   · rename_i m0 m1 hm;exact⟨a0,a1,b0,b1,c,c1,c2,c3,m0,m1,n,p,rfl,g1,rfl,g2,rfl,hm,by simpa using g3⟩
   · cases g3
theorem Z7w:Contract Tryz.prog 11 fun args K=>args=[]∧K [.d (.bool true)]:=by
 refine .of (by kernel_rfl) Zhs ?_;rintro _ K ⟨rfl,hK⟩ hsm;refine⟨[],rfl,trivial,?_⟩;have hl:=ZfU ZcG;obtain⟨a0,a1,b0,b1,c,d1,d2,d3,m0,m1,n,pr,hA,h1,hB,h2,hC,h3,h4⟩:=ZaX;have hes:∀e∈[(⟨⟨1,1⟩,⟨0,6⟩⟩:Ent)],e.Ok:=by intro e he;simp at he;subst he;exact⟨⟨i64d (by decide),i64d (by decide)⟩,i64d (by decide),i64d (by decide)⟩
 have w0:wr64 (wr64 (0+0)+0)=0:=by
   rw [show wr64 (0+0)=0 from Z1 ⟨by decide,by decide⟩];exact Z1 ⟨by decide,by decide⟩
 refine Z0 Z1y ⟨rfl,_,rfl,?_⟩;refine Z0 Z9u ⟨runL,[50,46,53],hl,by simp only [zz,reduceCtorEq,Lis.enc],_,rfl,?_⟩;rw [show Z5I runL [50,46,53]=_ from hA];refine Z0 Z1y ⟨rfl,_,rfl,?_⟩;refine Z0 Z0h ⟨runL,[50,46,53],hl,by simp only [zz,reduceCtorEq,Lis.enc],_,rfl,?_⟩;rw [show Z0n runL [50,46,53]=_ from hB];refine Z0 Z1y ⟨rfl,_,rfl,?_⟩;refine Z0 Za7 ⟨runL,[50,46,53],[⟨⟨1,1⟩,⟨0,6⟩⟩],hl,hes,by simp only [zz,reduceCtorEq,Lis.enc,Ent.enc],_,rfl,?_⟩;rw [show Z1p runL [50,46,53] [⟨⟨1,1⟩,⟨0,6⟩⟩]=_ from hC];intro _ _ _;refine⟨by simp only [zz,reduceCtorEq,Lis.enc,w0] <;> simp,?_⟩;intro _;refine⟨by simp only [zz,reduceCtorEq,Lis.enc,w0] <;> simp,?_⟩;refine⟨by simp only [zz,reduceCtorEq,Lis.enc,w0] <;> simp,?_⟩;refine⟨by simp only [zz,reduceCtorEq,Lis.enc,w0] <;> simp,?_⟩;refine⟨by simp only [zz,reduceCtorEq,Lis.enc,w0,Cue.enc,h3] <;> simp,?_⟩;simp only [zz,reduceCtorEq,Lis.enc,w0,Cue.enc,Ent.enc,Mov.enc,h1,h2,h3,h4];simpa [D.eqb]using hK
theorem Z8c {l:Lis} {s:List UInt8} {keep:Bool} (h1:Ya l s=0) (h:(WN l s keep).2≠0):(WN l s keep).2=5:=by
 unfold WN at h ⊢;rw [if_neg (by simp [h1])]at h ⊢;unfold Wq at h ⊢;split
 · rfl
 · rename_i h4;rw [if_neg h4]at h;exact absurd rfl h
theorem Z7x {l:Lis} {s:List UInt8} {es:List Ent} {only:Bool} (h1:J4 Y2 l=0) (h2:W3 s=0) (h3:Yj es=0) (hp:place l.cues s < 0) (h:(YI l s es 1 only).2≠0):(YI l s es 1 only).2=5:=by
 have hRL:=Zc h1;obtain⟨A,X,B,hS⟩:=ZU h2 hRL.rising hRL.num;have ho:oldC l.cues s=Z0p s:=by
   rcases Z0e hS with⟨_,g,_⟩|⟨j,hj,g,_,_⟩
   · exact g
   · omega
 unfold YI at h ⊢;rw [if_neg (by simp [h1]),if_neg (by simp [h2]),if_neg (by simp [h3]),if_neg (by rw [ho];simp [Z0p])]at h ⊢;unfold Wq at h ⊢;split
 · rfl
 · rename_i h4;rw [if_neg h4]at h;exact absurd rfl h
theorem Z8P {l:Lis} {s:List UInt8} (h:J4 Y2 l=0) (hs:W3 s=0) {A B:List Cue} {c:Cue} (he:l.cues=A++c::B) (hc:c.num=s):Ya l s=0:=by
 have hi:A.length < l.cues.length:=by rw [he];simp
 have hg:l.cues[A.length]=c:=by
   have:l.cues[A.length]? =some c:=by rw [he];simp
   exact(List.getElem?_eq_some_iff.1 this).2
 have:=(Z2Z h hi).1
 rwa [hg,hc]at this
theorem Z5K {l:Lis} {s:List UInt8} {p:Par} {v:Val} (hv:YL l s p=(v,true)):Z0n l s=(Ja l.cues (upto l s),0):=by
 unfold Z0n;rw [if_neg (by simp [(YH hv).1])]
set_option maxHeartbeats 4000000 in
theorem law3_typed:Contract Tryz.prog 3 fun args K=>∃(l:Lis) (s:List UInt8) (es:List Ent),l.Ok∧(∀e∈es,e.Ok)∧args=[.agg l.enc,.str s,.slice (es.map Ent.enc)]∧K [.d (.bool true)]:=by
 refine .of c3 t3_ok ?_;rintro _ K ⟨l,s,es,hl,hes,rfl,hK⟩ hsm;refine⟨l.enc++[.str s,.slice (es.map Ent.enc)],rfl,by exact(Lis.has hl).append (ks':=[.str,.slice enKs]) ⟨trivial,Zi hes,trivial⟩,?_⟩;refine Z0 Z7w ⟨rfl,_,rfl,?_⟩;refine Z6 (by simp only [zz,reduceCtorEq,Lis.enc]) ?_;refine Z0 Z7u ⟨l,hl,by simp only [zz,reduceCtorEq,Lis.enc],fun b hb=>⟨_,rfl,?_⟩⟩;refine W5 Z1Z b [.int .i64 (if b then W3 s else 0)] (by cases b <;> simp only [zz,reduceCtorEq,Lis.enc] <;> rfl) (fun h=>⟨s,by simp only [zz,reduceCtorEq,Lis.enc],by rw [h];rfl⟩) (fun h=>by rw [h];rfl) ?_;refine W5 Zbr (b&&decide (W3 s=0)) [.int .i64 (if b&&decide (W3 s=0)then Yj es else 0)] (by cases b <;> simp only [zz,reduceCtorEq,Lis.enc] <;> simp) (fun h=>⟨es,hes,by simp only [zz,reduceCtorEq,Lis.enc],by rw [h];rfl⟩) (fun h=>by rw [h];rfl) ?_;intro _;by_cases hg:b=true∧W3 s=0∧Yj es=0∧es.length≤12;rotate_left
 · refine W5 Z4N false [.int .i64 0] ?_ (fun h=>by cases h) (fun _=>rfl) ?_
   · cases b
     · simp only [zz,reduceCtorEq,Lis.enc] <;> simp
     · by_cases h2:W3 s=0
       · by_cases h3:Yj es=0
         · have h9:12 < es.length:=by
             rcases Nat.lt_or_ge 12 es.length with h|h
             · exact h
             · exact absurd ⟨rfl,h2,h3,h⟩ hg
           simp only [zz,reduceCtorEq,Lis.enc,List.length_map,h2,h3] <;> first|omega|(simp;done)|(simp;omega)
         · simp only [zz,reduceCtorEq,Lis.enc,List.length_map,h2,h3] <;> first|omega|(simp;done)|(simp;omega)|(simp [h3];done)|(simp [h3];omega)
       · simp only [zz,reduceCtorEq,Lis.enc,List.length_map,h2] <;> first|omega|(simp;done)|(simp;omega)
   refine W8 ?_ ?_
   · cases b
     · simp only [zz,reduceCtorEq,Lis.enc] <;> simp
     · by_cases h2:W3 s=0
       · by_cases h3:Yj es=0
         · have h9:12 < es.length:=by
             rcases Nat.lt_or_ge 12 es.length with h|h
             · exact h
             · exact absurd ⟨rfl,h2,h3,h⟩ hg
           simp only [zz,reduceCtorEq,Lis.enc,List.length_map,h2,h3] <;> first|omega|(simp;done)|(simp;omega)
         · simp only [zz,reduceCtorEq,Lis.enc,List.length_map,h2,h3] <;> first|omega|(simp;done)|(simp;omega)|(simp [h3];done)|(simp [h3];omega)
       · simp only [zz,reduceCtorEq,Lis.enc,List.length_map,h2] <;> first|omega|(simp;done)|(simp;omega)
   simp only [zz,reduceCtorEq,Lis.enc];exact hK
 obtain⟨rfl,h2,h3,h12⟩:=hg;obtain⟨hck,h8⟩:=hb rfl;refine W5 Z4N true [.int .i64 (place l.cues s)] (by simp only [zz,reduceCtorEq,Lis.enc,List.length_map,h2,h3] <;> first|omega|(simp;done)|(simp;omega)) (fun _=>⟨l,s,hl,by simp only [zz,reduceCtorEq,Lis.enc],rfl⟩) (fun h=>by cases h) ?_;by_cases hp:place l.cues s < 0;rotate_left
 · refine W8 (by simp only [zz,reduceCtorEq,Lis.enc,List.length_map,h2,h3] <;> first|omega|(simp;done)|(simp;omega)) ?_;simp only [zz,reduceCtorEq,Lis.enc];exact hK
 refine Z6 (by simp only [zz,reduceCtorEq,Lis.enc,List.length_map,h2,h3] <;> first|omega|(simp;done)|(simp;omega)) ?_;have j1:I64 1:=i64d (by decide);refine Z0 ZaD ⟨l,s,es,1,true,hl,hes,j1,by simp only [zz,reduceCtorEq,Lis.enc],_,rfl,?_⟩;by_cases hr:(YI l s es 1 true).2=0;rotate_left
 · refine W8 (by simp only [zz,reduceCtorEq,Lis.enc,hr]) ?_;simp only [zz,reduceCtorEq,Lis.enc,Z7x hck h2 h3 hp hr];simpa using hK
 refine Z6 (by simp only [zz,reduceCtorEq,Lis.enc,hr]) ?_;obtain⟨e1,F⟩:=Z6r hl hes j1 hck h2 h3 hr;rw [e1,hr];have hRL:=Zc hck;have hc18:Ya {l with cues:=Yg l.cues s es 1 true} s=0:=by
   obtain⟨A,X,B,hS⟩:=ZU h2 hRL.rising hRL.num;have hcn:(setC (oldC l.cues s) es 1).num=s:=by rw [Z2M];exact Z11 hS
   rcases YG hS hRL.rising es 1 true with⟨_,g⟩|⟨d,B',_,g⟩
   · exact Z8P F.ck h2 (A:=A) (B:=[]) (by exact g) hcn
   · exact Z8P F.ck h2 (A:=A) (by exact g) hcn
 generalize Yg l.cues s es 1 true=outA at *;obtain⟨A,c,B,hA⟩:=Z4i F.ok hc18;refine Z0 Z9Z ⟨{l with cues:=outA},s,true,F.ok,by simp only [zz,reduceCtorEq,Lis.enc],_,rfl,?_⟩;by_cases hd:(WN {l with cues:=outA} s true).2=0;rotate_left
 · refine W8 (by simp only [zz,reduceCtorEq,Lis.enc,hd]) ?_;simp only [zz,reduceCtorEq,Lis.enc,Z8c hc18 hd];simpa using hK
 refine Z6 (by simp only [zz,reduceCtorEq,Lis.enc,hd]) ?_;obtain⟨e2,L⟩:=Z7a F.ok hA true hd hc18;rw [e2,hd];have hBk:=Zgf hl hck hp F hA rfl L;have hob:Lis.Ok {l with cues:=W9 outA s true}:=L.ok;have hcb:J4 Y2 {l with cues:=W9 outA s true}=0:=L.ck;generalize W9 outA s true=outB at *;have hlB:outB.length=l.cues.length:=hBk.len;intro _ _;refine Z6 (by simp only [zz,reduceCtorEq,Lis.enc,List.length_map,hlB]) ?_;have hRl:=Zf hl hck;have hRa:=Zf F.ok F.ck;have hRb:=Zf hob hcb;have w0:wr64 (wr64 (0+0)+0)=0:=by
   rw [show wr64 (0+0)=0 from Z1 ⟨by decide,by decide⟩];exact Z1 ⟨by decide,by decide⟩
 have p0:Par.Ok ⟨1,1⟩:=⟨j1,j1⟩
 have look:∀i (hi:i < l.cues.length),Z0n l l.cues[i].num=(Ja l.cues (upto l l.cues[i].num),0)∧Z0n {l with cues:=outA} l.cues[i].num=(Ja outA (upto {l with cues:=outA} l.cues[i].num),0)∧
     Z0n {l with cues:=outB} l.cues[i].num=(Ja outB (upto {l with cues:=outB} l.cues[i].num),0):=fun i hi=>by
   obtain⟨v,v1,v2,v3⟩:=hBk.val i hi _ p0;exact⟨Z5K v1,Z5K v2,Z5K v3⟩
 have ule:∀i (hi:i < l.cues.length),upto l l.cues[i].num≤l.cues.length∧upto {l with cues:=outA} l.cues[i].num≤outA.length∧upto {l with cues:=outB} l.cues[i].num≤outB.length:=fun i hi=>by
   obtain⟨v,v1,v2,v3⟩:=hBk.val i hi _ p0;exact⟨Z3a l _,Z3a {l with cues:=outA} _,Z3a {l with cues:=outB} _⟩
 have same:∀i (hi:i < l.cues.length) p,p.Ok→J3 l.cues p (upto l l.cues[i].num)=J3 outA p (upto {l with cues:=outA} l.cues[i].num)∧J3 l.cues p (upto l l.cues[i].num)=J3 outB p (upto {l with cues:=outB} l.cues[i].num):=fun i hi p hpo=>by
   obtain⟨v,v1,v2,v3⟩:=hBk.val i hi p hpo;have:=(YH v1).2;rw [this];exact⟨(YH v2).2.symm,(YH v3).2.symm⟩
 have c18:∀i (hi:i < l.cues.length),Ya l l.cues[i].num=0∧Ya {l with cues:=outB} l.cues[i].num=0:=fun i hi=>by
   obtain⟨v,v1,v2,v3⟩:=hBk.val i hi _ p0;exact⟨(YH v1).1,(YH v3).1⟩
 refine Jc l.cues (fun _ _ (_:Unit)=>()) (fun i _=>[.int .i64 i]) () () rfl 0 (fun _ _=>rfl) rfl ?_ ?_
 · intro i hi _ _;refine⟨fun _=>⟨by simp only [zz,reduceCtorEq,Lis.enc] <;> omega,?_⟩,fun h=>?_⟩;rotate_left
   · exfalso;simp only [zz,reduceCtorEq,Lis.enc,List.length_map,hi]at h
   obtain⟨k1,k2,k3⟩:=look i hi;obtain⟨u1,u2,u3⟩:=ule i hi;refine Z0 Z0h ⟨l,l.cues[i].num,hl,by simp only [zz,reduceCtorEq,Lis.enc,J0 hi,Cue.enc],_,rfl,?_⟩;rw [k1];refine Z0 Z0h ⟨{l with cues:=outA},l.cues[i].num,F.ok,by simp only [zz,reduceCtorEq,Lis.enc,J0 hi,Cue.enc],_,rfl,?_⟩;rw [k2];refine Z0 Z0h ⟨{l with cues:=outB},l.cues[i].num,hob,by simp only [zz,reduceCtorEq,Lis.enc,J0 hi,Cue.enc],_,rfl,?_⟩;rw [k3];refine W5 Z3i true [.bool true] (by simp only [zz,reduceCtorEq,Lis.enc,w0]) (fun _=>⟨_,_,Wu hRl _,Wu hRa _,YJ hRl _,YJ hRa _,fun p hpo=>?_,by simp only [zz,reduceCtorEq,Lis.enc];exact⟨rfl,rfl⟩,rfl⟩) (fun h=>by cases h) ?_
   · rw [Z0K _ _ u1,Z0K _ _ u2];exact(same i hi p hpo).1
   refine W5 Z3i true [.bool true] (by simp only [zz,reduceCtorEq,Lis.enc,w0]) (fun _=>⟨_,_,Wu hRl _,Wu hRb _,YJ hRl _,YJ hRb _,fun p hpo=>?_,by simp only [zz,reduceCtorEq,Lis.enc];exact⟨rfl,rfl⟩,rfl⟩) (fun h=>by cases h) ?_
   · rw [Z0K _ _ u1,Z0K _ _ u3];exact(same i hi p hpo).2
   refine Z6 (by simp only [zz,reduceCtorEq,Lis.enc,w0]) ?_;have hwi:wr64 ((i:Int)+1)=((i+1:Nat):Int):=by rw [Z1] <;> omega
   cases i with
   | zero=>
     refine W8 (by simp only [zz,reduceCtorEq,Lis.enc] <;> simp) ?_;simp only [zz,reduceCtorEq,Lis.enc];exact⟨(),by rw [Z1] <;> omega⟩
   | succ k=>
     have hk:k < l.cues.length:=by omega
     have hwk:wr64 (((k+1:Nat):Int) - 1)=(k:Int):=by rw [Z1] <;> omega
     refine Z6 (by simp only [zz,reduceCtorEq,Lis.enc] <;> simp <;> omega) ?_;refine⟨by simp only [zz,reduceCtorEq,Lis.enc,hwk] <;> omega,by simp only [zz,reduceCtorEq,Lis.enc,hwk,List.length_map] <;> omega,?_⟩;have hch:JG l l.cues[k].num l.cues[k+1].num=JG {l with cues:=outB} l.cues[k].num l.cues[k+1].num:=by
       unfold JG;rw [if_neg (by simp [(c18 k hk).1]),if_neg (by simp [(c18 (k+1) hi).1]),if_neg (by simp [(c18 k hk).2]),if_neg (by simp [(c18 (k+1) hi).2])];congr 1;refine ZbA (ule k hk).1 (ule (k+1) hi).1 (ule k hk).2.2 (ule (k+1) hi).2.2 fun p hpm=>?_
       have hpo:p.Ok:=hpm.elim (fun h=>(Jt hRl p h).1) fun h=>(Jt hRb p h).1
       exact⟨(same k hk p hpo).2,(same (k+1) hi p hpo).2⟩
     have hc0:(JG l l.cues[k].num l.cues[k+1].num).2=0:=by
       unfold JG;rw [if_neg (by simp [(c18 k hk).1]),if_neg (by simp [(c18 (k+1) hi).1])]
     have hco:∀e∈(JG l l.cues[k].num l.cues[k+1].num).1,e.Ok:=by
       unfold JG;rw [if_neg (by simp [(c18 k hk).1]),if_neg (by simp [(c18 (k+1) hi).1])];intro e he;unfold Ja at he;simp only [Z1g]at he;obtain⟨q,hq,rfl⟩:=List.mem_map.1 he;exact⟨(Jt hRl q (List.mem_filter.1 hq).1).1,Yv hRl _ _⟩
     refine Z0 Z4b ⟨l,l.cues[k].num,l.cues[k+1].num,hl,by simp only [zz,reduceCtorEq,Lis.enc,hwk,J0 hi,J0 hk,Cue.enc],_,rfl,?_⟩;refine Z0 Z4b ⟨{l with cues:=outB},l.cues[k].num,l.cues[k+1].num,hob,by simp only [zz,reduceCtorEq,Lis.enc,hwk,J0 hi,J0 hk,Cue.enc],_,rfl,?_⟩;rw [←hch,hc0];refine W5 Zbq true [.bool true] (by simp only [zz,reduceCtorEq,Lis.enc]) (fun _=>⟨_,hco,by simp only [zz,reduceCtorEq,Lis.enc],rfl⟩) (fun h=>by cases h) ?_;refine Z6 (by simp only [zz,reduceCtorEq,Lis.enc]) ?_;simp only [zz,reduceCtorEq,Lis.enc];exact⟨(),by rw [Z1] <;> omega⟩
 · intro _ _;refine⟨fun h=>?_,fun _=>?_⟩
   · exfalso;simp only [zz,reduceCtorEq,Lis.enc,List.length_map,Nat.lt_irrefl]at h
   simp only [zz,reduceCtorEq,Lis.enc];exact hK
theorem law3e:Contract Tryz.prog 3 (Z7H Tryz.prog 3):=
 law3_typed.weaken fun args K _ h=>by
   obtain⟨h1,h2,hK⟩:=ZeO [.agg liKs,.cell .str,.cell (.slice enKs)] (by kernel_rfl) h
   match args,h1 with
   | [a,b,c],_=>
     obtain⟨l,hl,rfl⟩:=Lis.ofAgg (h2 0 _ _ rfl rfl);obtain⟨s,rfl⟩:=Z8y (h2 1 _ _ rfl rfl);obtain⟨es,hes,rfl⟩:=Z2L (enc:=Ent.enc) (Ok:=Ent.Ok) (fun ds h=>Ent.of h) (h2 2 _ _ rfl rfl);exact⟨l,s,es,hl,hes,rfl,hK⟩
end Go.Sx.La
