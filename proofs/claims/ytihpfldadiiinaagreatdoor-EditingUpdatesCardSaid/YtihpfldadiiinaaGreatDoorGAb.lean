/-
 Part 2 of the proof: the executor over the kit's code with its soundness, or contracts of functions.
-/
import Derived.Test.YtihpfldadiiinaaGreatDoorGAa
import Derived.Laws.Tables
import Derived.Great.BuildSlice
import Derived.Laws.MakeOwn
import Derived.Laws.StructEq
import Derived.Laws.Slices
import Derived.Laws.Strings3
import Derived.Carry
set_option linter.unusedSimpArgs false
set_option linter.unusedVariables false
set_option linter.unusedSectionVars false
set_option linter.defProp false
set_option maxRecDepth 100000
namespace Go.Sx
open Go Go.RowKit
theorem Z0l {σ:Names} {m:Mem} {ρ:List D} {E:Env} {st:St TK} {a:Act} {w:World} (hf:Fits E σ m (W0 ρ st) a w) (hok:st.Ok ρ):
   ∀ {ks:List K} {vs:List (SV TK)} {ts:List T},allT st.objs ks vs=some ts→(∀v∈vs,SV.Ok ρ v)→
     ts.length=vs.length∧ks.length=vs.length∧LOks ρ ks ts∧∀(i:Nat) v u,vs[i]? =some v→RS σ m ρ v u→∃t,ts[i]? =some t∧RepD m (den ρ t) u:=by
 intro ks;induction ks with
 | nil=>
   intro vs ts h hk;cases vs with
   |nil=>simp [allT]at h;subst h;exact⟨rfl,rfl,.nil,by simp⟩
   |cons v vs=>simp [allT]at h
 | cons k ks ih=>
   intro vs ts h hk;cases vs with
   |nil=>simp [allT]at h
   | cons v vs=>
     simp only [allT]at h;split at h <;> try contradiction
     rename_i t ts' h1 h2;cases h;obtain⟨l1,l2,l3,l4⟩:=ih h2 fun v hv=>hk v (List.mem_cons_of_mem _ hv)
     have hkv:=hk v (List.mem_cons_self);have key:LOk ρ ⟨t,k⟩∧∀u,RS σ m ρ v u→RepD m (den ρ t) u:=by
       unfold asT at h1;split at h1 <;> try contradiction
       · split at h1 <;> try contradiction
         rename_i x hb;cases h1;have:=K.eq_of_beq hb;subst this;exact⟨by cases hkv;assumption,fun u hu=>hu.d_inv⟩
       · rename_i ob;split at h1 <;> try contradiction
         rename_i x hx;split at h1 <;> try contradiction
         rename_i hb;cases h1;have:=K.eq_of_beq hb;subst this;have hko:=hok.objs _ (List.mem_of_getElem? hx);have hr:=hf.objs ob (.farr (denL ρ x)) (by simp [W0,St.map,hx,OV.map]);refine⟨by cases hko;assumption,fun u hu=>?_⟩;simp only [RS,SV.map]at hu;cases hr with
         | farr hs hd=>
           cases hu with
           |own ho=>rw [hs]at ho;cases ho;exact hd
       · split at h1 <;> try contradiction
         cases h1;refine⟨.nils _,fun u hu=>?_⟩;simp only [RS,SV.map]at hu;cases hu;simp only [den];exact .empty _ 0
       · rename_i ob off;split at h1 <;> try contradiction
         rename_i _ _ cs kks hob;split at h1 <;> try contradiction
         rename_i hb;simp only [Bool.and_eq_true,beq_iff_eq]at hb;cases h1;have hkk:=K.eq_of_beqL hb.1;have hoff:=hb.2;subst hoff;have hko:=hok.objs _ (List.mem_of_getElem? hob);have hr:=hf.objs ob (.fbox (cs.map (denL ρ))) (by simp [W0,St.map,hob,OV.map]);have hks:∀c∈cs,LOk ρ c:=by cases hko;assumption
         have hl:LOks ρ kks (cs.map (·.t)):=by
           rw [←hkk];clear hkk hb hr hko hob;induction cs with
           |nil=>exact .nil
           |cons c cs ih=>exact .cons (hks c List.mem_cons_self) (ih fun c hc=>hks c (List.mem_cons_of_mem _ hc))
         refine⟨.ptr hl,fun u hu=>?_⟩;simp only [RS,SV.map]at hu;cases hr with
         | fbox hs hd=>
           cases hu with
           | ptr ho=>
             rw [hs]at ho;cases ho;simp only [den,W9,D.list,List.map_map];exact hd
     refine⟨by simp [l1],by simp [l2],.cons key.1 l3,?_⟩;intro i v' u hv hu;cases i with
     |zero=>simp at hv;subst hv;exact⟨t,rfl,key.2 u hu⟩
     |succ i=>simp at hv;obtain⟨t',ht',hr'⟩:=l4 i v' u hv hu;exact⟨t',by simpa using ht',hr'⟩
section
variable {E:Env} {ρ:List D} {σ:Names} {m:Mem} {st:St TK} {a:Act} {w:World}
section ops
variable (hf:Fits E σ m (W0 ρ st) a w) (hok:st.Ok ρ) {g:Option T} (hg:∀c,g=some c→den ρ c=.bool true) {o:Oper} {s:Sym}
include hf hok hg
theorem Z6u {t:TypeId} {x y:Operand} (ho:o.op=.indexAddr t x y) (h:sxOp E.P g st o=some s) (hn:∀t∈s.needs,den ρ t=.bool true):OpOk E ρ σ m st a w o s:=by
 have hx:=Y5 hf hok hg x;have hy:=Y5 hf hok hg y;simp only [sxOp,ho]at h;generalize thaw st.objs (Y4 g (look st x))=xx at *;generalize thaw st.objs (Y4 g (look st y))=yy at *;split at h <;> try contradiction
 · rename_i el it k hu;have ki:=Jc hy.2;obtain⟨n,hin,hev,n1,n2⟩:=RS.int hy.1 ki;split at h <;> try contradiction
   · rename_i sl ks;split at h <;> try contradiction
     rename_i hsz;cases h;simp only [Bool.and_eq_true,beq_iff_eq,Option.isSome_iff_exists]at hsz;obtain⟨hsz,i,hi⟩:=hsz;have kx:=Jc hx.2;obtain⟨xs,hxs,hel⟩:=kx.1.slice_inv;simp only at hxs;have b1:=hn _ List.mem_cons_self;have b2:=hn _ (List.mem_cons_of_mem _ List.mem_cons_self);simp only [den,hin,hxs,O2.eval,O1.eval,D.bool.injEq,decide_eq_true_eq]at b1 b2;have hlt:n.toNat < xs.length:=by omega
     have hd:=hx.1.d_inv;simp only [denL,hxs]at hd;generalize hevx:a.eval x=ev at hd;cases hd with
     |empty=>simp at hlt
     | slice _ b off arr bt fz e c hc hcap hm he hfit hv=>
       have hxi:xs[n.toNat]? =some xs[n.toNat]:=by simp [hlt]
       have hmem:=List.mem_of_getElem? hxi;have hle:=(hel _ hmem).length;have hee:=he _ hmem;have hie:i.size=e:=by rw [Je hi]at hsz;omega
       refine .val hf hok (v:=.pointer (some ⟨b,off+n.toNat * e,none⟩)) ?_ ?_ (.elt kx ki) (by simp)
       · simp only [execOp,ho,hevx,hev];simp [Instr.indexAt,asIntOf,run_underlying hu,sizeOf,typeInfo,hi,hie,b1,b2,Z1y]
       · have e1:denL ρ ⟨sl,.slice ks⟩=.slice xs:=hxs;have e2:denL ρ ⟨it,.int k⟩=.int k n:=hin;simp only [RS,SV.map,e1,e2];have:=RepS.elt (σ:=σ) (off:=0) (k:=k) b1 hxi hm (base:=off+n.toNat * e) (by
           have:n.toNat * e+e≤xs.length * e:=by
             calc n.toNat * e+e=(n.toNat+1) * e:=by rw [Nat.add_mul,Nat.one_mul]
               _≤xs.length * e:=Nat.mul_le_mul_right _ (by omega)
           omega) (fun j d u hd hu=>hv n.toNat j _ d u hxi hd hu)
         simpa using this
   · rename_i ob;split at h <;> try contradiction
     rename_i e' z hob;split at h <;> try contradiction
     rename_i hsz;cases h;simp only [Bool.and_eq_true,beq_iff_eq,Option.isSome_iff_exists]at hsz;obtain⟨hsz,i,hi⟩:=hsz;have ho':=JB hf hok hg hob;have hr:=ho'.1;simp only [OV.map]at hr;have hp:=hx.1;simp only [RS,SV.map]at hp;have b1:=hn _ List.mem_cons_self;have b2:=hn _ (List.mem_cons_of_mem _ List.mem_cons_self);generalize hz:denL ρ z=dz at hr;simp only [denL]at hz;generalize hevx:a.eval x=ev at hp;cases hp with
     | own hσ=>
       cases hr with
       | none hs=>
         simp only [den,hin,hz,O2.eval,O1.eval,D.bool.injEq,decide_eq_true_eq]at b1 b2;simp at b2;omega
       | arr hs hb h0c hc hcc hcap hsz' he hv=>
         rename_i xs b c arr bt;rw [hs]at hσ;cases hσ;simp only [den,hin,hz,O2.eval,O1.eval,D.bool.injEq,decide_eq_true_eq]at b1 b2;have hlt:n.toNat < xs.length:=by omega
         have hie:i.size=e':=by rw [Je hi]at hsz;exact hsz
         refine .val hf hok (v:=.pointer (some ⟨b,n.toNat * e',none⟩)) ?_ ?_ (.oelt ki) (by simp)
         · simp only [execOp,ho,hevx,hev];simp [Instr.indexAt,asIntOf,run_underlying hu,sizeOf,typeInfo,hi,hie,b1,b2,Z1y]
         · have e2:denL ρ ⟨it,.int k⟩=.int k n:=hin;simp only [RS,SV.map,e2];have:=RepS.oelt (σ:=σ) (m:=m) (o:=ob) (e:=e') (off:=0) (k:=k) b1 hlt hs;simpa using this
   · -- nothing to point at
     split at h <;> try contradiction
     split at h <;> try contradiction
     cases h;exfalso;have b1:=hn _ List.mem_cons_self;have b2:=hn _ (List.mem_cons_of_mem _ List.mem_cons_self);simp only [den,hin,O2.eval,O1.eval,D.bool.injEq,decide_eq_true_eq,List.length_nil]at b1 b2;simp at b2;omega
 · -- an array in a box
   rename_i n' el it k hu;have ki:=Jc hy.2;obtain⟨n,hin,hev,n1,n2⟩:=RS.int hy.1 ki;split at h <;> try contradiction
   rename_i ob;split at h <;> try contradiction
   rename_i hsz;cases h;simp only [Bool.and_eq_true,beq_iff_eq,Option.isSome_iff_exists]at hsz;obtain⟨hsz,i,hi⟩:=hsz;have hp:=hx.1;simp only [RS,SV.map]at hp;have b1:=hn _ List.mem_cons_self;have b2:=hn _ (List.mem_cons_of_mem _ List.mem_cons_self);simp only [den,hin,O2.eval,D.bool.injEq,decide_eq_true_eq]at b1 b2;generalize hevx:a.eval x=ev at hp;cases hp with
   | ptr hσ=>
     rename_i b;have hie:i.size=1:=by rw [Je hi]at hsz;exact hsz
     refine .val hf hok (v:=.pointer (some ⟨b,n.toNat,none⟩)) ?_ ?_ (.bptr ki) (by simp)
     · simp only [execOp,ho,hevx,hev];simp [Instr.indexAt,asIntOf,run_underlying hu,sizeOf,typeInfo,hi,hie,b1,b2,Z1y,Instr.sureAddr]
     · have e2:denL ρ ⟨it,.int k⟩=.int k n:=hin;simp only [RS,SV.map,e2];exact .bptr b1 (by omega) hσ
theorem Zcc {t:TypeId} {x y:Operand} (ho:o.op=.index t x y) (h:sxOp E.P g st o=some s) (hn:∀t∈s.needs,den ρ t=.bool true):OpOk E ρ σ m st a w o s:=by
 have hx:=Y5 hf hok hg x;have hy:=Y5 hf hok hg y;simp only [sxOp,ho]at h;generalize thaw st.objs (Y4 g (look st x))=xx at *;generalize thaw st.objs (Y4 g (look st y))=yy at *;split at h <;> try contradiction
 · -- an array
   rename_i n el cs it k hu;have ki:=Jc hy.2;obtain⟨iv,hin,hev,n1,n2⟩:=RS.int hy.1 ki;split at h <;> try contradiction
   rename_i ke hke;split at h <;> try contradiction
   rename_i hc;simp only [Bool.and_eq_true,beq_iff_eq]at hc;obtain⟨⟨hc1,hc2⟩,hc3⟩:=hc;split at h <;> try contradiction
   rename_i ts hts;cases h;have hka:∀c∈cs,SV.Ok ρ c:=by have:=hx.2;cases this;assumption
   obtain⟨l1,l2,l3,l4⟩:=Z0l hf hok hts hka;have b1:=hn _ List.mem_cons_self;have b2:=hn _ (List.mem_cons_of_mem _ List.mem_cons_self);simp only [den,hin,O2.eval,D.bool.injEq,decide_eq_true_eq]at b1 b2;have hp:=hx.1;simp only [RS,SV.map]at hp;generalize hevx:a.eval x=ev at hp;generalize hcs:SV.mapL (denL ρ) cs=mcs at hp;rw [SV.mapL_eq]at hcs;cases hp with
   | agg hsz hv=>
     rename_i arr;rw [←hcs,List.length_map]at hsz;have hlt:iv.toNat < cs.length:=by omega
     have hlt':iv.toNat < arr.size:=by omega
     have hci:cs[iv.toNat]? =some cs[iv.toNat]:=by simp [hlt]
     have hai:arr[iv.toNat]? =some arr[iv.toNat]:=by simp [hlt']
     obtain⟨t',ht',hrt⟩:=l4 iv.toNat _ _ hci (hv iv.toNat _ _ (by rw [←hcs];simp [hlt]) hai);obtain⟨i,hi⟩:∃i,E.P.info? el=some i:=by
       unfold YN at hc2;cases hu':E.P.underlying el with
       |none=>rw [hu']at hc2;simp at hc2
       |some d=>exact Jn hu'
     have his:i.size=1:=by rw [Je hi]at hc1;exact hc1
     have hA:(isAgg el).run E.P w=.ok false w:=by
       unfold YN at hc2;cases hu':E.P.underlying el with
       |none=>rw [hu']at hc2;simp at hc2
       |some d=>rw [hu']at hc2;cases d <;> first|(simp at hc2;done)|(simp [isAgg,run_underlying hu'])
     refine .val hf hok (v:=arr[iv.toNat]) ?_ (.d ?_) (.d ?_) (by simp)
     · simp only [execOp,ho,hevx,hev];have hc3':iv < (n:Int):=by omega
       simp [Instr.index,asIntOf,run_underlying hu,b1,hc3',sizeOf,typeInfo,hi,his,part,hA,hai]
     · have ht2:ts.getD iv.toNat (.bool false)=t':=by simp [List.getD,ht']
       simp only [denL,den,hin,W9,D.list,D.cellAt];simpa [List.getD,ht']using hrt
     · refine⟨?_,fun rs=>by simp only [den];rw [(LOk.list l3.1 l3.2).2 rs,ki.2 rs]⟩;show HasK ke (den ρ (.sel (T.list ts) it ke));simp only [den,hin,W9,D.list,D.cellAt];have hg:=HasKs.get l3.1 (i:=iv.toNat) (k:=ke) (by rw [List.getElem?_replicate];rw [if_pos (by omega)]);obtain⟨d,hd,hh⟩:=hg;simp [List.getD,hd];simp at hd;obtain⟨t2,h2,h3⟩:=hd;simp [h2,h3,hh]
 · rename_i sl it k hu;have ki:=Jc hy.2;obtain⟨iv,hin,hev,n1,n2⟩:=RS.int hy.1 ki;cases h;have kx:=Jc hx.2;obtain⟨l,hl,hv,hcap⟩:=RS.str hx.1 kx;have b1:=hn _ List.mem_cons_self;have b2:=hn _ (List.mem_cons_of_mem _ List.mem_cons_self);simp only [den,hin,hl,O2.eval,O1.eval,D.bool.injEq,decide_eq_true_eq]at b1 b2;have hlt:iv.toNat < l.length:=by omega
   have hb:(⟨l.toArray⟩:ByteArray)[iv.toNat]? =some l[iv.toNat]:=by
     rw [getElem?_pos _ _ (by rw [Wu];exact hlt)];rfl
   refine .val hf hok (v:=.int .u8 (l[iv.toNat].toNat:Nat)) ?_ (.d ?_) (.d (kx.sidx ki)) (by simp)
   · simp only [execOp,ho,hv,hev];simp [Instr.index,asIntOf,run_underlying hu,b1,hb]
   · simp only [denL,den,hl,hin,O2.eval];have:l.getD iv.toNat 0=l[iv.toNat]:=by simp [List.getD,hlt]
     rw [this];exact .int _ _
end ops
end
theorem Z2T (w:World) (o:Obj):(w.alloc o).heap[w.heap.size]? =some o:=heap_alloc_new w o
section
variable {E:Env} {ρ:List D} {σ:Names} {m:Mem} {st:St TK} {a:Act} {w:World}
theorem Zt:∀ {ks:List K} {vs:List Value} {cs:List (SV TK)},sxOp.zeroCells ks vs=some cs→
   cs.length=vs.length∧cs.length=ks.length∧(∀(i:Nat) c v,cs[i]? =some c→vs[i]? =some v→RS σ m ρ c v)∧∀c∈cs,SV.Ok ρ c
 | [],[],cs,h=>by simp [sxOp.zeroCells]at h;subst h;exact⟨rfl,rfl,by simp,by simp⟩
 | [],_::_,_,h=>by simp [sxOp.zeroCells]at h
 |_::_,[],_,h=>by simp [sxOp.zeroCells]at h
 | k ::ks,v::vs,cs,h=>by
   have step:∀ {c:SV TK} {r:List (SV TK)},sxOp.zeroCells ks vs=some r→RS σ m ρ c v→SV.Ok ρ c→
       (c::r).length=(v::vs).length∧(c::r).length=(k::ks).length∧(∀(i:Nat) c' v',(c::r)[i]? =some c'→(v::vs)[i]? =some v'→RS σ m ρ c' v')∧∀c'∈c::r,SV.Ok ρ c':=by
     intro c r hr hc hk;obtain⟨h1,h2,h3,h4⟩:=Zt hr;refine⟨by simp [h1],by simp [h2],?_,?_⟩
     · intro i c' v' hc' hv';cases i with
       |zero=>simp at hc' hv';subst hc' hv';exact hc
       |succ i=>simp at hc' hv';exact h3 i c' v' hc' hv'
     · intro c' hc';rcases List.mem_cons.1 hc' with rfl|hc'
       · exact hk
       · exact h4 c' hc'
   have hv:=Z5N (σ:=σ) (m:=m) (ρ:=ρ) v;simp only [sxOp.zeroCells]at h;split at h <;> try contradiction
   · rename_i x r h1 h2;split at h <;> try contradiction
     cases h;rw [h1]at hv;exact step h2 hv.1 hv.2
   · rename_i r h1 h2;cases h;rw [h1]at hv;exact step h2 hv.1 hv.2
   · rename_i r h1 h2;split at h <;> try contradiction
     all_goals
       cases h;exact step h2 .any .any
theorem Zf (ov:OV TK):W0 ρ ⟨st.tmps,st.objs++[ov]⟩=⟨(W0 ρ st).tmps,(W0 ρ st).objs++[ov.map (denL ρ)]⟩:=by
 simp [W0,St.map]
theorem Z6:(W0 ρ st).objs.length=st.objs.length:=by simp [W0,St.map]
theorem Ye (ob:Nat) (ov:OV TK):W0 ρ ⟨st.tmps,st.objs.set ob ov⟩=⟨(W0 ρ st).tmps,(W0 ρ st).objs.set ob (ov.map (denL ρ))⟩:=by
 simp [W0,St.map,List.map_set]
theorem J1 (σ:Names) (n:Nat) (v:Value):(σ.add n v) n=some v:=by simp [Names.add]
theorem OpOk.new (hf:Fits E σ m (W0 ρ st) a w) (hok:st.Ok ρ) {o:Oper} {ns fs:List T} {sv:SV TK} {v0:Value} {arr:Array Value} {t:TypeId} {ov:OV TK}
   (hr:(execOp a.eval o).run E.P w=.ok (.value v0) (w.alloc (.cells arr t))) (hb:∀b,blk v0=some b→b=w.heap.size)
   (hrep:RepO (σ.add st.objs.length v0) m (w.alloc (.cells arr t)) st.objs.length (ov.map (denL ρ))) (hs:∀σ':Names,σ' st.objs.length=some v0→RS σ' m ρ sv v0)
   (hk:SV.Ok ρ sv) (hko:OV.Ok ρ ov) (hfs:∀t∈fs,den ρ t=.bool true) (hal:(ov.map (denL ρ)).alive=true:=by rfl):OpOk E ρ σ m st a w o ⟨ns,fs,sv,some (st.objs++[ov])⟩:=by
 have hA:=hf.alloc arr t v0 (ov.map (denL ρ)) hb (by rw [Z6];exact hrep) hal;rw [Z6]at hA;refine⟨v0,_,σ.add st.objs.length v0,m,?_,Mem.le_refl m,.inl hr,?_,hs _ (J1 _ _ _),hk,?_,hfs,by simp⟩
 · have:=Names.le_add hf.dom (Nat.le_refl _) v0;rw [Z6]at this;exact this
 · simp only [Option.getD_some];rw [Zf];exact hA
 · intro x hx;simp only [Option.getD_some]at hx;rcases List.mem_append.1 hx with hx|hx
   · exact hok.objs x hx
   · simp at hx;subst hx;exact hko
theorem Z7V {cs:List (SV TK)} {arr:Array Value} {t:TypeId} {n:Nat} (hdom:σ.le (σ.add n (.pointer (some ⟨w.heap.size,0,none⟩)))) (hsz:arr.size=cs.length)
   (hv:∀(i:Nat) c v,cs[i]? =some c→arr[i]? =some v→RS σ m ρ c v):
   RepO (σ.add n (.pointer (some ⟨w.heap.size,0,none⟩))) m (w.alloc (.cells arr t)) n (OV.map (denL ρ) (.box cs)):=by
 simp only [OV.map];refine .box (b:=w.heap.size) (J1 _ _ _) (Z2T w _) (by simp [hsz]) fun i c v hc hu=>?_
 simp only [List.getElem?_map,Option.map_eq_some_iff]at hc;obtain⟨c',hc',rfl⟩:=hc;exact(hv i c' v hc' hu).mono hdom (Mem.le_refl m)
section ops
variable (hf:Fits E σ m (W0 ρ st) a w) (hok:st.Ok ρ) {g:Option T} (hg:∀c,g=some c→den ρ c=.bool true) {o:Oper} {s:Sym}
include hf hok hg
theorem Yt (v0:Value):σ.le (σ.add st.objs.length v0):=by
 have:=Names.le_add hf.dom (Nat.le_refl _) v0;rw [Z6]at this;exact this
theorem Zch {t:TypeId} (ho:o.op=.alloc t) (h:sxOp E.P g st o=some s):OpOk E ρ σ m st a w o s:=by
 simp only [sxOp,ho]at h;split at h <;> try contradiction
 rename_i ks z hks hz;split at h <;> try contradiction
 rename_i cs hcs;cases h;obtain⟨l1,l2,l3,l4⟩:=Zt (σ:=σ) (m:=m) (ρ:=ρ) hcs;obtain⟨i,hi,hiz⟩:=Option.bind_eq_some_iff.1 hz;refine .new hf hok (v0:=.pointer (some ⟨w.heap.size,0,none⟩)) (arr:=z.cells) (t:=t) ?_ (by intro b hb;cases hb;rfl) (Z7V (Yt hf hok hg _) (by simpa using l1.symm) (fun i c v hc hv=>l3 i c v hc (by simpa using hv))) (fun σ' h'=>.ptr h') .ptr (.box l4) (by simp);simp [execOp,ho,Instr.alloc,zeroValue,typeInfo,hi,hiz,newVar,newRow,run_newObj_alloc]
theorem Z1T {v:SV TK} {u:Value} (h:Z4K st.objs v=true) (hr:RS σ m ρ v u) (hk:SV.Ok ρ v):u.oneCell'=true:=by
 unfold Z4K at h;split at h <;> try contradiction
 · rename_i x;have k:=Jc hk;have hd:=hr.d_inv;have hkk:=k.1;cases x with
   | mk t kk=>
     simp only [denL]at hd hkk h;generalize den ρ t=d at *;cases hd <;> first|rfl|(cases kk <;> simp [HasK,K.flat]at hkk h)
 · simp only [RS,SV.map]at hr;cases hr;rfl
 · simp only [RS,SV.map]at hr;cases hr;rfl
 · obtain⟨xs,y,k,n,b,base,arr,bt,fz,hs,hi,h0,hy,hm,hsz,hv,rfl⟩:=RS.elt_inv hr;rfl
 · simp only [RS,SV.map]at hr;generalize denL ρ _=di at hr;cases hr;rfl
 · simp only [RS,SV.map]at hr;cases hr;rfl
 · rename_i ob;split at h <;> try contradiction
   rename_i e x hob;have hr':=(JB hf hok hg hob).1;simp only [OV.map]at hr';simp only [RS,SV.map]at hr;generalize denL ρ x=dx at hr';cases hr with
   | own hσ=>
     cases hr' with
     |none hs=>rw [hs]at hσ;cases hσ;rfl
     |arr hs=>rw [hs]at hσ;cases hσ;rfl
   · rename_i hob;have hr':=(JB hf hok hg hob).1;simp only [OV.map]at hr';simp only [RS,SV.map]at hr;cases hr with
     | own hσ=>
       cases hr' with
       |yld hs=>rw [hs]at hσ;cases hσ;rfl
   · rename_i x hob;have hr':=(JB hf hok hg hob).1;simp only [OV.map]at hr';simp only [RS,SV.map]at hr;generalize denL ρ x=dx at hr';cases hr with
     | own hσ=>
       cases hr' with
       |mp hs=>rw [hs]at hσ;cases hσ;rfl
theorem Z75 {u:Value} (h:u.oneCell'=true):u.cells= #[u]:=by
 cases u <;> simp [Value.oneCell']at h <;> rfl
theorem Z0t {v:SV TK} {u:Value} (hr:RS σ m ρ v u) (hk:SV.Ok ρ v) (h:ZaN st.objs v=true):
   u.cells.size=(cellsOf v).length∧(∀(i:Nat) c x,(cellsOf v)[i]? =some c→u.cells[i]? =some x→RS σ m ρ c x)∧∀c∈cellsOf v,SV.Ok ρ c:=by
 cases v with
 | agg cs=>
   simp only [RS,SV.map]at hr;generalize hcs:SV.mapL (denL ρ) cs=mcs at hr;rw [SV.mapL_eq]at hcs;cases hr with
   | agg hsz hv=>
     refine⟨by simp [Value.cells,cellsOf,hsz, ←hcs],fun i c x hc hx=>?_,fun c hc=>by cases hk;rename_i h';exact h' c hc⟩;exact hv i _ x (by rw [←hcs];simp only [cellsOf]at hc;simp [hc]) (by simpa [Value.cells]using hx)
 | _=>
   simp only [ZaN]at h;have h1:=Z1T hf hok hg h hr hk;rw [Z75 hf hok hg h1];refine⟨rfl,fun i c x hc hx=>?_,fun c hc=>by simp [cellsOf]at hc;subst hc;exact hk⟩;simp only [cellsOf]at hc;cases i with
   |zero=>simp at hc hx;subst hc hx;exact hr
   |succ i=>simp at hc
theorem Zh4 {t:TypeId} {x:Operand} (ho:o.op=.box t x) (h:sxOp E.P g st o=some s):OpOk E ρ σ m st a w o s:=by
 have hx:=Y5 hf hok hg x;simp only [sxOp,ho]at h;generalize thaw st.objs (Y4 g (look st x))=xx at *;have run:(execOp a.eval o).run E.P w=.ok (.value (.pointer (some ⟨w.heap.size,0,none⟩))) (w.alloc (.cells (a.eval x).cells t)):=by
   simp [execOp,ho,Instr.box,newVar,newRow,run_newObj_alloc]
 split at h
 · rename_i cs;cases h;obtain⟨h1,h2,h3⟩:=Z0t hf hok hg hx.1 hx.2 rfl;simp only [cellsOf]at h1 h2 h3;exact .new hf hok run (by intro b hb;cases hb;rfl) (Z7V (Yt hf hok hg _) h1 h2) (fun σ' h'=>.ptr h') .ptr (.box h3) (by simp)
 · rename_i hna;split at h <;> try contradiction
   rename_i hc;cases h;obtain⟨h1,h2,h3⟩:=Z0t hf hok hg hx.1 hx.2 (by cases xx <;> first|exact hc|exact absurd rfl (hna _));have e:cellsOf xx=[xx]:=by cases xx <;> first|rfl|exact absurd rfl (hna _)
   rw [e]at h1 h2 h3;exact .new hf hok run (by intro b hb;cases hb;rfl) (Z7V (Yt hf hok hg _) h1 h2) (fun σ' h'=>.ptr h') .ptr (.box h3) (by simp)
end ops
end
def putCells (arr:Array Value) (off:Nat) (vs:List Value):Array Value:=vs.zipIdx.foldl (fun cs (c,j)=>cs.setIfInBounds (off+j) c) arr
theorem Z7l (off:Nat):∀(vs:List Value) (k:Nat) (arr:Array Value),
   ((vs.zipIdx k).foldl (fun cs (c,j)=>cs.setIfInBounds (off+j) c) arr).size=arr.size∧
   ∀q,((vs.zipIdx k).foldl (fun cs (c,j)=>cs.setIfInBounds (off+j) c) arr)[q]? =if off+k≤q∧q < off+k+vs.length∧q < arr.size then vs[q - (off+k)]? else arr[q]?
 | [],k,arr=>by
   refine⟨rfl,fun q=>?_⟩;simp;omega
 | v ::vs,k,arr=>by
   simp only [List.zipIdx_cons,List.foldl_cons];obtain⟨h1,h2⟩:=Z7l off vs (k+1) (arr.setIfInBounds (off+k) v);refine⟨by rw [h1];simp,fun q=>?_⟩;rw [h2];simp only [Array.size_setIfInBounds,Array.getElem?_setIfInBounds,List.length_cons];by_cases hq:q=off+k
   · subst hq;by_cases hs:off+k < arr.size
     · rw [if_neg (by omega),if_pos rfl,if_pos hs,if_pos (by omega)];simp
     · rw [if_neg (by omega),if_pos rfl,if_neg hs,if_neg (by omega)];rw [Array.getElem?_eq_none (by omega)]
   · by_cases hc:off+(k+1)≤q∧q < off+(k+1)+vs.length∧q < arr.size
     · rw [if_pos hc,if_pos (by omega)];have:q - (off+k)=(q - (off+(k+1)))+1:=by omega
       rw [this];simp
     · rw [if_neg hc,if_neg (fun e=>hq e.symm),if_neg (by omega)]
theorem Y9 (arr:Array Value) (off:Nat) (vs:List Value):(putCells arr off vs).size=arr.size:=(Z7l off vs 0 arr).1
theorem We (arr:Array Value) (off:Nat) (vs:List Value) (h:off+vs.length≤arr.size) (q:Nat):(putCells arr off vs)[q]? =if off≤q∧q < off+vs.length then vs[q - off]? else arr[q]?:=by
 have:=(Z7l off vs 0 arr).2 q;unfold putCells;rw [this];simp only [Nat.add_zero];by_cases hc:off≤q∧q < off+vs.length
 · rw [if_pos hc,if_pos (by omega)]
 · rw [if_neg hc,if_neg (by omega)]
section
variable {E:Env} {ρ:List D} {σ:Names} {m:Mem} {st:St TK} {a:Act} {w:World}
theorem Z37 {cs xs:List (SV TK)} {arr:Array Value} {vs:List Value} {off:Nat} (hsz:arr.size=cs.length) (hv:∀(i:Nat) c v,cs[i]? =some c→arr[i]? =some v→RS σ m ρ c v)
   (hl:vs.length=xs.length) (hx:∀(i:Nat) c v,xs[i]? =some c→vs[i]? =some v→RS σ m ρ c v) (hfit:off+xs.length≤cs.length):
   (putCells arr off vs).size=(cs.take off++xs++cs.drop (off+xs.length)).length∧
   ∀(i:Nat) c v,(cs.take off++xs++cs.drop (off+xs.length))[i]? =some c→(putCells arr off vs)[i]? =some v→RS σ m ρ c v:=by
 have hlen:(cs.take off).length=off:=by simp;omega
 refine⟨by rw [Y9];simp;omega,fun i c v hc hu=>?_⟩;rw [We _ _ _ (by omega)]at hu;rw [List.append_assoc,List.getElem?_append,hlen]at hc;by_cases h1:i < off
 · rw [if_pos h1]at hc;rw [if_neg (by omega)]at hu;rw [List.getElem?_take,if_pos h1]at hc;exact hv i c v hc hu
 · rw [if_neg h1,List.getElem?_append]at hc;by_cases h2:i - off < xs.length
   · rw [if_pos h2]at hc;rw [if_pos (by omega)]at hu;exact hx (i - off) c v hc hu
   · rw [if_neg h2,List.getElem?_drop]at hc;rw [if_neg (by omega)]at hu;exact hv i c v (by rw [←hc];congr 1;omega) hu
theorem Z4D {α:Type} {cs xs:List α} {off n:Nat} {c:α} (h:c∈cs.take off++xs++cs.drop n):c∈cs∨c∈xs:=by
 rcases List.mem_append.1 h with h|h
 · rcases List.mem_append.1 h with h|h
   · exact .inl (List.mem_of_mem_take h)
   · exact .inr h
 · exact .inl (List.mem_of_mem_drop h)
section ops
variable (hf:Fits E σ m (W0 ρ st) a w) (hok:st.Ok ρ) {g:Option T} (hg:∀c,g=some c→den ρ c=.bool true) {o:Oper} {s:Sym}
include hf hok hg
theorem Z7K {place:Nat→Option (Nat×Nat)}:∀ {parts:List (Nat×SV TK)} {vals:List (Nat×Value)} {cs cs':List (SV TK)} {arr:Array Value},sxOp.fillParts st.objs place cs parts=some cs'→
   vals.map (·.1)=parts.map (·.1)→(∀(i:Nat) p u,parts[i]? =some p→vals[i]? =some u→RS σ m ρ p.2 u.2)→(∀p∈parts,SV.Ok ρ p.2)→
   arr.size=cs.length→(∀(i:Nat) c v,cs[i]? =some c→arr[i]? =some v→RS σ m ρ c v)→(∀c∈cs,SV.Ok ρ c)→
   ∃arr',Instr.fill place arr vals=some arr'∧arr'.size=cs'.length∧(∀(i:Nat) c v,cs'[i]? =some c→arr'[i]? =some v→RS σ m ρ c v)∧∀c∈cs',SV.Ok ρ c
 | [],vals,cs,cs',arr,h,hi,_,_,hsz,hv,hk=>by
   simp at hi;subst hi;simp [sxOp.fillParts]at h;subst h;exact⟨arr,rfl,hsz,hv,hk⟩
 | (i, sv)::parts,vals,cs,cs',arr,h,hi,hp,hpk,hsz,hv,hk=>by
   cases vals with
   |nil=>simp at hi
   | cons u vals=>
     obtain⟨i',u⟩:=u;simp at hi;obtain⟨rfl,hi⟩:=hi;simp only [sxOp.fillParts]at h;split at h <;> try contradiction
     rename_i off n hpl;split at h <;> try contradiction
     rename_i hc;simp only [Bool.and_eq_true,beq_iff_eq,decide_eq_true_eq]at hc;obtain⟨⟨hc1,hc2⟩,hc3⟩:=hc;have hr:=hp 0 _ _ rfl rfl;have hkk:=hpk _ List.mem_cons_self;obtain⟨k1,k2,k3⟩:=Z0t hf hok hg hr hkk hc3;simp only at k1 k2 k3;obtain⟨s1,s2⟩:=Z37 (σ:=σ) (m:=m) (ρ:=ρ) (off:=off) hsz hv (vs:=u.cells.toList) (by simpa using k1) (by simpa using k2) (by omega);rw [hc1]at s1 s2;obtain⟨arr',f1,f2,f3,f4⟩:=Z7K h hi (fun q p x h1 h2=>hp (q+1) p x (by simpa using h1) (by simpa using h2)) (fun p hp'=>hpk p (List.mem_cons_of_mem _ hp')) s1 s2
       (fun c hc'=>by rcases Z4D hc' with h'|h';exact hk c h';exact k3 c h')
     refine⟨arr',?_,f2,f3,f4⟩;simp only [Instr.fill,hpl];rw [if_neg (by simp;omega), ←f1];congr 1;unfold putCells;rw [←Array.foldl_toList,Array.toList_zipIdx]
theorem Zcf {t:TypeId} {parts:Array (Nat×Operand)} (ho:o.op=.build t parts) (h:sxOp E.P g st o=some s):OpOk E ρ σ m st a w o s:=by
 simp only [sxOp,ho]at h;have hparts:∀(i:Nat) p u,(parts.toList.map fun(i,x)=>(i,thaw st.objs (Y4 g (look st x))))[i]? =some p→(parts.toList.map fun(i,x)=>(i,a.eval x))[i]? =some u→RS σ m ρ p.2 u.2:=by
   intro i p u h1 h2;simp only [List.getElem?_map,Option.map_eq_some_iff]at h1 h2;obtain⟨q,hq,rfl⟩:=h1;obtain⟨q',hq',rfl⟩:=h2;rw [hq]at hq';cases hq';exact(Y5 hf hok hg q.2).1
 have hpk:∀p∈(parts.toList.map fun(i,x)=>(i,thaw st.objs (Y4 g (look st x)))),SV.Ok ρ p.2:=by
   intro p hp;obtain⟨q,_,rfl⟩:=List.mem_map.1 hp;exact(Y5 hf hok hg q.2).2
 have hidx:(parts.toList.map fun(i,x)=>(i,a.eval x)).map (·.1)=(parts.toList.map fun(i,x)=>(i,thaw st.objs (Y4 g (look st x)))).map (·.1):=by simp
 have fin:∀ {cs:List (SV TK)} {arr:Array Value},E.P.built t (parts.toList.map fun(i,x)=>(i,a.eval x))=some arr→arr.size=cs.length→(∀(i:Nat) c v,cs[i]? =some c→arr[i]? =some v→RS σ m ρ c v)→(∀c∈cs,SV.Ok ρ c)→
     OpOk E ρ σ m st a w o ⟨[],[],.agg cs,none⟩:=by
   intro cs arr hb hsz hv hk;have run:=run_build (P:=E.P) w t (parts.map fun(i,x)=>(i,a.eval x)) arr (by simpa using hb);refine .val hf hok (v:=.agg arr) (by simp only [execOp,ho];simp [run]) ?_ (.agg hk) (by simp);simp only [RS,SV.map,SV.mapL_eq];refine .agg (by simp [hsz]) fun i c v hc hu=>?_
   simp only [List.getElem?_map,Option.map_eq_some_iff]at hc;obtain⟨c',hc',rfl⟩:=hc;exact hv i c' v hc' hu
 split at h <;> try contradiction
 · rename_i ks z fs hks hz hu;split at h <;> try contradiction
   rename_i cs hcs;split at h <;> try contradiction
   rename_i hall;split at h <;> try contradiction
   rename_i cs' hcs';cases h;obtain⟨l1,l2,l3,l4⟩:=Zt (σ:=σ) (m:=m) (ρ:=ρ) hcs;obtain⟨it,hit,hiz⟩:=Option.bind_eq_some_iff.1 hz;obtain⟨arr,f1,f2,f3,f4⟩:=Z7K hf hok hg hcs' hidx hparts hpk (arr:=z.cells) (by simpa using l1.symm) (fun i c v hc hv=>l3 i c v hc (by simpa using hv)) l4;refine fin (arr:=arr) ?_ f2 f3 f4;have hplaces:fs.toList.mapM (fun f=>(E.P.info? f.type).map fun i=>(f.offset,i.size))=some (fs.toList.map fun f=>(f.offset,E.P.cellsOf f.type)):=by
     simp only [List.all_eq_true]at hall;generalize fs.toList=l at hall;induction l with
     |nil=>rfl
     | cons f l ih=>
       have h1:=hall f List.mem_cons_self;obtain⟨i,hi⟩:=Option.isSome_iff_exists.1 h1;have h2:=ih fun x hx=>hall x (List.mem_cons_of_mem _ hx)
       simp [List.mapM_cons,hi,h2,Program.cellsOf]
   simp only [Program.built,hit,hu,hiz,hplaces];have he:(fun(x:Nat)=>((fs.toList.map fun(f:Field)=>(f.offset,E.P.cellsOf f.type)).toArray)[x]?)=fun(i:Nat)=>(fs[i]?).map fun(f:Field)=>(f.offset,E.P.cellsOf f.type):=by
     funext i;simp
   rw [he];exact f1
 · rename_i ks z n e hks hz hu;split at h <;> try contradiction
   rename_i cs hcs;split at h <;> try contradiction
   rename_i hall;split at h <;> try contradiction
   rename_i cs' hcs';cases h;obtain⟨l1,l2,l3,l4⟩:=Zt (σ:=σ) (m:=m) (ρ:=ρ) hcs;obtain⟨it,hit,hiz⟩:=Option.bind_eq_some_iff.1 hz;obtain⟨arr,f1,f2,f3,f4⟩:=Z7K hf hok hg hcs' hidx hparts hpk (arr:=z.cells) (by simpa using l1.symm) (fun i c v hc hv=>l3 i c v hc (by simpa using hv)) l4;refine fin (arr:=arr) ?_ f2 f3 f4;obtain⟨ie,hie⟩:=Option.isSome_iff_exists.1 hall;simp only [Program.built,hit,hu,hiz,hie];rw [Je hie]at f1;exact f1
end ops
end
structure Flat (m:Mem) (e:Nat) (xs:List (List D)) (arr:Array Value):Prop where
 fit:xs.length * e≤arr.size
 he:∀x∈xs,x.length=e
 hv:∀(i j:Nat) x d v,xs[i]? =some x→x[j]? =some d→arr[i * e+j]? =some v→RepD m d v
theorem Flat.snoc {m:Mem} {e:Nat} {xs:List (List D)} {arr:Array Value} (h:Flat m e xs arr) {x:List D} {vs:List Value} (hx:x.length=e) (hl:vs.length=e)
   (hv:∀(j:Nat) d v,x[j]? =some d→vs[j]? =some v→RepD m d v) {arr':Array Value} (hold:∀q,q < xs.length * e→arr'[q]? =arr[q]?)
   (hnew:∀j,j < e→arr'[xs.length * e+j]? =vs[j]?) (hfit:(xs.length+1) * e≤arr'.size):Flat m e (xs++[x]) arr':=by
 refine⟨by simpa using hfit,fun y hy=>by rcases List.mem_append.1 hy with hy|hy;exact h.he y hy;simp at hy;subst hy;exact hx,?_⟩;intro i j y d v hi hj hu;rw [List.getElem?_append]at hi;split at hi
 · rename_i hlt;have hy:=h.he y (List.mem_of_getElem? hi);have hje:j < e:=by rw [←hy];exact(List.getElem?_eq_some_iff.1 hj).1
   have:i * e+j < xs.length * e:=by
     calc i * e+j < i * e+e:=by omega
       _=(i+1) * e:=by rw [Nat.add_mul,Nat.one_mul]
       _≤xs.length * e:=Nat.mul_le_mul_right _ (by omega)
   rw [hold _ this]at hu;exact h.hv i j y d v hi hj hu
 · rename_i hlt;have hi0:i=xs.length:=by
     have:=(List.getElem?_eq_some_iff.1 hi).1;simp at this;omega
   subst hi0;simp at hi;subst hi;have hje:j < e:=by rw [←hx];exact(List.getElem?_eq_some_iff.1 hj).1
   rw [hnew j hje]at hu;exact hv j d v hj hu
section
variable {E:Env} {ρ:List D} {σ:Names} {m:Mem} {st:St TK} {a:Act} {w:World}
section ops
variable (hf:Fits E σ m (W0 ρ st) a w) (hok:st.Ok ρ) {g:Option T} (hg:∀c,g=some c→den ρ c=.bool true) {o:Oper} {s:Sym}
include hf hok hg
theorem Zbt {sv:SV TK} {u:Value} {ks:List K} {ts:List T} (hr:RS σ m ρ sv u) (hk:SV.Ok ρ sv) (h:allT st.objs ks (cellsOf sv)=some ts) (hflat:ks.all K.flat=true):
   u.cells.size=ks.length∧LOks ρ ks ts∧ts.length=ks.length∧(∀(j:Nat) d v,(ts.map (den ρ))[j]? =some d→u.cells[j]? =some v→RepD m d v)∧∀v∈u.cells.toList,v.oneCell'=true:=by
 have hka:∀v∈cellsOf sv,SV.Ok ρ v:=by
   intro v hv;cases sv with
   |agg cs=>cases hk;rename_i h';exact h' v hv
   |_=>simp [cellsOf]at hv;subst hv;exact hk
 obtain⟨l1,l2,l3,l4⟩:=Z0l hf hok h hka;have one:∀ {k:K} {t:T} {v:Value},k.flat=true→HasK k (den ρ t)→RepD m (den ρ t) v→v.oneCell'=true:=by
   intro k t v hkf hkk hd;generalize den ρ t=d at *;cases hd <;> first|rfl|(cases k <;> simp [HasK,K.flat]at hkk hkf)
 have flatAt:∀ {j:Nat} {k:K},ks[j]? =some k→k.flat=true:=fun {j k} hj=>(List.all_eq_true.1 hflat) k (List.mem_of_getElem? hj)
 have hcell:u.cells.size=(cellsOf sv).length∧∀(j:Nat) c v,(cellsOf sv)[j]? =some c→u.cells[j]? =some v→RS σ m ρ c v:=by
   cases sv with
   | agg cs=>
     simp only [RS,SV.map]at hr;generalize hcs:SV.mapL (denL ρ) cs=mcs at hr;rw [SV.mapL_eq]at hcs;cases hr with
     | agg hsz hv=>
       refine⟨by simp [Value.cells,cellsOf,hsz, ←hcs],fun i c x hc hx=>?_⟩;exact hv i _ x (by rw [←hcs];simp only [cellsOf]at hc;simp [hc]) (by simpa [Value.cells]using hx)
   | _=>
     simp only [cellsOf]at l1 l2 l4 ⊢;simp at l1 l2;obtain⟨t,ht,hd⟩:=l4 0 _ u rfl hr;have hkt:=HasKs.get l3.1 (i:=0) (k:=ks[0]) (by simp [l2]);obtain⟨d,hdd,hkk⟩:=hkt;simp [ht]at hdd;subst hdd;have h1:=one (flatAt (j:=0) (k:=ks[0]) (by simp [l2])) hkk hd;rw [Z75 hf hok hg h1];refine⟨rfl,fun i c x hc hx=>?_⟩;cases i with
     |zero=>simp at hc hx;subst hc hx;exact hr
     |succ i=>simp at hc
 refine⟨by rw [hcell.1,l2],l3,by rw [l1,l2],?_,?_⟩
 · intro j d v hd hv;simp only [List.getElem?_map,Option.map_eq_some_iff]at hd;obtain⟨t,ht,rfl⟩:=hd;have hj:j < (cellsOf sv).length:=by rw [←l1];exact(List.getElem?_eq_some_iff.1 ht).1
   obtain⟨t',ht',hr'⟩:=l4 j _ v (List.getElem?_eq_getElem hj) (hcell.2 j _ v (List.getElem?_eq_getElem hj) hv);rw [ht]at ht';cases ht';exact hr'
 · intro v hv;obtain⟨j,hj,rfl⟩:=List.mem_iff_getElem.1 hv;have hj':j < (cellsOf sv).length:=by rw [←hcell.1];simpa using hj
   have hvj:u.cells[j]? =some u.cells.toList[j]:=by simp at hj;simp [hj]
   obtain⟨t',ht',hr'⟩:=l4 j _ _ (List.getElem?_eq_getElem hj') (hcell.2 j _ _ (List.getElem?_eq_getElem hj') hvj);have hjk:j < ks.length:=by rw [l2];exact hj'
   obtain⟨d,hdd,hkk⟩:=HasKs.get l3.1 (i:=j) (k:=ks[j]) (by simp [hjk]);simp [ht']at hdd;subst hdd;exact one (flatAt (j:=j) (k:=ks[j]) (by simp [hjk])) hkk hr'
theorem Z4t {ks:List K} (hflat:ks.all K.flat=true):∀ {vs:List (SV TK)} {us:List Value} {acc t:T} {xs:List (List D)} {arr:Array Value} {k:Nat},sxOp.pushAll st.objs ks acc vs=some t→
   us.length=vs.length→(∀(i:Nat) v u,vs[i]? =some v→us[i]? =some u→RS σ m ρ v u)→(∀v∈vs,SV.Ok ρ v)→
   LOk ρ ⟨acc,.slice ks⟩→den ρ acc=.slice xs→Flat m ks.length xs arr→xs.length=k→(k+vs.length) * ks.length≤arr.size→
   ∃arr' xs',Instr.fill (fun i=>some (i * ks.length,ks.length)) arr ((us.zipIdx k).map fun p=>(p.2,p.1))=some arr'∧arr'.size=arr.size∧den ρ t=.slice xs'∧xs'.length=k+vs.length∧Flat m ks.length xs' arr'∧LOk ρ ⟨t,.slice ks⟩
 | [],us,acc,t,xs,arr,k,h,hl,_,_,hacc,hd,hfl,hk,hfit=>by
   simp at hl;subst hl;simp [sxOp.pushAll]at h;subst h;exact⟨arr,xs,rfl,rfl,hd,by simpa using hk,hfl,hacc⟩
 | sv :: vs,us,acc,t,xs,arr,k,h,hl,hr,hka,hacc,hd,hfl,hk,hfit=>by
   cases us with
   |nil=>simp at hl
   | cons u us=>
     simp only [sxOp.pushAll]at h;split at h <;> try contradiction
     rename_i ts hts;obtain⟨c1,c2,c3,c4,c5⟩:=Zbt hf hok hg (hr 0 _ _ rfl rfl) (hka _ List.mem_cons_self) hts hflat;simp only [List.length_cons]at hfit hl;have hk1:(k+1) * ks.length≤arr.size:=Nat.le_trans (Nat.mul_le_mul_right _ (by omega)) hfit;have hk2:k * ks.length+ks.length≤arr.size:=by rw [Nat.add_mul,Nat.one_mul]at hk1;exact hk1
     have hpush:den ρ (.push acc (T.list ts))=.slice (xs++[ts.map (den ρ)]):=by simp only [den,hd,W9,D.list,D.push]
     have hfl':Flat m ks.length (xs++[ts.map (den ρ)]) (putCells arr (k * ks.length) u.cells.toList):=by
       refine hfl.snoc (vs:=u.cells.toList) (by simp [c3]) (by simpa using c1) (fun j d v a b=>c4 j d v a (by simpa using b)) (fun q hq=>?_) (fun j hj=>?_) (by rw [Y9,hk];exact hk1)
       · rw [hk]at hq;rw [We _ _ _ (by simp [c1];omega),if_neg (by omega)]
       · rw [hk,We _ _ _ (by simp [c1];omega),if_pos (by simp [c1];omega)];congr 1;omega
     obtain⟨arr',xs',f1,f2,f3,f4,f5,f6⟩:=Z4t hflat h (us:=us) (by omega) (fun i v x a b=>hr (i+1) v x (by simpa using a) (by simpa using b)) (fun v hv=>hka v (List.mem_cons_of_mem _ hv))
       (hacc.push c2) hpush hfl' (by simp [hk]) (k:=k+1) (by rw [Y9];rw [Nat.add_assoc,Nat.add_comm 1];exact hfit)
     refine⟨arr',xs',?_,by rw [f2,Y9],f3,by simp [f4];omega,f5,f6⟩;simp only [List.zipIdx_cons,List.map_cons,Instr.fill];rw [if_neg (by simp [c1];omega), ←f1];congr 1;unfold putCells;rw [←Array.foldl_toList,Array.toList_zipIdx]
theorem Zb1 {n:Nat} {v0:Value} {b c:Nat} {arr:Array Value} {t:TypeId} {e:Nat} {xs:List (List D)} {w':World} {σ':Names} (hs:σ' n=some (.slice (some ⟨b,0,none⟩) xs.length c)) (hb:w'.heap[b]? =some (.cells arr t (0,0)))
   (hc:xs.length≤c) (hcc:c≤maxLen) (hcap:xs.length≤cap) (hsz:arr.size=c * e) (hfl:Flat m e xs arr):RepO σ' m w' n (.arr e (.slice xs)):=by
 rcases Nat.eq_zero_or_pos c with h0|h0
 · subst h0;have:xs=[]:=List.eq_nil_of_length_eq_zero (by omega);subst this;exact .none hs
 · exact .arr hs hb h0 hc hcc hcap hsz hfl.he hfl.hv
theorem Zbw {b n c q:Nat} (h:blk (.slice (some ⟨q,0,none⟩) n c)=some b):b=q:=by
 simp only [blk]at h;split at h
 · cases h
 · cases h;rfl
theorem Z5t {t:TypeId} {n:Nat} {parts:Array (Nat×Operand)} (ho:o.op=.buildSlice t n parts) (h:sxOp E.P g st o=some s):OpOk E ρ σ m st a w o s:=by
 simp only [sxOp,ho]at h;split at h <;> try contradiction
 rename_i el hu;split at h <;> try contradiction
 rename_i ks info hks hi;split at h <;> try contradiction
 rename_i hc;simp only [Bool.and_eq_true,beq_iff_eq,decide_eq_true_eq,Option.isSome_iff_exists]at hc;obtain⟨⟨⟨⟨⟨c1,c2⟩,c3⟩,c4⟩,c5⟩,z,c6⟩:=hc;split at h <;> try contradiction
 rename_i t' ht';cases h;have hlenp:parts.toList.length=n:=by have:=congrArg List.length c3;simpa using this
 have hvs:(parts.toList.map fun p=>thaw st.objs (Y4 g (look st p.2))).length=n:=by simp [hlenp]
 have hfit:(0+n) * ks.length≤((Array.range (n * info.size)).map (z.cells[· % z.cells.size]!)).size:=by simp [c1]
 obtain⟨arr',xs',f1,f2,f3,f4,f5,f6⟩:=Z4t hf hok hg c2 ht' (us:=parts.toList.map fun p=>a.eval p.2) (by simp) (fun i v u h1 h2=>by
     simp only [List.getElem?_map,Option.map_eq_some_iff]at h1 h2;obtain⟨q,hq,rfl⟩:=h1;obtain⟨q',hq',rfl⟩:=h2;rw [hq]at hq';cases hq';exact(Y5 hf hok hg q.2).1)
   (fun v hv=>by obtain⟨q,_,rfl⟩:=List.mem_map.1 hv;exact(Y5 hf hok hg q.2).2) (.nils ks) (xs:=[]) (by simp [den]) (k:=0)
   (arr:=(Array.range (n * info.size)).map (z.cells[· % z.cells.size]!)) ⟨by simp,by simp,by simp⟩ rfl (by rw [hvs];exact hfit)
 have hparts:(((parts.toList.map fun p=>a.eval p.2).zipIdx 0).map fun p=>(p.2,p.1))=parts.toList.map fun(i,x)=>(i,a.eval x):=by
   apply List.ext_getElem
   · simp
   · intro i h1 h2;have hi:i < parts.toList.length:=by simpa using h1
     have:(parts.toList.map (·.1))[i]'(by simpa using hi)=i:=by
       have:(parts.toList.map (·.1))[i]? =some i:=by rw [c3,List.getElem?_range (by omega)]
       rw [List.getElem?_eq_getElem (by simpa using hi)]at this;simpa using this
     simp at this;simp [this]
 rw [hparts]at f1;have hsz:arr'.size=n * ks.length:=by rw [f2];simp [c1]
 have hxl:xs'.length=n:=by rw [f4,hvs];simp
 have run:(execOp a.eval o).run E.P w=.ok (.value (.slice (some ⟨w.heap.size,0,none⟩) n n)) (w.alloc (.cells arr' el)):=by
   by_cases hpos:n * info.size=0
   · simp only [execOp,ho];have hz:(if n * info.size=0 then(#[]:Array Value)else z.cells)= #[]:=by rw [if_pos hpos]
     have h0:(Array.range (n * info.size)).map (fun x=>(#[]:Array Value)[x % (#[]:Array Value).size]!)=(Array.range (n * info.size)).map (z.cells[· % z.cells.size]!):=by rw [hpos];simp
     have f1':=f1;rw [←c1, ←h0]at f1';simp [hpos]at f1';simp [Instr.buildSlice,run_underlying hu,sizeOf,typeInfo,hi,hpos,newRow,f1',run_newObj_alloc]
   · simp only [execOp,ho];have:=run_buildSlice (P:=E.P) w t el n (parts.map fun(i,x)=>(i,a.eval x)) arr' info z hu hi c6 (by omega) hpos (by rw [c1];rw [c1]at f1;simpa using f1);simp [this]
 have hmax:n≤maxLen:=by simp only [cap]at c5;simp only [maxLen];omega
 have hnn:(Value.slice (some ⟨w.heap.size,0,none⟩) n n)=.slice (some ⟨w.heap.size,0,none⟩) xs'.length n:=by rw [hxl]
 refine .new hf hok run (fun b hb=>Zbw hf hok hg hb) ?_ (fun σ' h'=>.own h') .own (.arr f6) (by simp);simp only [OV.map];have hd:denL ρ ⟨t',.slice ks⟩=.slice xs':=f3;rw [hd,hnn];exact Zb1 hf hok hg (v0:=.nilFunc) (by rw [J1]) (Z2T w _) (by omega) hmax (by omega) (by rw [hsz]) f5
end ops
end
theorem Flat.of_cells {m:Mem} {e:Nat} {xs:List (List D)} {arr arr':Array Value} (h:Flat m e xs arr) (hs:∀q,q < xs.length * e→arr'[q]? =arr[q]?) (hfit:xs.length * e≤arr'.size):Flat m e xs arr':=by
 refine⟨hfit,h.he,fun i j x d v hi hj hu=>?_⟩;have hy:=h.he x (List.mem_of_getElem? hi);have hje:j < e:=by rw [←hy];exact(List.getElem?_eq_some_iff.1 hj).1
 have hlt:=(List.getElem?_eq_some_iff.1 hi).1;have:i * e+j < xs.length * e:=by
   calc i * e+j < i * e+e:=by omega
     _=(i+1) * e:=by rw [Nat.add_mul,Nat.one_mul]
     _≤xs.length * e:=Nat.mul_le_mul_right _ (by omega)
 rw [hs _ this]at hu;exact h.hv i j x d v hi hj hu
theorem Flat.append {m:Mem} {e:Nat} {xs ys:List (List D)} {arr:Array Value} (h:Flat m e xs arr) {news:Array Value} (h2:Flat m e ys news) {arr':Array Value}
   (hold:∀q,q < xs.length * e→arr'[q]? =arr[q]?) (hnew:∀q,q < ys.length * e→arr'[xs.length * e+q]? =news[q]?) (hfit:(xs.length+ys.length) * e≤arr'.size):Flat m e (xs++ys) arr':=by
 refine⟨by simpa using hfit,fun y hy=>by rcases List.mem_append.1 hy with hy|hy;exact h.he y hy;exact h2.he y hy,?_⟩;intro i j y d v hi hj hu;rw [List.getElem?_append]at hi;split at hi
 · rename_i hlt;have hy:=h.he y (List.mem_of_getElem? hi);have hje:j < e:=by rw [←hy];exact(List.getElem?_eq_some_iff.1 hj).1
   have:i * e+j < xs.length * e:=by
     calc i * e+j < i * e+e:=by omega
       _=(i+1) * e:=by rw [Nat.add_mul,Nat.one_mul]
       _≤xs.length * e:=Nat.mul_le_mul_right _ (by omega)
   rw [hold _ this]at hu;exact h.hv i j y d v hi hj hu
 · rename_i hlt;have hy:=h2.he y (List.mem_of_getElem? hi);have hje:j < e:=by rw [←hy];exact(List.getElem?_eq_some_iff.1 hj).1
   have hlt2:=(List.getElem?_eq_some_iff.1 hi).1;have h3:(i - xs.length) * e+j < ys.length * e:=by
     calc (i - xs.length) * e+j < (i - xs.length) * e+e:=by omega
       _=(i - xs.length+1) * e:=by rw [Nat.add_mul,Nat.one_mul]
       _≤ys.length * e:=Nat.mul_le_mul_right _ (by omega)
   have h4:i * e+j=xs.length * e+((i - xs.length) * e+j):=by
     have:i=xs.length+(i - xs.length):=by omega
     calc i * e+j=(xs.length+(i - xs.length)) * e+j:=by rw [←this]
       _=_:=by rw [Nat.add_mul,Nat.add_assoc]
   rw [h4,hnew _ h3]at hu;exact h2.hv (i - xs.length) j y d v hi hj hu
section
variable {P:Program} (w:World)
theorem JC (t ty e bt:TypeId) (i:TypeInfo) (ht:P.underlying t=some (.slice e)) (hi:P.info? e=some i)
   (g sLen sCap:Nat) (cur:Array Value) (hg:w.heap[g]? =some (.cells cur bt (0,0))) (x:Value) (m:Nat) (news:List Value)
   (hx:(Builtin.lenOf x).run P w=.ok m w) (hf:(Builtin.firstCells i.size m x).run P w=.ok news.toArray w) (h1:∀u∈news,u.oneCell'=true)
   (hroom:sLen+m≤sCap) (hfit:sLen * i.size+news.length≤cur.size):
   (Builtin.append_ #[t,t] ty #[.slice (some ⟨g,0,none⟩) sLen sCap,x]).run P w=
     .ok (.slice (some ⟨g,0,none⟩) (sLen+m) sCap) (w.setRow g (cur.toList.take (sLen * i.size)++news++cur.toList.drop (sLen * i.size+news.length)).toArray):=by
 have hst:=run_storeCells_at P g (sLen * i.size) bt news 0 cur w hg (by simpa using hfit) h1;simp only [Nat.add_zero]at hst;simp [Builtin.append_,run_underlying ht,sizeOf,typeInfo,hi,hx,hroom,hf,Addr.add_lit,hst]
end
section
variable {E:Env} {σ:Names} {m:Mem} {st:St D} {a:Act} {w:World}
theorem Fits.moveObj (h:Fits E σ m st a w) {w':World} {o:Nat} {ov ov':OV D} {v0:Value} {row:Option Nat} (ho:st.objs[o]? =some ov) (ha:ov.alive=true)
   (hg:Grown w w' row) (hrow:∀b,row=some b→(σ o).bind blk=some b) (h':RepO (σ.add st.objs.length v0) m w' st.objs.length ov')
   (hb:∀b,blk v0=some b→(σ o).bind blk=some b∨w.heap.size≤b) (hal:ov'.alive=true):
   Fits E (σ.add st.objs.length v0) m ⟨st.tmps,st.objs.set o .dead++[ov']⟩ a w':=by
 have hk:Fits E σ m ⟨st.tmps,st.objs.set o .dead⟩ a w':=by
   cases row with
   |none=>exact(h.kill o).world hg (by simp)
   |some b=>exact h.update ho ha (hrow b rfl) hg .dead (.inr rfl)
 have hn:=hk.newObj (v0:=v0) (ov:=ov') (by simpa using h') (hy:=by rintro rfl;cases hal) (hsv:=by rintro cs rfl;cases hal) fun b hbb hal=>by
   rcases hb b hbb with hb|hb
   · have hs:=h.sep o ov b ho ha hb;refine⟨hs.1,hs.2,fun o' u hu hua hbu=>?_⟩;simp only at hu;rcases Y0 hu with⟨rfl,rfl,_⟩|⟨hne,hu⟩
     · simp [OV.alive]at hua
     · exact hne (h.inj o o' ov u b ho hu ha hua hb hbu)
   · obtain⟨f1,f2,f3⟩:=h.fresh hb;refine⟨f1,f2,fun o' u hu hua hbu=>?_⟩;simp only at hu;rcases Y0 hu with⟨rfl,rfl,_⟩|⟨hne,hu⟩
     · simp [OV.alive]at hua
     · exact f3 o' u hu hua hbu
 simpa using hn
theorem Fits.addObj (h:Fits E σ m st a w) {w':World} {ov':OV D} {v0:Value} (hg:Grown w w' none) (h':RepO (σ.add st.objs.length v0) m w' st.objs.length ov') (hb:∀b,blk v0=some b→w.heap.size≤b) (hal:ov'.alive=true):
   Fits E (σ.add st.objs.length v0) m ⟨st.tmps,st.objs++[ov']⟩ a w':=by
 have hk:=h.world hg (by simp);exact hk.newObj h' (hy:=by rintro rfl;cases hal) (hsv:=by rintro cs rfl;cases hal) fun b hbb hal=>h.fresh (hb b hbb)
end
structure Src (P:Program) (m:Mem) (w:World) (e:Nat) (x:Value) (ys:List (List D)):Prop where
 src:∃(ad:Option Addr) (c:Nat) (news:Array Value),x=.slice ad ys.length c∧news.size=ys.length * e∧Flat m e ys news∧(∀u∈news.toList,u.oneCell'=true)∧
   (ys≠[]→∃b,ad=some b∧∀(j:Nat) u,news[j]? =some u→w.cell? (b.add j)=some u)
theorem Src.len {P:Program} {m:Mem} {w:World} {e:Nat} {x:Value} {ys:List (List D)} (h:Src P m w e x ys):(Builtin.lenOf x).run P w=.ok ys.length w:=by
 obtain⟨ad,c,news,rfl,_⟩:=h.src;simp [Builtin.lenOf]
theorem Src.first {P:Program} {m:Mem} {w:World} {e:Nat} {x:Value} {ys:List (List D)} (h:Src P m w e x ys):
   ∃news:Array Value,(Builtin.firstCells e ys.length x).run P w=.ok news w∧news.size=ys.length * e∧Flat m e ys news∧(∀u∈news.toList,u.oneCell'=true):=by
 obtain⟨ad,c,news,rfl,hsz,hfl,h1,hc⟩:=h.src;refine⟨news,?_,hsz,hfl,h1⟩;cases ys with
 | nil=>
   have:news= #[]:=by apply Array.eq_empty_of_size_eq_zero;simpa using hsz
   subst this;cases ad with
   |none=>simp [Builtin.firstCells]
   |some b=>simp [Builtin.firstCells,loadCells,loadCellsFrom]
 | cons y ys=>
   obtain⟨b,rfl,hb⟩:=hc (by simp);have:=run_firstCells_some (P:=P) w e (y::ys).length b (y::ys).length c news.toList (by simpa using hsz) (fun j v hj=>hb j v (by simpa using hj));simpa using this
theorem Wr {P:Program} (w:World) (t ty e:TypeId) (i:TypeInfo) (z:Value) (ht:P.underlying t=some (.slice e)) (hi:P.info? e=some i) (hz:i.zero=some z)
   (base:Option Addr) (sLen sCap:Nat) (olds:Array Value) (ho:(Builtin.firstCells i.size sLen (.slice base sLen sCap)).run P w.drew=.ok olds w.drew)
   (x:Value) (n:Nat) (news:Array Value) (hx:(Builtin.lenOf x).run P w=.ok n w) (hf:(Builtin.firstCells i.size n x).run P w.drew=.ok news w.drew)
   (hg:sCap < sLen+n) (h63:((sLen+n:Nat):Int)≤9223372036854775807) (hfit:Builtin.nextslicecap (sLen+n) sCap * i.bytes≤281474976710656):
   (Builtin.append_ #[t,t] ty #[.slice base sLen sCap,x]).run P w=
     .ok (.slice (some ⟨w.heap.size,0,none⟩) (sLen+n) (grownCap w (sLen+n) sCap e))
       (w.drew.alloc (.cells (olds++news++Builtin.zeroCells z.cells (grownCap w (sLen+n) sCap e - (sLen+n))) e)):=by
 have h1:¬(sLen+n≤sCap):=by omega
 have h2:¬((9223372036854775807:Int) < (sLen:Int)+(n:Int)):=by omega
 have h3:¬(281474976710656 < Builtin.nextslicecap (sLen+n) sCap * i.bytes):=by omega
 simp [Builtin.append_,run_underlying ht,sizeOf,typeInfo,hi,hx,h1,h2,h3,ho,hf,zeroValue,hz,newRow,Question.forced,grownCap]
section
variable {E:Env} {ρ:List D} {σ:Names} {m:Mem} {st:St TK} {a:Act} {w:World}
theorem WP (w:World) (o:Obj):Grown w (w.drew.alloc o) none:=⟨rfl,rfl,rfl,by simp,fun k hk _=>Go.heap_alloc_old w.drew o hk,Nat.le_succ _⟩
theorem Src.drew {P:Program} {m:Mem} {e:Nat} {x:Value} {ys:List (List D)} (h:Src P m w e x ys):Src P m w.drew e x ys:=by
 obtain⟨ad,c,news,h1,h2,h3,h4,h5⟩:=h.src;exact⟨ad,c,news,h1,h2,h3,h4,h5⟩
theorem Src.of_data {P:Program} (hm:MemOk m w) {x:Value} {ys:List (List D)} {ks:List K} (h:RepD m (.slice ys) x) (hk:∀y∈ys,HasKs ks y) (hflat:ks.all K.flat=true):Src P m w ks.length x ys:=by
 cases h with
 |empty ad c=>exact⟨ad,c, #[],rfl,by simp,⟨by simp,by simp,by simp⟩,by simp,by simp⟩
 | slice _ b off arr t fz e c hc hcap hmb he hsz hv=>
   have hek:∀y∈ys,y.length=ks.length:=fun y hy=>(hk y hy).length
   by_cases hy0:ys=[]
   · subst hy0;exact⟨_,c, #[],rfl,by simp,⟨by simp,by simp,by simp⟩,by simp,by simp⟩
   · have hee:e=ks.length:=by
       cases ys with
       |nil=>exact absurd rfl hy0
       |cons y r=>rw [←he y List.mem_cons_self];exact hek y List.mem_cons_self
     subst hee;have hst:=J6 hsz;have hfl:Flat m ks.length ys (W2 arr off (ys.length * ks.length)).toArray:=by
       refine⟨by simp [hst],hek,fun i j y d v hi hj hu=>?_⟩;have hje:j < ks.length:=by rw [←hek y (List.mem_of_getElem? hi)];exact(List.getElem?_eq_some_iff.1 hj).1
       have hlt:=(List.getElem?_eq_some_iff.1 hi).1;have hb:i * ks.length+j < ys.length * ks.length:=by
         calc i * ks.length+j < i * ks.length+ks.length:=by omega
           _=(i+1) * ks.length:=by rw [Nat.add_mul,Nat.one_mul]
           _≤ys.length * ks.length:=Nat.mul_le_mul_right _ (by omega)
       rw [List.getElem?_toArray,Y7 hb]at hu;exact hv i j y d v hi hj (by rw [←hu];congr 1;omega)
     refine⟨some ⟨b,off,none⟩,c,(W2 arr off (ys.length * ks.length)).toArray,rfl,by simp [hst],hfl,?_,fun _=>⟨_,rfl,fun j u hu=>?_⟩⟩
     · intro u hu;simp only at hu;obtain⟨q,hq,rfl⟩:=List.mem_iff_getElem.1 hu;have hq':q < ys.length * ks.length:=by rw [←hst];exact hq
       have hk0:0 < ks.length:=by
         cases hks:ks with
         |nil=>rw [hks]at hq';simp at hq'
         |cons=>simp
       have hi:q / ks.length < ys.length:=by rw [Nat.div_lt_iff_lt_mul hk0];exact hq'
       have hj:q % ks.length < ks.length:=Nat.mod_lt _ hk0;have hyi:ys[q / ks.length]? =some ys[q / ks.length]:=by simp [hi]
       have hyl:=hek _ (List.mem_of_getElem? hyi);have hyj:ys[q / ks.length][q % ks.length]? =some (ys[q / ks.length][q % ks.length]'(by omega)):=by simp [hyl,hj]
       have hqe:q / ks.length * ks.length+q % ks.length=q:=by rw [Nat.mul_comm];exact Nat.div_add_mod q ks.length
       have hr:=hfl.hv _ _ _ _ ((W2 arr off (ys.length * ks.length))[q]) hyi hyj (by rw [hqe];simp [List.getElem?_eq_getElem hq]);obtain⟨d,hd,hkd⟩:=HasKs.get (hk _ (List.mem_of_getElem? hyi)) (i:=q % ks.length) (k:=ks[q % ks.length]) (by simp [hj]);rw [hyj]at hd;cases hd;have hkf:(ks[q % ks.length]).flat=true:=(List.all_eq_true.1 hflat) _ (List.getElem_mem hj);revert hkd hkf hr;generalize ys[q / ks.length][q % ks.length]'(by omega)=dd;generalize ks[q % ks.length]=kk;generalize (W2 arr off (ys.length * ks.length))[q]=vv;intro hr hkd hkf;cases hr <;> first|rfl|(cases kk <;> simp [HasK,K.flat]at hkd hkf)
     · have hjl:j < ys.length * ks.length:=by
         have:=(Array.getElem?_eq_some_iff.1 hu).1;simpa [hst]using this
       rw [List.getElem?_toArray,Y7 hjl]at hu;rw [Z1y,Z3U (hm _ _ hmb)];exact hu
theorem Z4Q {E:Env} {w:World} {k:Nat} (ad:Option Addr):(Builtin.firstCells k 0 (.slice ad 0 0)).run E.P w.drew=.ok #[] w.drew:=by
 cases ad <;> simp [Builtin.firstCells,loadCells,loadCellsFrom]
theorem Z0w (hf:Fits E σ m (W0 ρ st) a w) (hok:st.Ok ρ) {o:Oper} {c:Call} {x y:Operand} {tx el:TypeId} {info:TypeInfo} {z:Value} {ks:List K}
   (ho:o.op=.call c) (hc:c.callee=.builtin .append) (ha:c.args= #[x,y]) (ht:c.argTypes= #[tx,tx]) (hu:E.P.underlying tx=some (.slice el)) (hi:E.P.info? el=some info) (hz:info.zero=some z)
   (hks:info.size=ks.length) (hpos:0 < info.size) (hzs:z.cells.size=ks.length) {s:T} {ys:List (List D)} (hys:den ρ s=.slice ys) (hsk:LOk ρ ⟨s,.slice ks⟩) (hsrc:Src E.P m w ks.length (a.eval y) ys)
   (base:T) (xs:List (List D)) (hbase:den ρ base=.slice xs) (hbk:LOk ρ ⟨base,.slice ks⟩) (objs0:List (OV TK)) (facts:List T)
   (hbytes:(xs.length+ys.length) * info.bytes≤140737488355328) (hlen:xs.length+ys.length≤cap)
   (hdst:((∃ad,a.eval x=.slice ad 0 0)∧xs=[]∧objs0=st.objs)∨
     ∃ob e' z',st.objs[ob]? =some (.arr e' z')∧e'=ks.length∧z'=⟨base,.slice ks⟩∧RS σ m ρ (.own ob) (a.eval x)∧objs0=Zy st.objs ob .dead) (ns:List T):
   OpOk E ρ σ m st a w o ⟨ns,[],.own st.objs.length,some (objs0++[.arr ks.length ⟨.o2 .app base s,.slice ks⟩])⟩:=by
 have happ:den ρ (.o2 .app base s)=.slice (xs++ys):=by simp only [den,hbase,hys,O2.eval]
 have kapp:=hbk.app hsk;have hnew:∀ {σ':Names} {w':World},RepO σ' m w' st.objs.length (.arr ks.length (.slice (xs++ys)))→RepO σ' m w' st.objs.length (OV.map (denL ρ) (.arr ks.length ⟨.o2 .app base s,.slice ks⟩)):=by
   intro σ' w' h;simp only [OV.map,denL,happ];exact h
 have hobjsOk:(∀x∈objs0,OV.Ok ρ x):=by
   rcases hdst with⟨_,_,rfl⟩|⟨ob,e',z',_,_,_,_,rfl⟩
   · exact hok.objs
   · intro q hq;obtain⟨i,hi',rfl⟩:=List.mem_iff_getElem.1 hq;have:=List.getElem?_eq_getElem hi';rcases Y0 this with⟨_,h,_⟩|⟨_,h⟩
     · rw [h];exact .dead
     · exact hok.objs _ (List.mem_of_getElem? h)
 have hall:∀q∈objs0++[(.arr ks.length ⟨.o2 .app base s,.slice ks⟩:OV TK)],OV.Ok ρ q:=by
   intro q hq;rcases List.mem_append.1 hq with hq|hq
   · exact hobjsOk q hq
   · simp at hq;subst hq;exact .arr kapp
 have main : ∃ v' w' row,(execOp a.eval o).run E.P w=.ok (.value v') w'∧Grown w w' row∧Fits E (σ.add st.objs.length v') m (W0 ρ ⟨st.tmps,objs0++[.arr ks.length ⟨.o2 .app base s,.slice ks⟩]⟩) a w':=by
   have exec:∀ {v' w'},(Builtin.append_ #[tx,tx] o.type #[a.eval x,a.eval y]).run E.P w=.ok v' w'→(execOp a.eval o).run E.P w=.ok (.value v') w':=by
     intro v' w' h;simp [execOp,ho,resolve,hc,ha,ht,invoke,builtin,h]
   obtain⟨news,hnews,hnsz,hnfl,hn1⟩:=hsrc.first
   obtain⟨news',hnews',hnsz',hnfl',hn1'⟩:=hsrc.drew.first
   have hxl:=hsrc.len;have hmx:xs.length+ys.length≤maxLen:=by simp only [cap]at hlen;simp only [maxLen];omega
   have grown:∀(olds:Array Value) (sCap:Nat),olds.size=xs.length * ks.length→Flat m ks.length xs olds→sCap < xs.length+ys.length→
       ∀σ':Names,σ' st.objs.length=some (.slice (some ⟨w.heap.size,0,none⟩) (xs.length+ys.length) (grownCap w (xs.length+ys.length) sCap el))→
       RepO σ' m (w.drew.alloc (.cells (olds++news'++Builtin.zeroCells z.cells (grownCap w (xs.length+ys.length) sCap el - (xs.length+ys.length))) el)) st.objs.length (.arr ks.length (.slice (xs++ys))):=by
     intro olds sCap hosz hofl hlt σ' hσ;have hge:=grownCap_ge w (xs.length+ys.length) sCap el;have hcm:=grownCap_le_maxLen w (xs.length+ys.length) sCap el hmx;have hσ':σ' st.objs.length=some (.slice (some ⟨w.heap.size,0,none⟩) (xs++ys).length (grownCap w (xs.length+ys.length) sCap el)):=by rw [hσ];simp
     refine .arr hσ' (heap_alloc_new w.drew _) (by omega) (by simpa using hge) hcm (by simpa using hlen) ?_ ?_ ?_
     · simp only [Array.size_append,size_zeroCells,hosz,hnsz',hzs, ←Nat.add_mul];congr 1;omega
     · intro q hq;rcases List.mem_append.1 hq with hq|hq;exact hofl.he q hq;exact hnfl'.he q hq
     · have hfl:=hofl.append hnfl' (arr':=olds++news'++Builtin.zeroCells z.cells (grownCap w (xs.length+ys.length) sCap el - (xs.length+ys.length)))
         (fun q hq=>by rw [Array.append_assoc,Array.getElem?_append_left (by omega)])
         (fun q hq=>by rw [Array.append_assoc,Array.getElem?_append_right (by omega),hosz,Nat.add_sub_cancel_left,Array.getElem?_append_left (by omega)])
         (by simp only [Array.size_append,hosz,hnsz', ←Nat.add_mul];exact Nat.le_add_right _ _)
       exact hfl.hv
   rcases hdst with⟨⟨ad,hev⟩,hx0,rfl⟩|⟨ob,e',z',hob,rfl,rfl,hown,rfl⟩
   · subst hx0;by_cases hy0:ys=[]
     · subst hy0;have hn0:news= #[]:=by apply Array.eq_empty_of_size_eq_zero;simpa using hnsz
       refine⟨.slice ad 0 0,w,none,exec ?_,⟨rfl,rfl,rfl,Nat.le_refl _,fun _ _ _=>rfl,Nat.le_refl _⟩,?_⟩
       · rw [hev];subst hn0;rw [←hks]at hnews;simp only [List.length_nil]at hnews hxl;cases ad <;> simp [Builtin.append_,run_underlying hu,sizeOf,typeInfo,hi,hxl,hnews,storeCells]
       · have:=hf.addObj (w':=w) (v0:=.slice ad 0 0) (ov':=OV.map (denL ρ) (.arr ks.length ⟨.o2 .app base s,.slice ks⟩)) ⟨rfl,rfl,rfl,Nat.le_refl _,fun _ _ _=>rfl,Nat.le_refl _⟩ (by rw [Z6];exact hnew (.none (by rw [J1]))) (by simp [Zn]) rfl;rw [Z6]at this;rw [Zf];exact this
     · have hyl:0 < ys.length:=List.length_pos_iff.2 hy0;have hrun:=Wr (P:=E.P) w tx o.type el info z hu hi hz ad 0 0 #[] (Z4Q ad) (a.eval y) ys.length news' hxl (by rw [hks];exact hnews') (by omega)
         (by simp only [cap,List.length_nil]at hlen;omega) (growslice_fits (by omega) (by simpa using hbytes))
       rw [←hev]at hrun;refine⟨_,_,none,exec hrun,(WP w _),?_⟩;have:=hf.addObj (w':=w.drew.alloc (.cells (#[]++news'++Builtin.zeroCells z.cells (grownCap w (0+ys.length) 0 el - (0+ys.length))) el))
         (v0:=.slice (some ⟨w.heap.size,0,none⟩) (0+ys.length) (grownCap w (0+ys.length) 0 el)) (ov':=OV.map (denL ρ) (.arr ks.length ⟨.o2 .app base s,.slice ks⟩))
         (WP w _)
         (by rw [Z6];exact hnew (grown #[] 0 (by simp) ⟨by simp,by simp,by simp⟩ (by simpa using hyl) _ (by rw [J1];simp))) (by intro b hb;simp only [blk]at hb;split at hb <;> cases hb;exact Nat.le_refl _) rfl
       rw [Z6]at this;rw [Zf];exact this
   · have hob' :(W0 ρ st).objs[ob]? =some (OV.map (denL ρ) (.arr ks.length ⟨base,.slice ks⟩)):=by simp [W0,St.map,hob]
     have hrep:=hf.objs ob _ hob';simp only [OV.map,denL,hbase]at hrep;simp only [RS,SV.map]at hown;have hset:W0 ρ ⟨st.tmps,Zy st.objs ob .dead++[.arr ks.length ⟨.o2 .app base s,.slice ks⟩]⟩=⟨(W0 ρ st).tmps,(W0 ρ st).objs.set ob .dead++[OV.map (denL ρ) (.arr ks.length ⟨.o2 .app base s,.slice ks⟩)]⟩:=by
       simp [W0,St.map,Zy,List.map_set,OV.map]
     generalize hev:a.eval x=ev at *;have hσ:σ ob=some ev:=by cases hown;assumption
     have place:∀(v':Value) (w':World) (row:Option Nat),Grown w w' row→(∀b,row=some b→(σ ob).bind blk=some b)→(∀b,blk v'=some b→(σ ob).bind blk=some b∨w.heap.size≤b)→
         RepO (σ.add st.objs.length v') m w' st.objs.length (.arr ks.length (.slice (xs++ys)))→
         Fits E (σ.add st.objs.length v') m (W0 ρ ⟨st.tmps,Zy st.objs ob .dead++[.arr ks.length ⟨.o2 .app base s,.slice ks⟩]⟩) a w':=by
       intro v' w' row hg hr hb h';have:=hf.moveObj (v0:=v') (ov':=OV.map (denL ρ) (.arr ks.length ⟨.o2 .app base s,.slice ks⟩)) hob' rfl hg hr (by rw [Z6];exact hnew h') hb rfl;rw [Z6]at this;rw [hset];exact this
     cases hrep with
     | none hs=>
       rename_i ad;rw [hs]at hσ;cases hσ;by_cases hy0:ys=[]
       · subst hy0;have hn0:news= #[]:=by apply Array.eq_empty_of_size_eq_zero;simpa using hnsz
         refine⟨.slice ad 0 0,w,none,exec ?_,⟨rfl,rfl,rfl,Nat.le_refl _,fun _ _ _=>rfl,Nat.le_refl _⟩,place _ _ none ⟨rfl,rfl,rfl,Nat.le_refl _,fun _ _ _=>rfl,Nat.le_refl _⟩ (by simp) (by simp [Zn]) (.none (by rw [J1]))⟩;subst hn0;rw [←hks]at hnews;simp only [List.length_nil]at hnews hxl;cases ad <;> simp [Builtin.append_,run_underlying hu,sizeOf,typeInfo,hi,hxl,hnews,storeCells]
       · have hyl:0 < ys.length:=List.length_pos_iff.2 hy0;have hrun:=Wr (P:=E.P) w tx o.type el info z hu hi hz ad 0 0 #[] (Z4Q ad) (a.eval y) ys.length news' hxl (by rw [hks];exact hnews') (by omega)
           (by simp only [cap,List.length_nil]at hlen;omega) (growslice_fits (by omega) (by simpa using hbytes))
         refine⟨_,_,none,exec hrun,(WP w _),place _ _ none (WP w _) (by simp) (by intro b hb;simp only [blk]at hb;split at hb <;> cases hb;right;exact Nat.le_refl _) ?_⟩;exact grown #[] 0 (by simp) ⟨by simp,by simp,by simp⟩ (by simpa using hyl) _ (by rw [J1];simp)
     | arr hs hb h0c hcc hcm hcap hsz he hv=>
       rename_i b cp cur bt;rw [hs]at hσ;cases hσ;have hfl:Flat m ks.length xs cur:=⟨by rw [hsz];exact Nat.mul_le_mul_right _ hcc,he,hv⟩
       by_cases hroom:xs.length+ys.length≤cp
       · have hfit:xs.length * info.size+news.toList.length≤cur.size:=by
           rw [hks,hsz];simp only [Array.length_toList,hnsz, ←Nat.add_mul];exact Nat.mul_le_mul_right _ hroom
         have hrun:=JC (P:=E.P) w tx o.type el bt info hu hi b xs.length cp cur hb (a.eval y) ys.length news.toList hxl (by rw [hks];simpa using hnews) hn1 hroom hfit;refine⟨_,_,some b,exec hrun,⟨rfl,rfl,rfl,by simp [World.setRow],fun k hk hne=>setRow_other w b k _ (fun e=>hne (by simp [e])),Nat.le_refl _⟩,
           place _ _ (some b) ⟨rfl,rfl,rfl,by simp [World.setRow],fun k hk hne=>setRow_other w b k _ (fun e=>hne (by simp [e])),Nat.le_refl _⟩ (by intro q hq;cases hq;simp only [hs,Option.bind_some];exact Z9 h0c) (by intro q hq;rw [Z9 h0c]at hq;left;simp only [hs,Option.bind_some];rw [Z9 h0c];exact hq) ?_⟩
         have hl1:(cur.toList.take (xs.length * info.size)).length=xs.length * ks.length:=by rw [hks];simp only [List.length_take,Array.length_toList];exact Nat.min_eq_left hfl.fit
         have hsz2:(cur.toList.take (xs.length * info.size)++news.toList++cur.toList.drop (xs.length * info.size+news.toList.length)).length=cur.size:=by
           simp only [List.length_append,hl1,List.length_drop,Array.length_toList];rw [hks]at hfit ⊢;simp at hfit ⊢;omega
         refine .arr (b:=b) (c:=cp) (by rw [J1];simp) (setRow_heap w b cur _ bt (0,0) hb) h0c (by simpa using hroom) hcm (by simpa using hlen) (by simp only [List.size_toArray,hsz2,hsz]) ?_ ?_
         · intro q hq;rcases List.mem_append.1 hq with hq|hq;exact he q hq;exact hnfl.he q hq
         · have hfl2:=hfl.append hnfl (arr':=(cur.toList.take (xs.length * info.size)++news.toList++cur.toList.drop (xs.length * info.size+news.toList.length)).toArray)
             (fun q hq=>by
               rw [List.getElem?_toArray,List.append_assoc,List.getElem?_append_left (by omega),List.getElem?_take,if_pos (by rw [hks];exact hq)];simp)
             (fun q hq=>by
               rw [List.getElem?_toArray,List.append_assoc,List.getElem?_append_right (by omega),hl1,Nat.add_sub_cancel_left,List.getElem?_append_left (by simp;omega)];simp)
             (by simp only [List.size_toArray,hsz2,hsz];exact Nat.mul_le_mul_right _ hroom)
           exact hfl2.hv
       · have hst:=J6 (arr:=cur) (off:=0) (n:=xs.length * ks.length) (by simpa using hfl.fit);have holds:(Builtin.firstCells info.size xs.length (.slice (some ⟨b,0,none⟩) xs.length cp)).run E.P w.drew=.ok (W2 cur 0 (xs.length * ks.length)).toArray w.drew:=by
           refine run_firstCells_some (P:=E.P) w.drew info.size xs.length ⟨b,0,none⟩ xs.length cp _ (by rw [hst,hks]) (fun j v hj=>?_);have hjl:j < xs.length * ks.length:=by rw [←hst];exact(List.getElem?_eq_some_iff.1 hj).1
           rw [Y7 hjl]at hj;rw [Z1y];exact(Z3U (w:=w) hb).trans hj
         have hrun:=Wr (P:=E.P) w tx o.type el info z hu hi hz (some ⟨b,0,none⟩) xs.length cp _ holds (a.eval y) ys.length news' hxl (by rw [hks];exact hnews') (by omega)
           (by simp only [cap]at hlen;omega) (growslice_fits (by omega) hbytes)
         refine⟨_,_,none,exec hrun,(WP w _),place _ _ none (WP w _) (by simp) (by intro q hq;simp [blk]at hq;right;omega) ?_⟩;exact grown _ cp (by simp [hst]) (hfl.of_cells (fun q hq=>by rw [List.getElem?_toArray,Y7 hq];simp) (by simp [hst])) (by omega) _ (by rw [J1])
 obtain⟨v',w',row,hrun,hg,hfits⟩:=main;refine⟨v',w',σ.add st.objs.length v',m,?_,Mem.le_refl m,.inl hrun,by simpa using hfits,.own (J1 _ _ _),.own,by simpa using hall,by simp,by simp⟩;have:=Names.le_add hf.dom (Nat.le_refl _) v';rw [Z6]at this;exact this
end
theorem WZ (arr:Array Value) (off:Nat) (vs:List Value) (h:off+vs.length≤arr.size):(arr.toList.take off++vs++arr.toList.drop (off+vs.length)).toArray=putCells arr off vs:=by
 apply Array.ext_getElem?;intro q;rw [We _ _ _ h];simp only [List.getElem?_toArray,List.append_assoc];have hlen:(arr.toList.take off).length=off:=by simp;omega
 rw [List.getElem?_append,hlen];by_cases h1:q < off
 · rw [if_pos h1,if_neg (by omega),List.getElem?_take,if_pos h1];simp
 · rw [if_neg h1,List.getElem?_append];by_cases h2:q - off < vs.length
   · rw [if_pos h2,if_pos (by omega)]
   · rw [if_neg h2,if_neg (by omega),List.getElem?_drop];simp;congr 1;omega
theorem Z0x (w:World) (b:Nat) (cs:Array Value):Grown w (w.setRow b cs) (some b):=
 ⟨rfl,rfl,rfl,by simp [World.setRow],fun k _ hne=>setRow_other w b k _ (fun e=>hne (by simp [e])),Nat.le_refl _⟩
theorem Flat.splice {m:Mem} {e:Nat} {xs mid:List (List D)} {arr news:Array Value} (h:Flat m e xs arr) (h2:Flat m e mid news) (hn:news.size=mid.length * e) {lo:Nat} (hl:lo+mid.length≤xs.length):
   Flat m e (xs.take lo++mid++xs.drop (lo+mid.length)) (putCells arr (lo * e) news.toList):=by
 have hlen:(xs.take lo++mid++xs.drop (lo+mid.length)).length=xs.length:=by simp;omega
 have hfit:lo * e+news.toList.length≤arr.size:=by
   simp only [Array.length_toList,hn, ←Nat.add_mul];exact Nat.le_trans (Nat.mul_le_mul_right _ hl) h.fit
 have hall:∀y∈xs.take lo++mid++xs.drop (lo+mid.length),y.length=e:=by
   intro y hy;rcases List.mem_append.1 hy with hy|hy
   · rcases List.mem_append.1 hy with hy|hy
     · exact h.he y (List.mem_of_mem_take hy)
     · exact h2.he y hy
   · exact h.he y (List.mem_of_mem_drop hy)
 refine⟨by rw [hlen,Y9];exact h.fit,hall,?_⟩;intro i j y d v hi hj hu;have hy:=hall y (List.mem_of_getElem? hi);have hje:j < e:=by rw [←hy];exact(List.getElem?_eq_some_iff.1 hj).1
 rw [We _ _ _ hfit]at hu;have htl:(xs.take lo).length=lo:=by simp;omega
 have hmul:∀a b:Nat,a≤b→a * e≤b * e:=fun a b h=>Nat.mul_le_mul_right _ h
 have hsucc:(i+1) * e=i * e+e:=by rw [Nat.add_mul,Nat.one_mul]
 have hnl:news.toList.length=mid.length * e:=by simp [hn]
 rw [List.append_assoc,List.getElem?_append,htl]at hi;split at hi
 · rename_i h1;have hi2:xs[i]? =some y:=by rw [List.getElem?_take,if_pos h1]at hi;exact hi
   have:=hmul (i+1) lo (by omega);rw [if_neg (by omega)]at hu;exact h.hv i j y d v hi2 hj hu
 · rename_i h1;have hsplit:i * e=lo * e+(i - lo) * e:=by rw [←Nat.add_mul];congr 1;omega
   rw [List.getElem?_append]at hi;split at hi
   · rename_i h2';have h3:=hmul (i - lo+1) mid.length (by omega);have h4:(i - lo+1) * e=(i - lo) * e+e:=by rw [Nat.add_mul,Nat.one_mul]
     have e1:i * e+j - lo * e=(i - lo) * e+j:=by omega
     rw [if_pos ⟨by omega,by omega⟩,e1]at hu;exact h2.hv (i - lo) j y d v hi hj (by simpa using hu)
   · rename_i h2';rw [List.getElem?_drop]at hi;have e1:lo+mid.length+(i - lo - mid.length)=i:=by omega
     rw [e1]at hi;have h3:=hmul mid.length (i - lo) (by omega);rw [if_neg (by omega)]at hu;exact h.hv i j y d v hi hj hu
section
variable {E:Env} {ρ:List D} {σ:Names} {m:Mem} {st:St TK} {a:Act} {w:World}
theorem Za4 (hf:Fits E σ m (W0 ρ st) a w) {q e:Nat} {z:TK} (hq:st.objs[q]? =some (.arr e z)) {xs:List (List D)} {ad:Option Addr} {c:Nat} (hσ:σ q=some (.slice ad xs.length c))
   {b:Nat} {arr:Array Value} {bt:TypeId} (hpos:0 < c) (hcc:c≤maxLen) (hcap:xs.length≤cap) (hc:xs.length≤c) (hb:w.heap[b]? =some (.cells arr bt (0,0))) (had:ad=some ⟨b,0,none⟩) (hsz:arr.size=c * e)
   (hfl:Flat m e xs arr) {mid:List (List D)} {news:Array Value} {lo:Nat} (hm:Flat m e mid news) (hn:news.size=mid.length * e) (hl:lo+mid.length≤xs.length) {t':T} {k':K}
   (ht':den ρ t'=.slice (xs.take lo++mid++xs.drop (lo+mid.length))):Fits E σ m (W0 ρ ⟨st.tmps,Zy st.objs q (.arr e ⟨t',k'⟩)⟩) a (w.setRow b (putCells arr (lo * e) news.toList)):=by
 subst had;have hlen:(xs.take lo++mid++xs.drop (lo+mid.length)).length=xs.length:=by simp;omega
 have hq':(W0 ρ st).objs[q]? =some (OV.map (denL ρ) (.arr e z)):=by simp [W0,St.map,hq]
 have h2:=hfl.splice hm hn hl;have:=hf.update (o:=q) (b:=b) (ov':=OV.map (denL ρ) (.arr e ⟨t',k'⟩)) hq' rfl (by simp only [hσ,Option.bind_some];exact Z9 hpos) (Z0x w b (putCells arr (lo * e) news.toList)) (by
   simp only [OV.map,denL,ht'];exact .arr (by rw [hlen];exact hσ) (setRow_heap w b arr _ bt (0,0) hb) hpos (by rw [hlen];exact hc) hcc (by rw [hlen];exact hcap) (by rw [Y9];exact hsz) h2.he h2.hv) (.inl rfl)
 rw [Zy,Ye];exact this
theorem Z4Y {q:Nat} {ov ov':OV TK} (hq:st.objs[q]? =some ov) (h:ov'.map (denL ρ)=ov.map (denL ρ)):W0 ρ ⟨st.tmps,Zy st.objs q ov'⟩=W0 ρ st:=by
 rw [Zy,Ye,h];have hlt:=(List.getElem?_eq_some_iff.1 hq).1;have hget:=(List.getElem?_eq_some_iff.1 hq).2;have:(W0 ρ st).objs.set q (OV.map (denL ρ) ov)=(W0 ρ st).objs:=by
   apply List.ext_getElem?;intro i;rw [List.getElem?_set];split
   · rename_i h;subst h;split
     · simp [W0,St.map,hq]
     · rename_i h2;exact absurd (by simpa [W0,St.map]using hlt) h2
   · rfl
 rw [this]
theorem Z4X {z lo mid hi:T} {xs ys:List (List D)} {l h:Nat} (hz:den ρ z=.slice xs) (hl:den ρ lo=.int .i64 (l:Nat)) (hm:den ρ mid=.slice ys) (hh:den ρ hi=.int .i64 (h:Nat)) (h1:l≤xs.length):
   den ρ (Jx z lo mid hi)=.slice (xs.take l++ys++xs.drop h):=by
 simp [Jx,den,hz,hl,hm,hh,D.sub,O1.eval,O2.eval]
theorem LOk.splice {z lo mid hi:T} {ks:List K} (hz:LOk ρ ⟨z,.slice ks⟩) (hl:LOk ρ ⟨lo,.int .i64⟩) (hm:LOk ρ ⟨mid,.slice ks⟩) (hh:LOk ρ ⟨hi,.int .i64⟩) (hlen:∀xs,den ρ z=.slice xs→xs.length≤cap):LOk ρ ⟨Jx z lo mid hi,.slice ks⟩:=by
 have kl:LOk ρ ⟨.o1 .len z,.int .i64⟩:=hz.len hlen (fun xs hx=>by obtain⟨ys,hy,_⟩:=hz.1.slice_inv;simp only at hy;rw [hy]at hx;cases hx);exact((LOk.sub (.inr ⟨ks,rfl⟩) hz (.int .i64 0 (by decide)) hl).app hm).app (LOk.sub (.inr ⟨ks,rfl⟩) hz hh kl)
end
section
variable {E:Env} {ρ:List D} {σ:Names} {m:Mem} {st:St TK} {a:Act} {w:World}
theorem Src.of_own (hf:Fits E σ m (W0 ρ st) a w) {ob:Nat} {ks:List K} {z:T} {x:Value} {ys:List (List D)} (hob:st.objs[ob]? =some (.arr ks.length ⟨z,.slice ks⟩)) (hd:den ρ z=.slice ys)
   (hk:∀y∈ys,HasKs ks y) (hflat:ks.all K.flat=true) (h:RS σ m ρ (.own ob) x):Src E.P m w ks.length x ys:=by
 have hr:=hf.objs ob _ (by simp [W0,St.map,hob];rfl);simp only [OV.map,denL,hd]at hr;simp only [RS,SV.map]at h;cases h with
 | own hσ=>
   cases hr with
   |none hs=>rw [hs]at hσ;cases hσ;exact⟨_,0, #[],rfl,by simp,⟨by simp,by simp,by simp⟩,by simp,by simp⟩
   | arr hs hb h0c hc hcc hcap hsz he hv=>
     rename_i b c arr bt;rw [hs]at hσ;cases hσ;have hm':MemOk (fun b'=>if b'=b then some (.cells arr bt (0,0))else m b') w:=by
       intro b' o' h';simp only at h';split at h'
       · rename_i e;subst e;cases h';exact hb
       · exact hf.mem b' o' h'
     have hdata:RepD (fun b'=>if b'=b then some (.cells arr bt (0,0))else m b') (.slice ys) (.slice (some ⟨b,0,none⟩) ys.length c):=by
       refine .slice ys b 0 arr bt (0,0) ks.length c hc hcap (by simp) he (by rw [hsz];simp;exact Nat.mul_le_mul_right _ hc) fun i j x d v hi hj hu=>?_
       refine(hv i j x d v hi hj (by rw [←hu];congr 1;omega)).mono ?_;intro b' o' h';simp only;split
       · rename_i e;subst e;have:=hf.sep ob _ b' (by simp [W0,St.map,hob];rfl) rfl (by simp only [hs,Option.bind_some];exact Z9 h0c);rw [this.1]at h';cases h'
       · exact h'
     have hsrc:=Src.of_data (P:=E.P) hm' hdata hk hflat;obtain⟨ad,c',news,h1,h2,h3,h4,h5⟩:=hsrc.src;refine⟨ad,c',news,h1,h2,⟨h3.fit,h3.he,fun i j y d v hi hj hu=>?_⟩,h4,h5⟩;simp only [Value.slice.injEq]at h1;obtain⟨rfl,_,rfl⟩:=h1;have hy0:ys≠[]:=by intro e;subst e;simp at hi
     obtain⟨b2,hb2,hc2⟩:=h5 hy0;cases hb2;have:=hc2 _ _ hu;rw [Z1y,Z3U hb,Nat.zero_add]at this;exact hv i j y d v hi hj this
theorem Src.part {P:Program} {e c:Nat} {ad:Option Addr} {xs:List (List D)} (hs:Src P m w e (.slice ad xs.length c) xs) {l h:Nat} (hl:l≤h) (hh:h≤xs.length) (hc:xs.length≤c) (had:∀q,ad=some q→q.spot=none):
   Src P m w e (Z2z ad l h c e) ((xs.take h).drop l):=by
 obtain⟨ad',c',news,h1,h2,h3,h4,h5⟩:=hs.src;cases h1;have hlen:((xs.take h).drop l).length=h - l:=by simp;omega
 have hm:l * e+(h - l) * e≤xs.length * e:=by rw [←Nat.add_mul];exact Nat.mul_le_mul_right _ (by omega)
 have hnl:((news.toList.drop (l * e)).take ((h - l) * e)).length=(h - l) * e:=by simp [h2];omega
 have hget:∀q,q < (h - l) * e→((news.toList.drop (l * e)).take ((h - l) * e))[q]? =news[l * e+q]?:=by
   intro q hq;rw [List.getElem?_take,if_pos hq,List.getElem?_drop];simp
 have hall:∀y∈(xs.take h).drop l,y.length=e:=fun y hy=>h3.he y (List.mem_of_mem_take (List.mem_of_mem_drop hy))
 refine⟨_,c - l,((news.toList.drop (l * e)).take ((h - l) * e)).toArray,by rw [hlen];rfl,by rw [hlen];simp [hnl],⟨by rw [hlen];simp [hnl],hall,?_⟩,?_,?_⟩
 · intro i j y d v hi hj hu;have hy:=hall y (List.mem_of_getElem? hi);have hje:j < e:=by rw [←hy];exact(List.getElem?_eq_some_iff.1 hj).1
   have hlt:=(List.getElem?_eq_some_iff.1 hi).1;rw [hlen]at hlt;have h6:(i+1) * e≤(h - l) * e:=Nat.mul_le_mul_right _ (by omega);have h7:(i+1) * e=i * e+e:=by rw [Nat.add_mul,Nat.one_mul]
   rw [List.getElem?_toArray,hget _ (by omega)]at hu;rw [List.getElem?_drop,List.getElem?_take,if_pos (by omega)]at hi;refine h3.hv (l+i) j y d v hi hj ?_;rw [Nat.add_mul,Nat.add_assoc];exact hu
 · intro u hu;simp only at hu;exact h4 u (List.mem_of_mem_drop (List.mem_of_mem_take hu))
 · intro hne;have hlt:l < h:=by
     rcases Nat.lt_or_ge l h with h8|h8
     · exact h8
     · exact absurd (List.eq_nil_of_length_eq_zero (by omega)) hne
   obtain⟨b,rfl,h6⟩:=h5 (by intro e;subst e;simp at hh;omega);have hsp:=had b rfl;cases b with
   |mk bl off sp=>
   simp only at hsp;subst hsp;refine⟨_,by rw [if_neg (by omega)];rfl,fun j u hu=>?_⟩;have hj:j < (h - l) * e:=by have:=(Array.getElem?_eq_some_iff.1 hu).1;simp [h2]at this;omega
   rw [List.getElem?_toArray,hget _ hj]at hu;have:=h6 _ _ hu;rw [Addr.add_lit]at this;show w.cell? ((Addr.add ⟨bl,off,none⟩ (l * e)).add j)=some u;rw [Addr.add_lit,Addr.add_lit,Nat.add_assoc];exact this
section ops
variable (hf:Fits E σ m (W0 ρ st) a w) (hok:st.Ok ρ) {g:Option T} (hg:∀c,g=some c→den ρ c=.bool true) {o:Oper} {s:Sym}
include hf hok hg
theorem ZbE {sv:SV TK} {ks:List K} {t:T} {x:Value} (h:asT st.objs (.slice ks) sv=some t) (hr:RS σ m ρ sv x) (hk:SV.Ok ρ sv):LOk ρ ⟨t,.slice ks⟩∧RepD m (den ρ t) x:=by
 have:=Z0l hf hok (ks:=[.slice ks]) (vs:=[sv]) (ts:=[t]) (by simp [allT,h]) (by intro v hv;simp at hv;subst hv;exact hk);obtain⟨_,_,l3,l4⟩:=this;obtain⟨t',ht',hd⟩:=l4 0 sv x rfl hr;simp at ht';subst ht';exact⟨⟨by have:=l3.1;simp [HasKs]at this;exact this,l3.2 t (by simp)⟩,hd⟩
theorem Z42 {c:Call} {x y:Operand} {tx el:TypeId} {info:TypeInfo} {ks:List K} (ho:o.op=.call c) (hc:c.callee=.builtin .append) (ha:c.args= #[x,y]) (ht:c.argTypes= #[tx,tx])
   (hu:E.P.underlying tx=some (.slice el)) (hi:E.P.info? el=some info) (hks:info.size=ks.length) (c3:ks.all K.flat=true) {o1 o2 q:Nat} {i j hh z:T} (hx:RS σ m ρ (.own o1) (a.eval x)) (hy:RS σ m ρ (.own o2) (a.eval y))
   (h1:st.objs[o1]? =some (.view q ks.length ⟨.int .i64 0,.int .i64⟩ ⟨i,.int .i64⟩)) (h2:st.objs[o2]? =some (.view q ks.length ⟨j,.int .i64⟩ ⟨hh,.int .i64⟩)) (hq:st.objs[q]? =some (.arr ks.length ⟨z,.slice ks⟩))
   (hn:den ρ (.o2 .le i j)=.bool true) {ns:List T}:
   OpOk E ρ σ m st a w o ⟨ns,[],.own st.objs.length,some (Zy st.objs q (.arr ks.length ⟨Jx z i (.sub z j hh) (.o2 (.add .i64) i (.o2 (.sub .i64) hh j)),.slice ks⟩)++[.view q ks.length ⟨.int .i64 0,.int .i64⟩ ⟨.o2 (.add .i64) i (.o2 (.sub .i64) hh j),.int .i64⟩])⟩:=by
 obtain⟨xs,ad,cp,hxs,hσ,hxc,hcap,kz,hmem⟩:=Z78 hf hok hg hq;obtain⟨l1,n1,nn1,cc1,ad1,d1,d2,s1,s2,i1,i2,i3,k1,k2⟩:=Z1A hf hok hg h1;obtain⟨l2,n2,nn2,cc2,ad2,f1,f2,g1,g2,r1,r2,r3,p1,p2⟩:=Z1A hf hok hg h2;rw [hσ]at s1 g1;cases s1;cases g1;simp only [den,D.int.injEq,true_and]at d1;have hl0:l1=0:=by omega
 subst hl0;simp only at d2 f1 f2 k2 p1 p2 hxs kz;simp only [den,d2,f1,O2.eval,D.bool.injEq,decide_eq_true_eq]at hn;have hev:=Z0I hf hok hg hx s2;rw [WE hf hok hg]at hev;have hevy:=Z0I hf hok hg hy g2;simp only [cap]at hcap;have wr:∀n:Int,0≤n→n≤281474976710656→IntKind.i64.wrap n=n:=fun n h1 h2=>Z0B .i64 n (by simp [IntKind.min,IntKind.signed,IntKind.bits];omega) (by simp [IntKind.max,IntKind.signed,IntKind.bits];omega)
 have dS:den ρ (.o2 (.sub .i64) hh j)=.int .i64 ((n2 - l2:Nat):Int):=by
   simp only [den,f1,f2,O2.eval];rw [wr _ (by omega) (by omega)];congr 1;omega
 have dM:den ρ (.o2 (.add .i64) i (.o2 (.sub .i64) hh j))=.int .i64 ((n1+(n2 - l2):Nat):Int):=by
   have:den ρ (.o2 (.add .i64) i (.o2 (.sub .i64) hh j))=O2.eval (.add .i64) (den ρ i) (den ρ (.o2 (.sub .i64) hh j)):=rfl;rw [this,dS,d2];simp only [O2.eval];rw [wr _ (by omega) (by omega)];congr 1
 have dmid:den ρ (.sub z j hh)=.slice ((xs.take n2).drop l2):=by simp [den,hxs,f1,f2,D.sub]
 have kM:LOk ρ ⟨.o2 (.add .i64) i (.o2 (.sub .i64) hh j),.int .i64⟩:=.arith k2 (.arith p2 p1 (by simp)) (by simp);have hlen:((xs.take n2).drop l2).length=n2 - l2:=by simp;omega
 have ksp:LOk ρ ⟨Jx z i (.sub z j hh) (.o2 (.add .i64) i (.o2 (.sub .i64) hh j)),.slice ks⟩:=
   LOk.splice kz k2 (LOk.sub (.inr ⟨ks,rfl⟩) kz p1 p2) kM (fun ys hy=>by rw [hxs]at hy;cases hy;exact(by simp only [cap];omega))
 have dsp:=Z4X (ρ:=ρ) hxs d2 dmid dM (by omega);have hM:n1+(n2 - l2)=n1+((xs.take n2).drop l2).length:=by rw [hlen]
 rw [hM]at dsp;have main:∃w',(execOp a.eval o).run E.P w=.ok (.value (.slice ad (n1+(n2 - l2)) cp)) w'∧Fits E σ m (W0 ρ ⟨st.tmps,Zy st.objs q (.arr ks.length ⟨Jx z i (.sub z j hh) (.o2 (.add .i64) i (.o2 (.sub .i64) hh j)),.slice ks⟩)⟩) a w':=by
   have exec:∀ {v' w'},(Builtin.append_ #[tx,tx] o.type #[a.eval x,a.eval y]).run E.P w=.ok v' w'→(execOp a.eval o).run E.P w=.ok (.value v') w':=by
     intro v' w' h;simp [execOp,ho,resolve,hc,ha,ht,invoke,builtin,h]
   rcases hmem with⟨hc0,hx0⟩|⟨hpos,hcm,b,arr,bt,had,hb,hsz,he,hv⟩
   · subst hc0;subst hx0;simp only [List.length_nil]at i2 r2;have e1:n1=0:=by omega
     have e2:n2=0:=by omega
     have e3:l2=0:=by omega
     subst e1 e2 e3;refine⟨w,exec ?_,?_⟩
     · rw [hev,hevy,WE hf hok hg];cases ad <;> simp [Builtin.append_,run_underlying hu,sizeOf,typeInfo,hi,Builtin.lenOf,Builtin.firstCells,loadCells,loadCellsFrom,storeCells]
     · rw [Z4Y hq]
       · exact hf
       · simp only [OV.map,denL,dsp,hxs];simp
   · have hfl:Flat m ks.length xs arr:=⟨by rw [hsz];exact Nat.mul_le_mul_right _ hxc,he,hv⟩
     obtain⟨ys,hys,hel⟩:=kz.1.slice_inv;simp only at hys;rw [hxs]at hys;cases hys;have hS:=(Src.of_own (E:=E) hf hq hxs hel c3 (x:=.slice ad xs.length cp) (.own hσ)).part (l:=l2) (h:=n2) r1 r2 hxc (fun q' hq'=>by rw [had]at hq';cases hq';rfl);rw [←hevy]at hS;obtain⟨news,hnews,hnsz,hnfl,hn1⟩:=hS.first
     have hxl:=hS.len;rw [hlen]at hxl;have hroom:n1+(n2 - l2)≤cp:=by omega
     have hfit:n1 * info.size+news.toList.length≤arr.size:=by
       rw [hks,hsz];simp only [Array.length_toList,hnsz,hlen, ←Nat.add_mul];exact Nat.mul_le_mul_right _ hroom
     have hrun:=JC (P:=E.P) w tx o.type el bt info hu hi b n1 cp arr hb (a.eval y) (n2 - l2) news.toList hxl (by rw [hks, ←hlen];simpa using hnews) hn1 hroom hfit;rw [WZ _ _ _ hfit,hks]at hrun;refine⟨w.setRow b (putCells arr (n1 * ks.length) news.toList),exec ?_,?_⟩
     · rw [hev,had];exact hrun
     · exact Za4 hf hq hσ hpos hcm (by simp only [cap];omega) hxc hb had hsz hfl hnfl (by rw [hnsz]) (by rw [hlen];omega) dsp
 obtain⟨w',hrun,hfits⟩:=main;have hle2:σ.le (σ.add st.objs.length (.slice ad (n1+(n2 - l2)) cp)):=by
   have:=Names.le_add hf.dom (Nat.le_refl _) (.slice ad (n1+(n2 - l2)) cp);rw [Z6]at this;exact this
 have hol:(W0 ρ ⟨st.tmps,Zy st.objs q (.arr ks.length ⟨Jx z i (.sub z j hh) (.o2 (.add .i64) i (.o2 (.sub .i64) hh j)),.slice ks⟩)⟩).objs.length=st.objs.length:=by simp [W0,St.map,Zy]
 have hA:=hfits.newObj (v0:=.slice ad (n1+(n2 - l2)) cp) (ov:=OV.map (denL ρ) (.view q ks.length ⟨.int .i64 0,.int .i64⟩ ⟨.o2 (.add .i64) i (.o2 (.sub .i64) hh j),.int .i64⟩)) (by
     simp only [OV.map,denL,dM];rw [hol];exact .view (l:=0) (hle2 _ _ hσ) (by rw [J1,WE hf hok hg]) (by omega) (by omega) hxc) (fun b hb hal=>by simp [OV.map,OV.alive]at hal) (by simp [OV.map]) (by simp [OV.map])
 rw [hol]at hA;refine⟨_,w',σ.add st.objs.length (.slice ad (n1+(n2 - l2)) cp),m,hle2,Mem.le_refl m,.inl hrun,?_,.own (J1 _ _ _),.own,?_,by simp,by simp⟩
 · simp only [Option.getD_some];have e:=Zf (ρ:=ρ) (st:=⟨st.tmps,Zy st.objs q (.arr ks.length ⟨Jx z i (.sub z j hh) (.o2 (.add .i64) i (.o2 (.sub .i64) hh j)),.slice ks⟩)⟩) (.view q ks.length ⟨.int .i64 0,.int .i64⟩ ⟨.o2 (.add .i64) i (.o2 (.sub .i64) hh j),.int .i64⟩);dsimp only at e;rw [e];exact hA
 · intro p hp;simp only [Option.getD_some]at hp;rcases List.mem_append.1 hp with hp|hp
   · obtain⟨k,hk',rfl⟩:=List.mem_iff_getElem.1 hp;have:=List.getElem?_eq_getElem hk';rcases Y0 this with⟨_,h,_⟩|⟨_,h⟩
     · rw [h];exact .arr ksp
     · exact hok.objs _ (List.mem_of_getElem? h)
   · simp at hp;subst hp;exact .view (.int _ _ (by decide)) kM
theorem Zaz {c:Call} {x y:Operand} {tx ty:TypeId} (ho:o.op=.call c) (hc:c.callee=.builtin .append) (hargs:c.args.toList=[x,y]) (hty:c.argTypes.toList=[tx,ty])
   (h:sxOp E.P g st o=some s) (hn:∀t∈s.needs,den ρ t=.bool true):OpOk E ρ σ m st a w o s:=by
 have hx:=Y5 hf hok hg x;have hy:=Y5 hf hok hg y;have ha:c.args= #[x,y]:=by rw [←Array.toArray_toList (xs:=c.args),hargs]
 have ht:c.argTypes= #[tx,ty]:=by rw [←Array.toArray_toList (xs:=c.argTypes),hty]
 simp only [sxOp,ho,hc,hargs,hty]at h;generalize thaw st.objs (Y4 g (look st x))=xx at *;generalize thaw st.objs (Y4 g (look st y))=yy at *;split at h <;> try contradiction
 rename_i htt;simp only [beq_iff_eq]at htt;subst htt;split at h <;> try contradiction
 rename_i el hu;split at h <;> try contradiction
 rename_i ks info hks hi;rcases hz:info.zero with _|z
 · simp [hz]at h
 simp only [hz]at h;split at h <;> try contradiction
 rename_i hcond;simp only [Bool.and_eq_true,beq_iff_eq,decide_eq_true_eq]at hcond;obtain⟨⟨⟨c1,c2⟩,c3⟩,hzs⟩:=hcond;have src:∀ {t:T},srcT st.objs ks yy=some t→LOk ρ ⟨t,.slice ks⟩∧∃ys,den ρ t=.slice ys∧Src E.P m w ks.length (a.eval y) ys:=by
   intro t hsrc;simp only [srcT]at hsrc;split at hsrc
   · rename_i ob;split at hsrc <;> try contradiction
     rename_i e' zz hob;split at hsrc <;> try contradiction
     rename_i hb;cases hsrc;simp only [Bool.and_eq_true,beq_iff_eq]at hb;obtain⟨rfl,hb2⟩:=hb;have hb2:=K.eq_of_beq hb2;have ho':=JB hf hok hg hob;have hkz:LOk ρ zz:=by have:=ho'.2;cases this;assumption
     cases zz with
     | mk t k=>
       simp only at hb2;subst hb2;obtain⟨ys,hys,hel⟩:=hkz.1.slice_inv;simp only at hys;exact⟨hkz,ys,hys,Src.of_own hf hob hys hel c3 hy.1⟩
   · obtain⟨k1,k2⟩:=ZbE hf hok hg hsrc hy.1 hy.2;obtain⟨ys,hys,hel⟩:=k1.1.slice_inv;simp only at hys;rw [hys]at k2;exact⟨k1,ys,hys,Src.of_data hf.mem k2 hel c3⟩
 split at h <;> try contradiction
 · rename_i t hsrc;cases h;obtain⟨kt,ys,hys,hS⟩:=src hsrc;have hp:=hx.1;simp only [RS,SV.map]at hp;generalize hev:a.eval x=ev at hp;cases hp;have b1:=hn _ List.mem_cons_self;simp only [sxOp.fitsT,den,hys,O2.eval,O1.eval,D.bool.injEq,decide_eq_true_eq,List.nil_append]at b1;have hbounds:ys.length * info.bytes≤140737488355328∧ys.length≤cap:=by
     split at b1
     · rename_i h0;rw [h0];simp only [Nat.mul_zero];exact⟨by omega,by omega⟩
     · rename_i h0;have hb:ys.length≤cap / info.bytes:=by omega
       have h1:ys.length * info.bytes≤cap:=Nat.le_trans (Nat.mul_le_mul_right _ hb) (Nat.div_mul_le_self _ _);exact⟨by simpa [cap]using h1,Nat.le_trans hb (Nat.div_le_self _ _)⟩
   exact Z0w hf hok ho hc ha ht hu hi hz c1 c2 hzs hys kt hS .nils [] rfl (.nils ks) st.objs [] (by simpa using hbounds.1) (by simpa using hbounds.2) (.inl ⟨⟨_,hev⟩,rfl,rfl⟩) _
 · rename_i ob t hsrc;split at h <;> try contradiction
   rename_i e' zz hob;split at h <;> try contradiction
   rename_i hb;cases h;simp only [Bool.and_eq_true,beq_iff_eq]at hb;obtain⟨rfl,hb2⟩:=hb;have hb2:=K.eq_of_beq hb2;obtain⟨kt,ys,hys,hS⟩:=src hsrc;have ho':=JB hf hok hg hob;have hkz:LOk ρ zz:=by have:=ho'.2;cases this;assumption
   cases zz with
   | mk bt k=>
     simp only at hb2;subst hb2;obtain⟨xs,hxs,hel⟩:=hkz.1.slice_inv;simp only at hxs;have b1:=hn _ List.mem_cons_self;simp only [sxOp.fitsT,den,hxs,hys,O2.eval,O1.eval,D.bool.injEq,decide_eq_true_eq,List.length_append]at b1;have hbounds:(xs.length+ys.length) * info.bytes≤140737488355328∧xs.length+ys.length≤cap:=by
       split at b1
       · rename_i h0;rw [h0];simp only [Nat.mul_zero];exact⟨by omega,by omega⟩
       · rename_i h0;have hb:xs.length+ys.length≤cap / info.bytes:=by omega
         have h1:(xs.length+ys.length) * info.bytes≤cap:=Nat.le_trans (Nat.mul_le_mul_right _ hb) (Nat.div_mul_le_self _ _);exact⟨by simpa [cap]using h1,Nat.le_trans hb (Nat.div_le_self _ _)⟩
     exact Z0w hf hok ho hc ha ht hu hi hz c1 c2 hzs hys kt hS bt xs hxs hkz _ [] hbounds.1 hbounds.2 (.inr ⟨ob,_,_,hob,rfl,rfl,hx.1,rfl⟩) _
 · rename_i o1 hsrc;split at h <;> try contradiction
   rename_i o2;split at h <;> try contradiction
   rename_i q e1 i q' e2 j hh h1 h2;split at h <;> try contradiction
   rename_i e' zz hq;split at h <;> try contradiction
   rename_i hb;cases h;simp only [Bool.and_eq_true,beq_iff_eq]at hb;obtain⟨⟨⟨⟨rfl,rfl⟩,rfl⟩,rfl⟩,hb2⟩:=hb;have hb2:=K.eq_of_beq hb2;cases zz with
   | mk z k=>
     simp only at hb2;subst hb2;exact Z42 hf hok hg ho hc ha ht hu hi c1 c3 hx.1 hy.1 h1 h2 hq (hn _ List.mem_cons_self)
theorem Z6t {t:TypeId} {x y:Operand} (ho:o.op=.makeSlice t x y) (h:sxOp E.P g st o=some s) (hn:∀t∈s.needs,den ρ t=.bool true):OpOk E ρ σ m st a w o s:=by
 have hx:=Y5 hf hok hg x;have hy:=Y5 hf hok hg y;simp only [sxOp,ho]at h;generalize thaw st.objs (Y4 g (look st x))=xx at *;generalize thaw st.objs (Y4 g (look st y))=yy at *;split at h <;> try contradiction
 rename_i el lt k ct k' hu;split at h <;> try contradiction
 rename_i ks info hks hi;split at h <;> try contradiction
 rename_i z hz;split at h <;> try contradiction
 rename_i cs hcs;split at h <;> try contradiction
 rename_i ts hts;split at h <;> try contradiction
 rename_i hc;cases h;simp only [Bool.and_eq_true,beq_iff_eq]at hc;obtain⟨⟨c1,c2⟩,c3⟩:=hc;have kl:=Jc hx.2;have kc:=Jc hy.2;obtain⟨n,hnd,hnv,n1,n2⟩:=RS.int hx.1 kl;obtain⟨c,hcd,hcv,q1,q2⟩:=RS.int hy.1 kc;have b1:=hn _ List.mem_cons_self;have b2:=hn _ (List.mem_cons_of_mem _ List.mem_cons_self);have b3:=hn _ (List.mem_cons_of_mem _ (List.mem_cons_of_mem _ List.mem_cons_self));simp only [den,hnd,hcd,O2.eval,D.bool.injEq,decide_eq_true_eq]at b1 b2 b3;have hbounds:(info.bytes:Int) * c≤281474976710656∧c≤cap:=by
   split at b3
   · rename_i h0;rw [h0];exact⟨by omega,b3⟩
   · rename_i h0;have h1:c.toNat≤cap / info.bytes:=by omega
     have h2:c.toNat * info.bytes≤cap:=Nat.le_trans (Nat.mul_le_mul_right _ h1) (Nat.div_mul_le_self _ _);have h3:c.toNat≤cap:=Nat.le_trans h1 (Nat.div_le_self _ _);refine⟨?_,by omega⟩;have h4:(info.bytes:Int) * c=((c.toNat * info.bytes:Nat):Int):=by
       have:c=(c.toNat:Int):=by omega
       rw [Int.natCast_mul, ←this,Int.mul_comm]
     rw [h4];simp only [cap]at h2;omega
 have run:=run_make (P:=E.P) w t el info z hu hi hz k k' n c b1 b2 hbounds.1 (by have:=hbounds.2;simp only [cap]at this;omega);obtain⟨l1,l2,l3,l4⟩:=Zt (σ:=σ) (m:=m) (ρ:=ρ) hcs;have hempty:∀q:SV TK,∀kk tt,asT [] kk q=some tt→asT st.objs kk q=some tt:=by
   intro q kk tt hq;cases q with
   |d x=>exact hq
   |nil=>exact hq
   |own o=>simp [asT]at hq
   |ptr o off=>simp [asT]at hq
   |_=>simp [asT]at hq
 have hts':allT st.objs ks cs=some ts:=by
   clear l1 l2 l3 l4 hcs c1 c2 c3 hks hn b3;induction ks generalizing cs ts with
   |nil=>cases cs <;> simp_all [allT]
   | cons k ks ih=>
     cases cs with
     |nil=>simp [allT]at hts
     | cons q cs=>
       simp only [allT]at hts ⊢;split at hts <;> try contradiction
       rename_i t1 ts1 h1 h2;cases hts;rw [hempty _ _ _ h1,ih _ _ h2]
 obtain⟨r1,r2,r3,r4⟩:=Z0l hf hok hts' l4;have hmax:c.toNat≤maxLen:=by have:=hbounds.2;simp only [cap]at this;simp only [maxLen];omega
 have hrep:LOk ρ ⟨.rep lt (T.list ts),.slice ks⟩:=by
   refine .mk' (d:=.slice (List.replicate n.toNat (ts.map (den ρ)))) (by simp only [den,hnd,W9,D.list,D.rep]) (.mk_slice ?_) fun rs=>by simp only [den];rw [kl.2 rs,(LOk.list r3.1 r3.2).2 rs]
   intro q hq;rw [List.eq_of_mem_replicate hq];exact r3.1
 refine .new hf hok (v0:=.slice (some ⟨w.heap.size,0,none⟩) n.toNat c.toNat) (arr:=madeCells z.cells (c.toNat * info.size)) (t:=el) ?_ (fun b hb=>Zbw hf hok hg hb) ?_ (fun σ' h'=>.own h') .own (.arr hrep) (by simp)
 · simp only [execOp,ho,hnv,hcv];simp [run]
 · simp only [OV.map];have hd:denL ρ ⟨.rep lt (T.list ts),.slice ks⟩=.slice (List.replicate n.toNat (ts.map (den ρ))):=by simp only [denL,den,hnd,W9,D.list,D.rep]
   rw [hd];have hlen:(List.replicate n.toNat (ts.map (den ρ))).length=n.toNat:=by simp
   rcases Nat.eq_zero_or_pos c.toNat with hc0|hc0
   · have hn0:n.toNat=0:=by omega
     rw [hn0,List.replicate_zero];exact .none (by rw [J1,hc0])
   refine .arr (b:=w.heap.size) (c:=c.toNat) (by rw [J1,hlen]) (Z2T w _) hc0 (by rw [hlen];omega) hmax (by rw [hlen];have:=hbounds.2;omega) (by rw [size_madeCells,c1]) ?_ ?_
   · intro q hq;rw [List.eq_of_mem_replicate hq];simp [r1];omega
   · intro i j q d v hiq hj hv;have hi':i < n.toNat:=by simpa using(List.getElem?_eq_some_iff.1 hiq).1
     rw [List.getElem?_replicate,if_pos hi']at hiq;cases hiq;simp only [List.getElem?_map,Option.map_eq_some_iff]at hj;obtain⟨t1,ht1,rfl⟩:=hj;have hj':j < ks.length:=by have:=(List.getElem?_eq_some_iff.1 ht1).1;omega
     have hlt:i * ks.length+j < c.toNat * info.size:=by
       rw [c1]
       calc i * ks.length+j < i * ks.length+ks.length:=by omega
         _=(i+1) * ks.length:=by rw [Nat.add_mul,Nat.one_mul]
         _≤c.toNat * ks.length:=Nat.mul_le_mul_right _ (by omega)
     have hzj:z.cells[j]? =some v:=by
       simp only [madeCells,Array.getElem?_map,Array.getElem?_range,if_pos hlt,Option.map_some,Option.some.injEq,c2]at hv;have hmod:(i * ks.length+j) % ks.length=j:=by rw [Nat.mul_comm,Nat.mul_add_mod,Nat.mod_eq_of_lt hj']
       rw [hmod]at hv;have hjz:j < z.cells.size:=by omega
       rw [←hv];simp [hjz]
     have hcj:j < cs.length:=by omega
     obtain⟨t',ht',hr'⟩:=r4 j _ v (List.getElem?_eq_getElem hcj) (l3 j _ v (List.getElem?_eq_getElem hcj) (by simpa using hzj));rw [ht1]at ht';cases ht';exact hr'
end ops
end
theorem Z7h {P:Program} {w:World} {t:TypeId} {b off:Nat} {arr:Array Value} {bt:TypeId} {u:Value} {i:TypeInfo} (hi:P.info? t=some i) (hn:u.cells.size=i.size)
   (hb:w.heap[b]? =some (.cells arr bt (0,0))) (h:off+u.cells.size≤arr.size) (h1:∀v∈u.cells.toList,v.oneCell'=true):
   (Instr.storeAt t (.pointer (some ⟨b,off,none⟩)) u).run P w=.ok () (w.setRow b (putCells arr off u.cells.toList)):=by
 have hst:=run_storeCells_at P b off bt u.cells.toList 0 arr w hb (by simpa using h) h1;simp only [Nat.add_zero]at hst;rw [WZ _ _ _ (by simpa using h)]at hst;simp [Instr.storeAt,Instr.sureAddr,storeVar,sizeOf,typeInfo,hi,hn,hst]
theorem Z67 {x e:List D} {j:Nat} (h:j+e.length≤x.length) (q:Nat):(Ze x j e)[q]? =if j≤q∧q < j+e.length then e[q - j]? else x[q]?:=by
 unfold Ze;have hlen:(x.take j).length=j:=by simp;omega
 rw [List.append_assoc,List.getElem?_append,hlen];by_cases h1:q < j
 · rw [if_pos h1,if_neg (by omega),List.getElem?_take,if_pos h1]
 · rw [if_neg h1,List.getElem?_append];by_cases h2:q - j < e.length
   · rw [if_pos h2,if_pos (by omega)]
   · rw [if_neg h2,if_neg (by omega),List.getElem?_drop];congr 1;omega
theorem Z38 {x e:List D} {j:Nat} (h:j+e.length≤x.length):(Ze x j e).length=x.length:=by
 simp [Ze];omega
theorem Z21 {k:IntKind} {i:T} {v:TK}:∀ {ys:List TK} {j0 j:Nat} {c:SV TK},(Z2y k i v j0 ys)[j]? =some c→∃y,ys[j]? =some y∧c=.d ⟨.ite (.o2 .eq i (.int k ((j0+j:Nat):Int))) v.t y.t,v.k⟩
 | [],j0,j,c,h=>by simp [Z2y]at h
 |y::ys,j0,0,c,h=>by simp [Z2y]at h;exact⟨y,rfl,by rw [←h];simp⟩
 | y::ys,j0,j+1,c,h=>by
   obtain⟨z,h1,h2⟩:=Z21 (ys:=ys) (j0:=j0+1) (j:=j) (c:=c) (by simpa [Z2y]using h);exact⟨z,by simpa using h1,by rw [h2];congr 6;omega⟩
theorem Z53 {k:IntKind} {i:T} {v:TK}:∀ {ys:List TK} {j0:Nat},(Z2y k i v j0 ys).length=ys.length
 | [],_=>rfl
 |y::ys,j0=>by simp [Z2y,Z53]
theorem Z54 {ρ:List D} {k:IntKind} {it:T} {iv:Int} {v y:TK} {j:Nat} (hi:LOk ρ ⟨it,.int k⟩) (hin:Go.Sx.den ρ it=.int k iv) (hv:LOk ρ v) (hy:LOk ρ y) (hk:y.k=v.k):
   LOk ρ ⟨.ite (.o2 .eq it (.int k j)) v.t y.t,v.k⟩∧Go.Sx.den ρ (.ite (.o2 .eq it (.int k j)) v.t y.t)=if iv=j then denL ρ v else denL ρ y:=by
 have hc:Go.Sx.den ρ (.o2 .eq it (.int k j))=.bool (decide (iv=j)):=by
   simp only [Go.Sx.den,hin,O2.eval,D.eqb];congr 1
 have hcl:LOk ρ ⟨.o2 .eq it (.int k j),.bool⟩:=⟨by show HasK .bool (Go.Sx.den ρ _);rw [hc];trivial,fun rs=>by simp only [Go.Sx.den];rw [hi.2 rs]⟩
 refine⟨LOk.ite hcl hv (by rw [←hk];exact hy),?_⟩;have e:Go.Sx.den ρ (.ite (.o2 .eq it (.int k j)) v.t y.t)=D.cond (Go.Sx.den ρ (.o2 .eq it (.int k j))) (Go.Sx.den ρ v.t) (Go.Sx.den ρ y.t):=rfl;rw [e,hc];by_cases h:iv=j
 · simp [h,D.cond,denL]
 · simp [h,D.cond,denL]
section
variable {E:Env} {ρ:List D} {σ:Names} {m:Mem} {st:St TK} {a:Act} {w:World}
section ops
variable (hf:Fits E σ m (W0 ρ st) a w) (hok:st.Ok ρ) {g:Option T} (hg:∀c,g=some c→den ρ c=.bool true) {o:Oper} {s:Sym}
include hf hok hg
theorem Zca {t:TypeId} {x y:Operand} (ho:o.op=.store t x y) (h:sxOp E.P g st o=some s):OpOk E ρ σ m st a w o s:=by
 have hx:=Y5 hf hok hg x;have hy:=Y5 hf hok hg y;simp only [sxOp,ho]at h;generalize thaw st.objs (Y4 g (look st x))=xx at *;generalize thaw st.objs (Y4 g (look st y))=yy at *;split at h <;> try contradiction
 rename_i hc;simp only [Bool.and_eq_true,beq_iff_eq,Option.isSome_iff_exists]at hc;obtain⟨⟨c1,i,hi⟩,c3⟩:=hc;have hval:ZaN st.objs yy=true:=by
   cases yy with
   |agg cs=>rfl
   |_=>simp [cellsOf]at c3;simpa [ZaN]using c3
 obtain⟨k1,k2,k3⟩:=Z0t hf hok hg hy.1 hy.2 hval;have hone:∀v∈(a.eval y).cells.toList,v.oneCell'=true:=by
   intro v hv;obtain⟨q,hq,rfl⟩:=List.mem_iff_getElem.1 hv;have hq1:q < (a.eval y).cells.size:=by simpa using hq
   have hq2:q < (cellsOf yy).length:=by omega
   have hm:=List.getElem_mem hq2;exact Z1T hf hok hg (List.all_eq_true.1 c3 _ hm) (k2 q _ _ (List.getElem?_eq_getElem hq2) (by simp [hq1])) (k3 _ hm)
 have hsz:(a.eval y).cells.size=i.size:=by rw [k1,c1,Je hi]
 have run:∀ {b off:Nat} {arr:Array Value} {bt:TypeId},a.eval x=.pointer (some ⟨b,off,none⟩)→w.heap[b]? =some (.cells arr bt (0,0))→off+(cellsOf yy).length≤arr.size→
     (execOp a.eval o).run E.P w=.ok .skip (w.setRow b (putCells arr off (a.eval y).cells.toList)):=by
   intro b off arr bt hev hb hfit;have:=Z7h (P:=E.P) (t:=t) (off:=off) (u:=a.eval y) hi hsz hb (by omega) hone;simp only [execOp,ho,hev];simp [this]
 have fin:∀ {ob b:Nat} {ov ov':OV TK} {cs:Array Value},st.objs[ob]? =some ov→ov.alive=true→(σ ob).bind blk=some b→(execOp a.eval o).run E.P w=.ok .skip (w.setRow b cs)→
     RepO σ m (w.setRow b cs) ob (ov'.map (denL ρ))→OV.Ok ρ ov'→(ov'.map (denL ρ)).alive=true→OpOk E ρ σ m st a w o ⟨[],[],.any,some (Zy st.objs ob ov')⟩:=by
   intro ob b ov ov' cs hob hal hb hrun hrep hall hal2;refine⟨undef,_,σ,m,Names.le_refl σ,Mem.le_refl m,.inr ⟨hrun,rfl⟩,?_,.any,.any,?_,by simp,by simp⟩
   · simp only [Option.getD_some,Zy];rw [Ye];refine hf.update (o:=ob) (ov:=ov.map (denL ρ)) (b:=b) (by simp [W0,St.map,hob]) ?_ hb (Z0x w b cs) hrep (.inl hal2);cases ov <;> first|rfl|(simp [OV.alive]at hal)
   · intro z hz;simp only [Option.getD_some,Zy]at hz;rcases List.mem_or_eq_of_mem_set hz with hz|rfl
     · exact hok.objs z hz
     · exact hall
 split at h <;> try contradiction
 · rename_i ob off;split at h <;> try contradiction
   rename_i old hob;split at h <;> try contradiction
   rename_i hfit;cases h;have ho':=JB hf hok hg hob;have hr:=ho'.1;have hka:=ho'.2;simp only [OV.map]at hr;generalize hold:old.map (SV.map (denL ρ))=dold at hr;have hp:=hx.1;simp only [RS,SV.map]at hp;generalize hev:a.eval x=ev at hp;cases hr with
   |box hs hb hsz2 hv=>
   rename_i b arr bt;cases hp with
   |ptr hσ=>
   rw [hs]at hσ;cases hσ;have hsz3:arr.size=old.length:=by rw [hsz2, ←hold];simp
   have hv':∀(i:Nat) c v,old[i]? =some c→arr[i]? =some v→RS σ m ρ c v:=by
     intro i c v hc hv1;exact hv i _ v (by rw [←hold];simp [hc]) hv1
   have hka':∀c∈old,SV.Ok ρ c:=by cases hka;assumption
   obtain⟨s1,s2⟩:=Z37 (σ:=σ) (m:=m) (ρ:=ρ) (off:=off) hsz3 hv' (vs:=(a.eval y).cells.toList) (by simpa using k1) (by simpa using k2) (by omega);rw [c1]at s1 s2;refine fin hob rfl (b:=b) (by simp [hs,blk]) (run hev hb (by omega)) ?_ (.box fun c hc=>?_) rfl
   · simp only [OV.map];refine .box hs (setRow_heap w b arr _ bt (0,0) hb) (by rw [s1];simp) fun i c v hc hv1=>?_
     rw [List.getElem?_map,Option.map_eq_some_iff]at hc;obtain⟨c',hc',rfl⟩:=hc;exact s2 i c' v hc' hv1
   · rcases Z4D hc with h'|h'
     · exact hka' c h'
     · exact k3 c h'
 · rename_i ob i mm;split at h <;> try contradiction
   rename_i old v k hob hcv hik;split at h <;> try contradiction
   rename_i ys hys;split at h <;> try contradiction
   rename_i hcond;simp only [Bool.and_eq_true,beq_iff_eq]at hcond;obtain⟨d1,d2⟩:=hcond;cases h;have hold:=Z3Z hys;have ho':=JB hf hok hg hob;have hr:=ho'.1;have hka:=ho'.2;simp only [OV.map]at hr;generalize hmo:old.map (SV.map (denL ρ))=dold at hr;have hki:LOk ρ i:=by have:=hx.2;cases this;assumption
   have hp:=hx.1;simp only [RS,SV.map]at hp;generalize hev:a.eval x=ev at hp;generalize hdi:denL ρ i=di at hp;cases hr with
   |box hs hb hsz2 hv=>
   rename_i b arr bt;cases hp with
   |bptr h0 hl hσ=>
   rename_i b' k' iv;rw [hs]at hσ;cases hσ;have hin:Go.Sx.den ρ i.t=.int k' iv:=hdi;have hkk:=hki.1;rw [hik,hin]at hkk;simp only [HasK]at hkk;obtain⟨rfl,hk1,hk2⟩:=hkk;have hki':LOk ρ ⟨i.t,.int k'⟩:=by rw [←hik];exact hki
   have hsz3:arr.size=old.length:=by rw [hsz2, ←hmo];simp
   have hly:old.length=ys.length:=by rw [hold];simp
   have hv':∀(i:Nat) c v,old[i]? =some c→arr[i]? =some v→RS σ m ρ c v:=by
     intro i c v hc hv1;exact hv i _ v (by rw [←hmo];simp [hc]) hv1
   have hyk:∀y∈ys,LOk ρ y∧y.k=v.k:=by
     intro y hy';refine⟨?_,K.eq_of_beq (List.all_eq_true.1 d2 y hy')⟩;cases hka with
     | box hh=>
       have:=hh (.d y) (by rw [hold];exact List.mem_map_of_mem hy');cases this;assumption
   have hvk:LOk ρ v:=by have:=k3 (.d v) (by rw [hcv];simp);cases this;assumption
   have hcl:(cellsOf yy).length=1:=by rw [hcv];rfl
   have ct:E.P.cellsOf t=1:=by rw [←c1,hcl]
   have h1c:(a.eval y).cells.size=1:=by rw [k1,hcv];rfl
   obtain⟨s1,s2⟩:=Z37 (σ:=σ) (m:=m) (ρ:=ρ) (off:=iv.toNat) hsz3 hv' (vs:=(a.eval y).cells.toList) (by simpa using k1) (by simpa using k2) (by omega);rw [c1]at s1 s2;refine fin hob rfl (b:=b) (by simp [hs,blk]) (run hev hb (by omega)) ?_ (.box fun c hc=>?_) rfl
   · simp only [OV.map];refine .box hs (setRow_heap w b arr _ bt (0,0) hb) (by rw [s1];simp [Z53,hly,hcl,ct];omega) fun j c u hc hu=>?_
     rw [List.getElem?_map,Option.map_eq_some_iff]at hc;obtain⟨c',hc',rfl⟩:=hc;obtain⟨y',hy1,rfl⟩:=Z21 hc';have hyy:=hyk y' (List.mem_of_getElem? hy1);have hjl:=(List.getElem?_eq_some_iff.1 hy1).1;obtain⟨_,g2⟩:=Z54 (j:=0+j) hki' hin hvk hyy.1 hyy.2;have htl:(old.take iv.toNat).length=iv.toNat:=by simp;omega
     have hsp:(old.take iv.toNat++cellsOf yy++old.drop (iv.toNat+E.P.cellsOf t))[j]? =some (if iv=((0+j:Nat):Int)then .d v else .d y'):=by
       rw [hcv,ct,List.append_assoc];rcases Nat.lt_trichotomy j iv.toNat with h|h|h
       · rw [if_neg (by omega),List.getElem?_append_left (by omega),List.getElem?_take,if_pos h,hold,List.getElem?_map,hy1];rfl
       · rw [if_pos (by omega),List.getElem?_append_right (by omega),htl,h];simp
       · rw [if_neg (by omega),List.getElem?_append_right (by omega),htl,List.getElem?_append_right (by simp;omega),List.getElem?_drop,hold,List.getElem?_map];have e:iv.toNat+1+(j - iv.toNat - [SV.d v].length)=j:=by simp;omega
         rw [e,hy1];rfl
     have hrs:=s2 j _ u hsp hu;refine .d ?_;show RepD m (Go.Sx.den ρ _) u;rw [g2];by_cases hij:iv=((0+j:Nat):Int)
     · rw [if_pos hij]at hrs ⊢;simp only [RS,SV.map]at hrs;cases hrs;assumption
     · rw [if_neg hij]at hrs ⊢;simp only [RS,SV.map]at hrs;cases hrs;assumption
   · obtain⟨j,hj⟩:=List.mem_iff_getElem?.1 hc;obtain⟨y',hy1,rfl⟩:=Z21 hj;have hyy:=hyk y' (List.mem_of_getElem? hy1);exact .d (Z54 (j:=0+j) hki' hin hvk hyy.1 hyy.2).1
 · rename_i ob ix e off;split at h <;> try contradiction
   rename_i e' z hob;split at h <;> try contradiction
   rename_i ks hzk;split at h <;> try contradiction
   rename_i hcond;simp only [Bool.and_eq_true,beq_iff_eq,decide_eq_true_eq]at hcond;obtain⟨⟨⟨q1,q2⟩,q3⟩,q4⟩:=hcond;split at h <;> try contradiction
   rename_i ts hts;cases h;subst q1;have ho':=JB hf hok hg hob;have hr:=ho'.1;have hkz:LOk ρ z:=by have:=ho'.2;cases this;assumption
   cases z with
   |mk zt zk=>
   simp only at hzk hts;subst hzk;obtain⟨xs,hxs,hel⟩:=hkz.1.slice_inv;simp only at hxs;have hd:denL ρ ⟨zt,.slice ks⟩=.slice xs:=hxs;simp only [OV.map,hd]at hr;have hp:=hx.1;simp only [RS,SV.map]at hp;have hki:LOk ρ ix:=by have:=hx.2;cases this;assumption
   generalize hdi:denL ρ ix=di at hp;generalize hev:a.eval x=ev at hp;cases hp with
   |oelt h0 hn hσ=>
   rename_i b n c0 k iv;cases hr with
   |none hs=>rw [hs]at hσ;cases hσ;simp at hn
   |arr hs hb h0c hc hcc hcap hsz2 he hv=>
   rename_i b2 c arr bt;rw [hs]at hσ;cases hσ;obtain⟨l1,l2,l3,l4⟩:=Z0l hf hok hts k3;have hlen:ts.length=(cellsOf yy).length:=l1;have hlt:iv.toNat < xs.length:=hn;have hbound:iv.toNat * e+e≤arr.size:=by
     rw [hsz2]
     calc iv.toNat * e+e=(iv.toNat+1) * e:=by rw [Nat.add_mul,Nat.one_mul]
       _≤c0 * e:=Nat.mul_le_mul_right _ (by omega)
   have hfit:iv.toNat * e+off+(cellsOf yy).length≤arr.size:=by omega
   have hdt:den ρ (.upd zt ix.t off (T.list ts))=.slice (xs.modify iv.toNat fun x=>Ze x off (ts.map (den ρ))):=by
     have:den ρ ix.t=.int k iv:=hdi;simp only [den,hxs,this,W9,D.list,D.upd]
   have hltl:LOk ρ ⟨.upd zt ix.t off (T.list ts),.slice ks⟩:=by
     refine LOk.upd (ik:=ix.k) hkz hki ?_ (by omega);rw [hlen,c1];exact l3
   refine fin hob rfl (b:=b) (by simp only [hs,Option.bind_some];exact Z9 h0c) (run hev hb hfit) ?_ (.arr hltl) rfl;simp only [OV.map];have hd2:denL ρ ⟨.upd zt ix.t off (T.list ts),.slice ks⟩=.slice (xs.modify iv.toNat fun x=>Ze x off (ts.map (den ρ))):=hdt;rw [hd2];have hxl:(xs.modify iv.toNat fun x=>Ze x off (ts.map (den ρ))).length=xs.length:=by simp
   refine .arr (b:=b) (c:=c0) (by rw [hxl];exact hs) (setRow_heap w b arr _ bt (0,0) hb) h0c (by rw [hxl];exact hc) hcc (by rw [hxl];exact hcap) (by rw [Y9];exact hsz2) ?_ ?_
   · intro x hx';obtain⟨q,hq,rfl⟩:=List.mem_iff_getElem.1 hx';simp only [List.length_modify]at hq;rw [List.getElem_modify];have:=he _ (List.getElem_mem hq);split
     · rw [Z38 (by simp;omega)];exact this
     · exact this
   · intro i2 j x d v hi2 hj hv2;have hi2':i2 < xs.length:=by have:=(List.getElem?_eq_some_iff.1 hi2).1;rw [hxl]at this;exact this
     have hxi:=he _ (List.getElem_mem hi2');rw [We _ _ _ (by simp;omega)]at hv2;simp only [Array.length_toList,k1]at hv2;rw [List.getElem?_modify]at hi2;simp only [List.getElem?_eq_getElem hi2',Option.map_eq_map,Option.map_some,Option.some.injEq]at hi2;by_cases heq:iv.toNat=i2
     · subst heq;simp only [if_true]at hi2;subst hi2;rw [Z67 (by simp;omega)]at hj;simp only [List.length_map,hlen]at hj;by_cases hin:off≤j∧j < off+(cellsOf yy).length
       · rw [if_pos hin]at hj;rw [if_pos (by omega)]at hv2;have e1:iv.toNat * e+j - (iv.toNat * e+off)=j - off:=by omega
         rw [e1]at hv2;simp only [List.getElem?_map,Option.map_eq_some_iff]at hj;obtain⟨t1,ht1,rfl⟩:=hj;have hcj:j - off < (cellsOf yy).length:=by omega
         obtain⟨t',ht',hr'⟩:=l4 (j - off) _ v (List.getElem?_eq_getElem hcj) (k2 (j - off) _ v (List.getElem?_eq_getElem hcj) (by simpa using hv2));rw [ht1]at ht';cases ht';exact hr'
       · rw [if_neg hin]at hj;rw [if_neg (by omega)]at hv2;exact hv iv.toNat j _ d v (List.getElem?_eq_getElem hi2') hj hv2
     · simp only [heq,if_false,id]at hi2;subst hi2;have hje:j < e:=by rw [←hxi];exact(List.getElem?_eq_some_iff.1 hj).1
       have hout:¬(iv.toNat * e+off≤i2 * e+j∧i2 * e+j < iv.toNat * e+off+(cellsOf yy).length):=by
         intro⟨g1,g2⟩;rcases Nat.lt_or_gt_of_ne heq with hlt2|hlt2
         · have:(iv.toNat+1) * e≤i2 * e:=Nat.mul_le_mul_right _ hlt2;rw [Nat.add_mul,Nat.one_mul]at this;omega
         · have:(i2+1) * e≤iv.toNat * e:=Nat.mul_le_mul_right _ hlt2;rw [Nat.add_mul,Nat.one_mul]at this;omega
       rw [if_neg hout]at hv2;exact hv i2 j _ d v (List.getElem?_eq_getElem hi2') hj hv2
end ops
end
theorem Z5a {α:Type} {l:List α} {off n i:Nat} (hi:i < n):((l.drop off).take n)[i]? =l[off+i]?:=by
 rw [List.getElem?_take,if_pos hi,List.getElem?_drop]
theorem Z6c {P:Program} {w:World} {t:TypeId} {i:TypeInfo} {X:Array Value} {off:Nat} (hi:P.info? t=some i) (ha:YN P t=some true):
   (part t X off).run P w=.ok (.agg (X.extract off (off+i.size))) w:=by
 unfold YN at ha;cases hu:P.underlying t with
 |none=>rw [hu]at ha;simp at ha
 | some d=>
   rw [hu]at ha;cases d <;> simp at ha <;> simp [part,isAgg,run_underlying hu,sizeOf,typeInfo,hi]
theorem Z6b {P:Program} {w:World} {t:TypeId} {X:Array Value} {off:Nat} {v:Value} (ha:YN P t=some false) (hv:X[off]? =some v):
   (part t X off).run P w=.ok v w:=by
 unfold YN at ha;cases hu:P.underlying t with
 |none=>rw [hu]at ha;simp at ha
 | some d=>
   rw [hu]at ha;cases d <;> simp at ha <;> simp [part,isAgg,run_underlying hu,hv]
section
variable {E:Env} {ρ:List D} {σ:Names} {m:Mem} {st:St TK} {a:Act} {w:World}
structure CellsR (σ:Names) (m:Mem) (ρ:List D) (cs:List (SV TK)) (X:Array Value):Prop where
 sz:X.size=cs.length
 rs:∀(i:Nat) c v,cs[i]? =some c→X[i]? =some v→RS σ m ρ c v
 ok:∀c∈cs,SV.Ok ρ c
theorem CellsR.one {c:SV TK} {X:Array Value} (h:CellsR σ m ρ [c] X):∃v,X= #[v]∧RS σ m ρ c v∧SV.Ok ρ c:=by
 have hs:=h.sz;simp at hs;have:X= #[X[0]]:=by
   apply Array.ext (by simp [hs]);intro i h1 h2;simp at h2;subst h2;rfl
 exact⟨X[0],this,h.rs 0 c _ rfl (by simp [hs]),h.ok c (by simp)⟩
theorem CellsR.part {cs:List (SV TK)} {X:Array Value} (h:CellsR σ m ρ cs X) {off n:Nat} (hfit:off+n≤cs.length):CellsR σ m ρ ((cs.drop off).take n) (X.extract off (off+n)):=by
 have hsz:=h.sz;refine⟨by simp;omega,fun i c v hc hv=>?_,fun c hc=>h.ok c (List.mem_of_mem_drop (List.mem_of_mem_take hc))⟩;have hi:i < n:=by have:=(List.getElem?_eq_some_iff.1 hc).1;simp at this;omega
 rw [Z5a hi]at hc;rw [Array.getElem?_extract]at hv;split at hv
 · exact h.rs _ c v hc hv
 · cases hv
def WU (ag:Bool) (X:Array Value):Value:=if ag then .agg X else X.getD 0 undef
theorem Z6V (P:Program):∀(n:Nat) (t:TypeId) (xs ys:List (SV TK)) (e:T),Z4U P n t xs ys=some e→∀(X Y:Array Value),CellsR σ m ρ xs X→CellsR σ m ρ ys Y→∀(d:Nat),
   ∃(ag b:Bool),YN P t=some ag∧(ag=false→X.size=1∧Y.size=1)∧(Op.equalIn (n+d) t (WU ag X) (WU ag Y)).run P w=.ok b w∧den ρ e=.bool b∧LOk ρ ⟨e,.bool⟩
 |0,_,_,_,_,h=>by simp [Z4U]at h
 | n + 1, t, xs, ys,e,h=>by
   intro X Y hX hY d;have e1:n+1+d=(n+d)+1:=by omega
   rw [e1];simp only [Z4U]at h;split at h <;> try contradiction
   · rename_i kk hu;split at h <;> try contradiction
     rename_i p k q k';split at h <;> try contradiction
     rename_i hk;subst hk;cases h;obtain⟨v1,rfl,r1,a1⟩:=hX.one;obtain⟨v2,rfl,r2,a2⟩:=hY.one;obtain⟨u,hu1,eu,_,_⟩:=RS.int r1 (Jc a1);obtain⟨v,hv1,ev,_,_⟩:=RS.int r2 (Jc a2);subst eu ev;refine⟨false,u==v,by simp [YN,hu],by simp,?_,by simp only [den,hu1,hv1,O2.eval,D.eqb],(Jc a1).cmp (Jc a2) rfl⟩;simp [WU,run_equalIn_int w (n+d) t k kk u v hu]
   · rename_i hu;split at h <;> try contradiction
     rename_i p q;cases h;obtain⟨v1,rfl,r1,a1⟩:=hX.one;obtain⟨v2,rfl,r2,a2⟩:=hY.one;obtain⟨u,hu1,eu⟩:=RS.bool r1 (Jc a1);obtain⟨v,hv1,ev⟩:=RS.bool r2 (Jc a2);subst eu ev;refine⟨false,u==v,by simp [YN,hu],by simp,?_,by simp only [den,hu1,hv1,O2.eval,D.eqb],(Jc a1).cmp (Jc a2) rfl⟩;simp [WU,run_equalIn_bool' w (n+d) t u v hu]
   · rename_i hu;split at h <;> try contradiction
     rename_i p q;cases h;obtain⟨v1,rfl,r1,a1⟩:=hX.one;obtain⟨v2,rfl,r2,a2⟩:=hY.one;obtain⟨u,hu1,eu,_⟩:=RS.str r1 (Jc a1);obtain⟨v,hv1,ev,_⟩:=RS.str r2 (Jc a2);subst eu ev;refine⟨false,u==v,by simp [YN,hu],by simp,?_,by simp only [den,hu1,hv1,O2.eval,D.eqb],(Jc a1).cmp (Jc a2) rfl⟩;simp only [WU,Bool.false_eq_true,if_false];have:=run_equalIn_string (P:=P) w (n+d) t ⟨u.toArray⟩ ⟨v.toArray⟩ hu;simpa [WI]using this
   · rename_i fs hu;split at h <;> try contradiction
     rename_i hst;have hfo:P.fieldsOf t=fs:=by simp [Program.fieldsOf,hu]
     have main : ∀(l:List Field) (e:T),Z0e P (Z4U P n) xs ys l=some e→∃b,(Op.eqFields (n+d) X Y l).run P w=.ok b w∧den ρ e=.bool b∧LOk ρ ⟨e,.bool⟩:=by
       intro l;induction l with
       |nil=>intro e h;simp [Z0e]at h;subst h;exact⟨true,by simp [Op.eqFields],rfl,.bool _⟩
       | cons f l ih=>
         intro e h;simp only [Z0e]at h;split at h <;> try contradiction
         rename_i hc;simp only [Bool.or_eq_true,beq_iff_eq,decide_eq_true_eq,not_or,Nat.not_lt]at hc;obtain⟨⟨hname,hx⟩,hy⟩:=hc;split at h <;> try contradiction
         rename_i e1 es he1 hes;cases h;obtain⟨ag,b,hag,h1,hrun,hd,hl⟩:=Z6V P n f.type _ _ e1 he1 _ _ (hX.part hx) (hY.part hy) d;obtain⟨bs,hruns,hds,hls⟩:=ih es hes;refine⟨b&&bs,?_,by simp only [den,hd,hds,O2.eval],?_⟩
         · have hsX:=hX.sz;have hsY:=hY.sz;have parts:∀(Z:Array Value),Z.size≥f.offset+P.cellsOf f.type→(ag=false→(Z.extract f.offset (f.offset+P.cellsOf f.type)).size=1)→
               (Go.part f.type Z f.offset).run P w=.ok (WU ag (Z.extract f.offset (f.offset+P.cellsOf f.type))) w:=by
             intro Z hz h1;cases ag with
             | true=>
               have:∃i,P.info? f.type=some i:=by
                 unfold YN at hag;cases hu2:P.underlying f.type with
                 |none=>rw [hu2]at hag;simp at hag
                 |some d=>exact Jn hu2
               obtain⟨i,hi⟩:=this;rw [Z6c hi hag,Je hi];rfl
             | false=>
               have hz1:=h1 rfl;have hc1:P.cellsOf f.type=1:=by simp at hz1;omega
               have hlt:f.offset < Z.size:=by omega
               rw [Z6b (v:=Z[f.offset]) hag (by simp [hlt])];simp [WU,Array.getD,hz1]
           have p1:=parts X (by omega) (fun e=>(h1 e).1);have p2:=parts Y (by omega) (fun e=>(h1 e).2);simp only [Op.eqFields,if_pos (show f.name≠ "_" from hname),Sem.run_bind,p1,p2,Result.andThen_ok,hrun];cases b <;> simp [hruns]
         · have:=hl.cmp (o:=.band) hls;refine .mk' (d:=.bool (b&&bs)) (by simp only [den,hd,hds,O2.eval]) (.mk_bool _) fun rs=>by simp only [den];rw [hl.2 rs,hls.2 rs]
     obtain⟨b,h1,h2,h3⟩:=main _ _ h;refine⟨true,b,by simp [YN,hu],by simp,?_,h2,h3⟩;simp only [WU,if_true];rw [run_equalIn_struct w (n+d) t X Y (by rw [hfo];exact hu) (by simpa using hst),hfo];exact h1
section ops
variable (hf:Fits E σ m (W0 ρ st) a w) (hok:st.Ok ρ) {g:Option T} (hg:∀c,g=some c→den ρ c=.bool true) {o:Oper} {s:Sym}
include hf hok hg
theorem Zcg {op:BinOp} {t yt:TypeId} {x y:Operand} (ho:o.op=.binOp op t x y yt) (h:sxOp E.P g st o=some s) (hn:∀t∈s.needs,den ρ t=.bool true):OpOk E ρ σ m st a w o s:=by
 have hx:=Y5 hf hok hg x;have hy:=Y5 hf hok hg y;simp only [sxOp,ho]at h;generalize thaw st.objs (Y4 g (look st x))=xx at *;generalize thaw st.objs (Y4 g (look st y))=yy at *;split at h <;> try contradiction
 · cases op <;> exact Zay hf hok hg ho hx.1 hy.1 (Jc hx.2) (Jc hy.2) hn h
 · exact Zax hf hok hg ho hx.1 hy.1 (Jc hx.2) (Jc hy.2) hn h
 · rename_i p q;have kx:=Jc hx.2;have ky:=Jc hy.2;obtain⟨u,hu,eu⟩:=RS.bool hx.1 kx;obtain⟨v,hv,ev⟩:=RS.bool hy.1 ky;split at h <;> try contradiction
   · rename_i ht;cases h;refine .val hf hok (v:=.bool (u==v)) (by simp [execOp,ho,eu,ev,eqGuard,binOp,run_equal_bool w t u v ht]) (.d ?_) (.d (kx.cmp ky rfl)) (by simp);simp only [denL,den,hu,hv,O2.eval,D.eqb];exact .bool _
   · rename_i ht;cases h;refine .val hf hok (v:=.bool (u !=v)) (by simp [execOp,ho,eu,ev,eqGuard,binOp,run_equal_bool w t u v ht,bne]) (.d ?_) (.d (kx.cmp ky rfl)) (by simp);simp only [denL,den,hu,hv,O2.eval,D.eqb,bne];exact .bool _
 · rename_i cs ds;split at h <;> try contradiction
   rename_i hc;simp only [Bool.and_eq_true,beq_iff_eq,Bool.not_eq_true']at hc;obtain⟨hag,hgd⟩:=hc;have hx1:=hx.1;have hy1:=hy.1;simp only [RS,SV.map,SV.mapL_eq]at hx1 hy1;generalize hcs:cs.map (SV.map (denL ρ))=mcs at hx1;generalize hds:ds.map (SV.map (denL ρ))=mds at hy1;generalize hex:a.eval x=ex at hx1;generalize hey:a.eval y=ey at hy1;cases hx1 with
   |agg hsz1 hv1=>
   cases hy1 with
   |agg hsz2 hv2=>
   rename_i X Y;have cX:CellsR σ m ρ cs X:=⟨by rw [hsz1, ←hcs];simp,fun i c v hc hv=>hv1 i _ v (by rw [←hcs];simp [hc]) hv,by have:=hx.2;cases this;assumption⟩
   have cY:CellsR σ m ρ ds Y:=⟨by rw [hsz2, ←hds];simp,fun i c v hc hv=>hv2 i _ v (by rw [←hds];simp [hc]) hv,by have:=hy.2;cases this;assumption⟩
   split at h <;> try contradiction
   all_goals
     rename_i e he;cases h;obtain⟨ag,b,hag',_,hrun,hd,hl⟩:=Z6V (w:=w) E.P _ _ _ _ _ he X Y cX cY (10000 - Wk);rw [hag]at hag';cases hag';have hdk:Wk+(10000 - Wk)=10000:=by decide
     rw [hdk]at hrun;simp only [WU,if_true]at hrun
   · refine .val hf hok (v:=.bool b) ?_ (.d (by simp only [denL,hd];exact .bool _)) (.d hl) (by simp);simp only [execOp,ho,hex,hey];simp [run_eqGuard_agg w .eql t x y X Y hgd,run_eql_struct,hrun]
   · refine .val hf hok (v:=.bool (!b)) ?_ (.d (by simp only [denL,T.notB,den,hd,O1.eval];exact .bool _)) (.d hl.notB) (by simp);simp only [execOp,ho,hex,hey];simp [run_eqGuard_agg w .neq t x y X Y hgd,run_neq_struct,hrun]
end ops
end
def Z23 (v:Option Value) (n dflt:Int):Prop:=(v=none∧n=dflt)∨∃k,v=some (.int k n)
theorem Z4q {P:Program} {w:World} {isS:Bool} {len cp:Nat} {lo hi:Option Value} {l h:Int} (hl:Z23 lo l 0) (hh:Z23 hi h len) (h0:0≤l) (h1:l≤h) (h2:h≤len) (h3:len≤cp):
   (Instr.sliceBounds isS len cp lo hi none).run P w=.ok (l.toNat,h.toNat,cp) w:=by
 have eh:(h.toNat:Int)=h:=Int.toNat_of_nonneg (by omega);have a1:(0:Int)≤h:=by omega
 have a2:h≤(cp:Int):=by omega
 have a3:l≤(len:Int):=by omega
 rcases hl with⟨rfl,rfl⟩|⟨kl,rfl⟩ <;> rcases hh with⟨rfl,rfl⟩|⟨kh,rfl⟩ <;>
   simp [Instr.sliceBounds,run_sliceBound,h0,h1,a1,a2,a3,eh]
theorem Z7j {P:Program} {w:World} {isS:Bool} {len cp:Nat} {lo hi:Option Value} {l h:Int} (hl:Z23 lo l 0) (hh:Z23 hi h len) (h0:0≤l) (h1:l≤h) (h2:h≤cp):
   (Instr.sliceBounds isS len cp lo hi none).run P w=.ok (l.toNat,h.toNat,cp) w:=by
 have eh:(h.toNat:Int)=h:=Int.toNat_of_nonneg (by omega);have a1:(0:Int)≤h:=by omega
 rcases hl with⟨rfl,rfl⟩|⟨kl,rfl⟩ <;> rcases hh with⟨rfl,rfl⟩|⟨kh,rfl⟩ <;>
   simp [Instr.sliceBounds,run_sliceBound,h0,h1,a1,h2,eh]
theorem Z7i {P:Program} {w:World} {isS:Bool} {len cp:Nat} {kl kh km:IntKind} {l h m:Int} (h0:0≤l) (h1:l≤h) (h2:h≤m) (h3:m≤cp):
   (Instr.sliceBounds isS len cp (some (.int kl l)) (some (.int kh h)) (some (.int km m))).run P w=.ok (l.toNat,h.toNat,m.toNat) w:=by
 have em:(m.toNat:Int)=m:=Int.toNat_of_nonneg (by omega);have eh:(h.toNat:Int)=h:=Int.toNat_of_nonneg (by omega);have a1:(0:Int)≤h:=by omega
 have a2:(0:Int)≤m:=by omega
 simp [Instr.sliceBounds,run_sliceBound,h0,h1,a1,a2,h2,h3,em,eh]
section
variable {E:Env} {ρ:List D} {σ:Names} {m:Mem} {st:St TK} {a:Act} {w:World}
section ops
variable (hf:Fits E σ m (W0 ρ st) a w) (hok:st.Ok ρ) {g:Option T} (hg:∀c,g=some c→den ρ c=.bool true) {o:Oper} {s:Sym}
include hf hok hg
theorem Z2X {x:Option Operand} {t d:T} (h:sxOp.boundT (x.map fun x=>thaw st.objs (Y4 g (look st x))) d=some t) (hd:LOk ρ ⟨d,.int .i64⟩):
   ∃n k n0 k0,den ρ t=.int k n∧den ρ d=.int k0 n0∧Z23 (x.map a.eval) n n0∧∃kk,LOk ρ ⟨t,.int kk⟩:=by
 obtain⟨n0,hn0,_⟩:=hd.1.int_inv;simp only at hn0;cases x with
 |none=>simp [sxOp.boundT]at h;subst h;exact⟨n0,_,n0,_,hn0,hn0,.inl ⟨rfl,rfl⟩,_,hd⟩
 | some x=>
   have hx:=Y5 hf hok hg x;simp only [Option.map_some]at h;generalize thaw st.objs (Y4 g (look st x))=xx at *;unfold sxOp.boundT at h;split at h <;> try contradiction
   rename_i t' k he;cases he;cases h;obtain⟨n,hn,hev,_,_⟩:=RS.int hx.1 (Jc hx.2);exact⟨n,_,n0,_,hn,hn0,.inr ⟨k,by simp [hev]⟩,k,Jc hx.2⟩
theorem JQ {x:Option Operand} {t d:T} (h:Z0j (x.map fun x=>thaw st.objs (Y4 g (look st x))) d=some t) (hd:LOk ρ ⟨d,.int .i64⟩):
   ∃n n0,den ρ t=.int .i64 n∧den ρ d=.int .i64 n0∧Z23 (x.map a.eval) n n0∧LOk ρ ⟨t,.int .i64⟩:=by
 obtain⟨n0,hn0,_⟩:=hd.1.int_inv;simp only at hn0;cases x with
 |none=>simp [Z0j]at h;subst h;exact⟨n0,n0,hn0,hn0,.inl ⟨rfl,rfl⟩,hd⟩
 | some x=>
   have hx:=Y5 hf hok hg x;simp only [Option.map_some]at h;generalize thaw st.objs (Y4 g (look st x))=xx at *;unfold Z0j at h;split at h <;> try contradiction
   rename_i t' he;cases he;cases h;obtain⟨n,hn,hev,_,_⟩:=RS.int hx.1 (Jc hx.2);exact⟨n,n0,hn,hn0,.inr ⟨.i64,by simp [hev]⟩,Jc hx.2⟩
theorem Zcb {t:TypeId} {x:Operand} {lo hi mx:Option Operand} (ho:o.op=.slice t x lo hi mx) (h:sxOp E.P g st o=some s) (hn:∀t∈s.needs,den ρ t=.bool true):OpOk E ρ σ m st a w o s:=by
 have hx:=Y5 hf hok hg x;simp only [sxOp,ho]at h;cases mx with
 | some my=>
   have zero:∀ {y:Operand},thaw st.objs (Y4 g (look st y))=.d ⟨.int .i64 0,.int .i64⟩→a.eval y=.int .i64 0:=by
     intro y hy;have h1:=Y5 hf hok hg y;rw [hy]at h1;obtain⟨n,hn1,hn2,_⟩:=RS.int h1.1 (Jc h1.2);simp only [den]at hn1;cases hn1;exact hn2
   have fin:∀ {e:TypeId} {y:Operand} {ad:Option Addr} {n c:Nat} {ks:List K},E.P.underlying t=some (.slice e)→(E.P.info? e).isSome=true→lo=none→hi=some y→a.eval y=.int .i64 0→a.eval my=.int .i64 0→a.eval x=.slice ad n c→
       OpOk E ρ σ m st a w o ⟨[],[],.own st.objs.length,some (st.objs++[.arr ks.length ⟨.nils,.slice ks⟩])⟩:=by
     intro e y ad n c ks hu hi' hlo hhi hy hmy hx';obtain⟨i,hi''⟩:=Option.isSome_iff_exists.1 hi';have hA:=hf.newObj (v0:=.slice ad 0 0) (ov:=OV.map (denL ρ) (.arr ks.length ⟨.nils,.slice ks⟩)) (.none (J1 _ _ _)) (fun b hb=>by simp [Zn]at hb) (by simp [OV.map]) (by simp [OV.map]);rw [Z6]at hA;refine⟨.slice ad 0 0,w,σ.add st.objs.length (.slice ad 0 0),m,Yt hf hok hg _,Mem.le_refl m,.inl ?_,?_,.own (J1 _ _ _),.own,?_,by simp,by simp⟩
     · simp only [execOp,ho,hlo,hhi,Option.map_none,Option.map_some,hy,hmy,hx'];simp [Instr.sliceAt,Instr.slice,run_underlying hu,Instr.sliceBounds,Instr.sliceBound,asIntOf,sizeOf,typeInfo,hi'']
     · simp only [Option.getD_some];rw [Zf];exact hA
     · intro q hq;simp only [Option.getD_some]at hq;rcases List.mem_append.1 hq with hq|hq
       · exact hok.objs q hq
       · simp at hq;subst hq;exact .arr (.nils ks)
   simp only [Option.isSome_some,if_true,Option.map_some]at h;split at h <;> try contradiction
   · rename_i e q ks hu hl hh hm;split at h <;> try contradiction
     rename_i ks' hks';split at h <;> try contradiction
     rename_i hinf;cases h;rw [hl]at hx;obtain⟨xs,hxs,_⟩:=(Jc hx.2).1.slice_inv;simp only at hxs;have hrep:=hx.1.d_inv;simp only [denL,hxs]at hrep;cases hi with
     |none=>simp at hh
     | some y=>
       simp only [Option.map_some,Option.some.injEq]at hh hm;generalize hev:a.eval x=ev at hrep;cases hrep with
       |empty ad c=>exact fin hu hinf rfl rfl (zero hh) (zero (by assumption)) hev
       |slice xs b off arr bt fz e c=>exact fin hu hinf rfl rfl (zero hh) (zero (by assumption)) hev
   · rename_i e hu hl hh hm;split at h <;> try contradiction
     rename_i ks' hks';split at h <;> try contradiction
     rename_i hinf;cases h;rw [hl]at hx;have hp:=hx.1;simp only [RS,SV.map]at hp;cases hi with
     |none=>simp at hh
     | some y=>
       simp only [Option.map_some,Option.some.injEq]at hh hm;generalize hev:a.eval x=ev at hp;cases hp;exact fin hu hinf rfl rfl (zero hh) (zero (by assumption)) hev
   · rename_i e ob lo' hsv msv hu hl hh hm;rw [hl]at hx;split at h <;> try contradiction
     rename_i q e' z top hvb;split at h <;> try contradiction
     rename_i hsize;split at h <;> try contradiction
     rename_i l h' m' hlo2 hhi2 hmx2;cases h;simp only [Bool.and_eq_true,beq_iff_eq]at hsize;obtain⟨hsz,hinf'⟩:=hsize;obtain⟨inf,hinf⟩:=Option.isSome_iff_exists.1 hinf';obtain⟨hq,xs,ad,c,h0,hxs,hσ,hc,hcap,kz,htop,hle,hev,ktop⟩:=Z31 hf hok hg hvb hx.1;cases hi with
     |none=>simp at hh
     |some yh=>
     have k0:LOk ρ ⟨.int .i64 0,.int .i64⟩:=.int _ _ (by decide);obtain⟨nl,n0,d1,d2,b1,lk1⟩:=JQ hf hok hg (x:=some lo') hlo2 k0;obtain⟨nh,n1,d3,d4,b2,lk2⟩:=JQ hf hok hg (x:=some yh) hhi2 k0;obtain⟨nm,n2,d5,d6,b3,lk3⟩:=JQ hf hok hg (x:=some my) hmx2 k0;have c1:=hn _ List.mem_cons_self;have c2:=hn _ (List.mem_cons_of_mem _ List.mem_cons_self);have c3:=hn _ (List.mem_cons_of_mem _ (List.mem_cons_of_mem _ List.mem_cons_self));have c4:=hn _ (List.mem_cons_of_mem _ (List.mem_cons_of_mem _ (List.mem_cons_of_mem _ List.mem_cons_self)));simp only [den,d1,d3,d5,hxs,O1.eval,O2.eval,D.bool.injEq,decide_eq_true_eq]at c1 c2 c3 c4;have hel':E.P.elem t=e:=by simp [Program.elem,hu]
     have hu':E.P.underlying t=some (.slice (E.P.elem t)):=by rw [hel'];exact hu
     obtain⟨kl,b1⟩:∃k,a.eval lo'=.int k nl:=by rcases b1 with⟨h,_⟩|⟨k,h⟩;cases h;exact⟨k,by simpa using h⟩
     obtain⟨kh,b2⟩:∃k,a.eval yh=.int k nh:=by rcases b2 with⟨h,_⟩|⟨k,h⟩;cases h;exact⟨k,by simpa using h⟩
     obtain⟨km,b3⟩:∃k,a.eval my=.int k nm:=by rcases b3 with⟨h,_⟩|⟨k,h⟩;cases h;exact⟨k,by simpa using h⟩
     have run:=Z7i (P:=E.P) (w:=w) (isS:=true) (len:=h0) (cp:=c) (kl:=kl) (kh:=kh) (km:=km) c1 c2 c3 (by omega);refine .val hf hok (v:=sliced ad nl.toNat nh.toNat nm.toNat inf.size) ?_ .any .any (by simp);simp only [execOp,ho,hev,Option.map_some,b1,b2,b3];simp [run_sliceAt_slice w t _ _ _ _ hu',run_slice_any w t ad h0 c hu',run,hel',sizeOf,typeInfo,hinf]
 |none=>
 simp only [Option.isSome_none,Bool.false_eq_true,if_false]at h;split at h <;> try contradiction
 · rename_i sl hu hl;rw [hl]at hx;split at h <;> try contradiction
   rename_i l hh hlo hhi;cases h;have kx:=Jc hx.2;obtain⟨xs,hxs,hev,hcap⟩:=RS.str hx.1 kx;have klen:LOk ρ ⟨.o1 .len sl,.int .i64⟩:=kx.len (by intro ys hy;rw [hxs]at hy;cases hy) (by intro ys hy;rw [hxs]at hy;cases hy;exact hcap);obtain⟨nl,kl,n0,k0,d1,d2,b1,kk1,lk1⟩:=Z2X hf hok hg hlo (.int _ _ rfl);obtain⟨nh,kh,n1,k1,d3,d4,b2,kk2,lk2⟩:=Z2X hf hok hg hhi klen;simp only [den]at d2;cases d2;simp only [den,hxs,O1.eval]at d4;cases d4;have c1:=hn _ List.mem_cons_self;have c2:=hn _ (List.mem_cons_of_mem _ List.mem_cons_self);have c3:=hn _ (List.mem_cons_of_mem _ (List.mem_cons_of_mem _ List.mem_cons_self));simp only [den,d1,d3,hxs,O1.eval,O2.eval,D.bool.injEq,decide_eq_true_eq]at c1 c2 c3;have hsz:=Wu xs;have run:=Z4q (P:=E.P) (w:=w) (isS:=false) (len:=(⟨xs.toArray⟩:ByteArray).size) (cp:=(⟨xs.toArray⟩:ByteArray).size) (lo:=lo.map a.eval) (hi:=hi.map a.eval) b1 (by rw [hsz];exact b2) c1 c2 (by rw [hsz];exact c3) (Nat.le_refl _);have hres:(⟨xs.toArray⟩:ByteArray).extract nl.toNat nh.toNat=⟨((xs.take nh.toNat).drop nl.toNat).toArray⟩:=by
     apply ByteArray.ext;simp [ByteArray.data_extract,List.extract_toArray,List.extract_eq_take_drop,List.drop_take]
   refine .val hf hok (v:=.string ⟨((xs.take nh.toNat).drop nl.toNat).toArray⟩) ?_ (.d ?_) (.d (kx.sub (.inl rfl) lk1 lk2)) (by simp)
   · simp only [execOp,ho,hev,Option.map_none];simp [run_sliceAt_string w t _ _ _ _ hu,Instr.slice,run_underlying hu,run,hres]
   · simp only [denL,den,hxs,d1,d3,D.sub];exact .str _ (by simp;omega)
 · rename_i el sl ks hu hl;rw [hl]at hx;split at h <;> try contradiction
   rename_i hsize;split at h <;> try contradiction
   rename_i l hh hlo hhi;cases h;simp only [Bool.and_eq_true,beq_iff_eq,Option.isSome_iff_exists]at hsize;obtain⟨hsize,inf,hinf⟩:=hsize;have kx:=Jc hx.2;obtain⟨xs,hxs,hel⟩:=kx.1.slice_inv;simp only at hxs;have hd:=hx.1.d_inv;simp only [denL,hxs]at hd;generalize hev:a.eval x=ev at hd;have hcap:xs.length≤cap:=by
     cases hd with
     |empty=>simp
     |slice=>assumption
   have klen:LOk ρ ⟨.o1 .len sl,.int .i64⟩:=kx.len (by intro ys hy;rw [hxs]at hy;cases hy;exact hcap) (by intro ys hy;rw [hxs]at hy;cases hy);obtain⟨nl,kl,n0,k0,d1,d2,b1,kk1,lk1⟩:=Z2X hf hok hg hlo (.int _ _ rfl);obtain⟨nh,kh,n1,k1,d3,d4,b2,kk2,lk2⟩:=Z2X hf hok hg hhi klen;simp only [den]at d2;cases d2;simp only [den,hxs,O1.eval]at d4;cases d4;have c1:=hn _ List.mem_cons_self;have c2:=hn _ (List.mem_cons_of_mem _ List.mem_cons_self);have c3:=hn _ (List.mem_cons_of_mem _ (List.mem_cons_of_mem _ List.mem_cons_self));simp only [den,d1,d3,hxs,O1.eval,O2.eval,D.bool.injEq,decide_eq_true_eq]at c1 c2 c3;have kres:=kx.sub (.inr ⟨_,rfl⟩) lk1 lk2;have hel':E.P.elem t=el:=by simp [Program.elem,hu]
   have hu':E.P.underlying t=some (.slice (E.P.elem t)):=by rw [hel'];exact hu
   have run:∀(ad:Option Addr) (c:Nat),ev=.slice ad xs.length c→xs.length≤c→
       (execOp a.eval o).run E.P w=.ok (.value (sliced ad nl.toNat nh.toNat c inf.size)) w:=by
     intro ad c hv hc;have run:=Z4q (P:=E.P) (w:=w) (isS:=true) (len:=xs.length) (cp:=c) (lo:=lo.map a.eval) (hi:=hi.map a.eval) b1 b2 c1 c2 c3 hc;simp only [execOp,ho,hev,hv,Option.map_none];simp [run_sliceAt_slice w t _ _ _ _ hu',run_slice_any w t ad xs.length c hu',run,hel',sizeOf,typeInfo,hinf]
   have hden:denL ρ ⟨.sub sl l hh,.slice ks⟩=.slice ((xs.take nh.toNat).drop nl.toNat):=by simp only [denL,den,hxs,d1,d3,D.sub]
   have hlen:((xs.take nh.toNat).drop nl.toNat).length=nh.toNat - nl.toNat:=by simp;omega
   by_cases hemp:nh.toNat=nl.toNat
   · have hnil:(xs.take nh.toNat).drop nl.toNat=[]:=List.eq_nil_of_length_eq_zero (by omega);have hform:∃ad c,ev=.slice ad xs.length c∧xs.length≤c:=by
       cases hd with
       |empty ad c=>exact⟨ad,c,rfl,Nat.zero_le _⟩
       |slice _ b off arr bt fz e c hc=>exact⟨_,c,rfl,hc⟩
     obtain⟨ad,c,hv,hc⟩:=hform;refine .val hf hok (run ad c hv hc) (.d ?_) (.d kres) (by simp);rw [hden,hnil,sliced,hemp,Nat.sub_self];exact .empty _ _
   · cases hd with
     |empty=>simp at c3;omega
     | slice _ b off arr bt fz e c hc _ hm he hfit hv=>
       refine .val hf hok (run _ c rfl hc) (.d ?_) (.d kres) (by simp);have hpos:0 < xs.length:=by omega
       have hie:inf.size=e:=by
         have h1:=he _ (List.getElem_mem hpos);have h2:=(hel _ (List.getElem_mem hpos)).length;rw [Je hinf]at hsize;omega
       rw [hden,sliced,if_neg (by omega),hie];simp only [Option.map_some,Z1y];have:=RepD.slice (m:=m) ((xs.take nh.toNat).drop nl.toNat) b (off+nl.toNat * e) arr bt fz e (c - nl.toNat) (by rw [hlen];omega) (by rw [hlen];omega) hm
         (fun x hx'=>he x (List.mem_of_mem_take (List.mem_of_mem_drop hx')))
         (by
           rw [hlen];have:nl.toNat * e+(nh.toNat - nl.toNat) * e≤xs.length * e:=by
             rw [←Nat.add_mul];exact Nat.mul_le_mul_right _ (by omega)
           omega)
         (fun i j x d v hi' hj hu2=>by
           have hlt:=(List.getElem?_eq_some_iff.1 hi').1;rw [hlen]at hlt;rw [List.getElem?_drop,List.getElem?_take,if_pos (by omega)]at hi';refine hv (nl.toNat+i) j x d v hi' hj ?_;rw [←hu2,Nat.add_mul];congr 1;omega)
       rw [hlen]at this;exact this
 · rename_i el ob hu hl;rw [hl]at hx;split at h <;> try contradiction
   rename_i q e' z top hvb;split at h <;> try contradiction
   rename_i hsize;split at h <;> try contradiction
   rename_i l hh hlo hhi;cases h;simp only [Bool.and_eq_true,beq_iff_eq]at hsize;obtain⟨⟨hsz,hinf'⟩,hk⟩:=hsize;obtain⟨inf,hinf⟩:=Option.isSome_iff_exists.1 hinf';obtain⟨hq,xs,ad,c,h0,hxs,hσ,hc,hcap,kz,htop,hle,hev,ktop⟩:=Z31 hf hok hg hvb hx.1;obtain⟨nl,n0,d1,d2,b1,lk1⟩:=JQ hf hok hg hlo (.int _ _ (by decide));obtain⟨nh,n1,d3,d4,b2,lk2⟩:=JQ hf hok hg hhi ktop;simp only [den]at d2;cases d2;rw [htop]at d4;cases d4;have c1:=hn _ List.mem_cons_self;have c2:=hn _ (List.mem_cons_of_mem _ List.mem_cons_self);have c3:=hn _ (List.mem_cons_of_mem _ (List.mem_cons_of_mem _ List.mem_cons_self));simp only [den,d1,d3,hxs,O1.eval,O2.eval,D.bool.injEq,decide_eq_true_eq]at c1 c2 c3;have hel':E.P.elem t=el:=by simp [Program.elem,hu]
   have hu':E.P.underlying t=some (.slice (E.P.elem t)):=by rw [hel'];exact hu
   have hie:inf.size=e':=by rw [Je hinf]at hsz;exact hsz
   have run:=Z7j (P:=E.P) (w:=w) (isS:=true) (len:=h0) (cp:=c) (lo:=lo.map a.eval) (hi:=hi.map a.eval) b1 b2 c1 c2 (by omega);have hrun:(execOp a.eval o).run E.P w=.ok (.value (Z2z ad nl.toNat nh.toNat c e')) w:=by
     simp only [execOp,ho,hev,Option.map_none];simp [run_sliceAt_slice w t _ _ _ _ hu',run_slice_any w t ad h0 c hu',run,hel',sizeOf,typeInfo,hinf,hie,sliced,Z2z]
   have e1:den ρ l=.int .i64 (nl.toNat:Nat):=by rw [d1];congr 1;omega
   have e2:den ρ hh=.int .i64 (nh.toNat:Nat):=by rw [d3];congr 1;omega
   have hle2:=Yt hf hok hg (Z2z ad nl.toNat nh.toNat c e');have hA:=hf.newObj (v0:=Z2z ad nl.toNat nh.toNat c e') (ov:=OV.map (denL ρ) (.view q e' ⟨l,.int .i64⟩ ⟨hh,.int .i64⟩)) (by
     simp only [OV.map,denL,e1,e2];rw [Z6];exact .view (hle2 _ _ hσ) (J1 _ _ _) (by omega) (by omega) hc) (fun b hb hal=>by simp [OV.map,OV.alive]at hal) (by simp [OV.map]) (by simp [OV.map])
   rw [Z6]at hA;refine⟨_,w,σ.add st.objs.length (Z2z ad nl.toNat nh.toNat c e'),m,hle2,Mem.le_refl m,.inl hrun,?_,.own (J1 _ _ _),.own,?_,by simp,by simp⟩
   · simp only [Option.getD_some];rw [Zf];exact hA
   · intro p hp;simp only [Option.getD_some]at hp;rcases List.mem_append.1 hp with hp|hp
     · exact hok.objs p hp
     · simp at hp;subst hp;exact .view lk1 lk2
end ops
end
def K.plain:K→Bool
 | .int _| .bool| .str=>true
 |_=>false
def K.keyish:K→Bool
 | .agg ks=>ks.all K.plain
 |k=>k.plain
theorem Z2f {d:TypeDesc} {k:K} (h:Z2g d=some k):k.plain=true:=by
 cases d <;> simp [Z2g]at h <;> subst h <;> rfl
theorem Z05 {P:Program}:∀ {l:List Field} {i:Nat} {ks:List K},Jv P i l=some ks→ks.all K.plain=true
 | [],_,_,h=>by simp [Jv]at h;subst h;rfl
 | f::fs,i,ks,h=>by
   simp only [Jv]at h;split at h <;> try contradiction
   rename_i k ks' h1 h2;split at h <;> try contradiction
   cases h;obtain⟨d,_,hd⟩:=Option.bind_eq_some_iff.1 h1;simp [Z2f hd,Z05 h2]
theorem Z7y {P:Program} {t:TypeId} {k:K} (h:keyK P t=some k):k.keyish=true:=by
 unfold keyK at h;split at h <;> try contradiction
 · split at h <;> try contradiction
   rename_i ks hks;split at h <;> try contradiction
   cases h;exact Z05 hks
 · have:=Z2f h;cases k <;> first|exact this|cases this
theorem Z4m {m:Mem} {k:K} {d d':D} {v v':Value} (hk:k.plain=true) (h:HasK k d) (h':HasK k d') (r:RepD m d v) (r':RepD m d' v'):(D.same d d'=true↔v=v'):=by
 cases k <;> simp [K.plain]at hk
 · obtain⟨n,rfl,_,_⟩:=h.int_inv;obtain⟨n',rfl,_,_⟩:=h'.int_inv;have:=r.int_inv;have:=r'.int_inv;subst_vars;simp [D.same]
 · obtain⟨b,rfl⟩:=h.bool_inv;obtain⟨b',rfl⟩:=h'.bool_inv;have:=r.bool_inv;have:=r'.bool_inv;subst_vars;simp [D.same]
 · obtain⟨s,rfl⟩:=h.str_inv;obtain⟨s',rfl⟩:=h'.str_inv;have:=r.str_inv.1;have:=r'.str_inv.1;subst_vars;simp [D.same]
theorem Z3a {m:Mem}:∀ {ks:List K} {ds ds':List D} {a a':List Value},ks.all K.plain=true→HasKs ks ds→HasKs ks ds'→a.length=ds.length→a'.length=ds'.length→
   (∀(i:Nat) d v,ds[i]? =some d→a[i]? =some v→RepD m d v)→(∀(i:Nat) d v,ds'[i]? =some d→a'[i]? =some v→RepD m d v)→(D.sameL ds ds'=true↔a=a')
 | [],[],[],a,a',_,_,_,l1,l2,_,_=>by
   cases a <;> cases a' <;> simp_all [D.sameL]
 | [],[],_::_,_,_,_,_,h,_,_,_,_=>by simp [HasKs]at h
 | [],_::_,_,_,_,_,h,_,_,_,_,_=>by simp [HasKs]at h
 |_::_,[],_,_,_,_,h,_,_,_,_,_=>by simp [HasKs]at h
 |_::_,_::_,[],_,_,_,_,h,_,_,_,_=>by simp [HasKs]at h
 | k::ks,d::ds,d'::ds',a,a',hp,h,h',l1,l2,r,r'=>by
   cases a with
   |nil=>simp at l1
   |cons v a=>
   cases a' with
   |nil=>simp at l2
   |cons v' a'=>
   simp only [List.all_cons,Bool.and_eq_true]at hp;simp only [HasKs]at h h';have h1:=Z4m hp.1 h.1 h'.1 (r 0 d v rfl rfl) (r' 0 d' v' rfl rfl);have h2:=Z3a hp.2 h.2 h'.2 (by simpa using l1) (by simpa using l2) (fun i d v a b=>r (i+1) d v (by simpa using a) (by simpa using b)) (fun i d v a b=>r' (i+1) d v (by simpa using a) (by simpa using b));simp only [D.sameL,Bool.and_eq_true,h1,h2,List.cons.injEq]
theorem Z0Z {m:Mem} {k:K} {d d':D} {v v':Value} (hk:k.keyish=true) (h:HasK k d) (h':HasK k d') (r:RepD m d v) (r':RepD m d' v'):(D.same d d'=true↔v=v'):=by
 cases k
 case agg ks=>
   cases d <;> simp [HasK]at h
   cases d' <;> simp [HasK]at h'
   cases r with
   |agg cs arr hsz hv=>
   cases r' with
   |agg cs' arr' hsz' hv'=>
   have:=Z3a (m:=m) (a:=arr.toList) (a':=arr'.toList) hk h h' (by simpa using hsz) (by simpa using hsz') (fun i d v a b=>hv i d v a (by simpa using b)) (fun i d v a b=>hv' i d v a (by simpa using b));simp only [D.same,this,Value.agg.injEq];exact⟨fun h=>Array.ext' h,fun h=>by rw [h]⟩
 all_goals exact Z4m (by simpa [K.keyish]using hk) h h' r r'
theorem Z6n {P:Program} {m:Mem} {t:TypeId} {d:TypeDesc} {k:K} {x:D} {v:Value} (hu:P.underlying t=some d) (hd:Z2g d=some k) (hk:HasK k x) (hr:RepD m x v):
   ∀D,∃l,P.keyLits (D+1) t [v]=some [l]∧mapKey P t v=some l:=by
 intro D;cases d <;> simp [Z2g]at hd <;> subst hd
 · obtain⟨b,rfl⟩:=hk.bool_inv;have:=hr.bool_inv;subst this;exact⟨.bool b,by simp [Program.keyLits,hu],by simp [mapKey,hu]⟩
 · rename_i q;obtain⟨n,rfl,h1,h2⟩:=hk.int_inv;have:=hr.int_inv;subst this;exact⟨.int q n,by simp [Program.keyLits,hu,Lit.wf,h1,h2],by simp [mapKey,hu,Lit.wf,h1,h2]⟩
 · obtain⟨s,rfl⟩:=hk.str_inv;obtain⟨rfl,hl⟩:=hr.str_inv;have h1:(⟨s.toArray⟩:ByteArray).size≤maxLen:=by
     simp only [ByteArray.size,List.size_toArray];simp only [cap]at hl;simp only [maxLen];omega
   exact⟨.string s,by simp only [Program.keyLits,hu,if_pos h1],by simp only [mapKey,hu,if_pos h1]⟩
theorem Z6F {P:Program} {m:Mem} {D0:Nat} {cs:List Value}:∀ {l:List Field} {i:Nat} {ks:List K} {xs:List D},Jv P i l=some ks→HasKs ks xs→(∀(j:Nat) x,xs[j]? =some x→∃v,cs[i+j]? =some v∧RepD m x v)→
   (l.mapM fun f=>P.keyLits (D0+1) f.type ((cs.drop f.offset).take (P.cellsOf f.type))).isSome=true
 | [],_,_,_,_,_,_=>rfl
 | f ::fs,i,ks,xs,h,hk,hr=>by
   simp only [Jv]at h;split at h <;> try contradiction
   rename_i k ks' h1 h2;split at h <;> try contradiction
   rename_i hc;simp only [Bool.and_eq_true,beq_iff_eq,bne_iff_ne,ne_eq]at hc;cases h;cases xs with
   |nil=>simp [HasKs]at hk
   |cons x xs=>
   simp only [HasKs]at hk;obtain⟨d,hu,hd⟩:=Option.bind_eq_some_iff.1 h1;obtain⟨v,hv,hrv⟩:=hr 0 x rfl;obtain⟨l,hl,_⟩:=Z6n hu hd hk.1 hrv D0;have ih:=Z6F (D0:=D0) h2 hk.2 (fun j y hy=>by
     have:=hr (j+1) y (by simpa using hy)
     rwa [show i+(j+1)=i+1+j by omega]at this)
   obtain⟨r,hr'⟩:=Option.isSome_iff_exists.1 ih;have e:(cs.drop f.offset).take (P.cellsOf f.type)=[v]:=by
     rw [hc.1.2,hc.1.1];have hlt:=(List.getElem?_eq_some_iff.1 hv).1;have:=(List.getElem?_eq_some_iff.1 hv).2;simp only [Nat.add_zero]at this hlt;rw [List.drop_eq_getElem_cons hlt,this];rfl
   simp [e,hl,hr']
theorem Z06 {P:Program}:∀ {l:List Field} {i:Nat} {ks:List K},Jv P i l=some ks→∀f∈l,f.name≠ "_" ∧∃d,P.underlying f.type=some d
 | [],_,_,_=>by simp
 | f::fs,i,ks,h=>by
   simp only [Jv]at h;split at h <;> try contradiction
   rename_i k ks' h1 h2;split at h <;> try contradiction
   rename_i hc;simp only [Bool.and_eq_true,beq_iff_eq,bne_iff_ne,ne_eq]at hc;obtain⟨d,hu,_⟩:=Option.bind_eq_some_iff.1 h1;intro g hg;rcases List.mem_cons.1 hg with rfl|hg
   · exact⟨hc.2,d,hu⟩
   · exact Z06 h2 g hg
theorem Z2R {P:Program} {m:Mem} {t:TypeId} {k:K} {x:D} {v:Value} (h:keyK P t=some k) (hk:HasK k x) (hr:RepD m x v):∃l,keyOf P t v=some l:=by
 unfold keyK at h;split at h <;> try contradiction
 · rename_i fs hu;split at h <;> try contradiction
   rename_i ks hks;split at h <;> try contradiction
   rename_i hc;cases h;simp only [Bool.and_eq_true,beq_iff_eq]at hc;obtain⟨⟨⟨c1,c2⟩,c3⟩,c4⟩:=hc;cases x <;> simp only [HasK]at hk
   rename_i xs;cases hr with
   |agg cs arr hsz hv=>
   have hlen:=hk.length;have hf:(Value.agg arr).formed P t=true:=by simp only [Value.formed,hu,beq_iff_eq];omega
   have hnames:=Z06 hks;have hall:fs.all (·.name != "_")=true:=by
     rw [Array.all_eq_true_iff_forall_mem];intro f hf;simpa using(hnames f (by simpa using hf)).1
   have hsize:∀f∈fs.toList,∃D0,P.types.size=D0+1:=by
     intro f hf;cases hs:P.types.size with
     |succ n=>exact⟨n,rfl⟩
     | zero=>
       unfold Program.keyType Program.keyTypeAt at c1;simp only [hu,hs,Bool.and_eq_true]at c1;have:=Array.all_eq_true_iff_forall_mem.1 c1.1.1 f (by simpa using hf);simp [Program.keyTypeAt]at this
   have hm:(fs.toList.mapM fun f=>P.keyLits P.types.size f.type (((Value.agg arr).cells.toList.drop f.offset).take (P.cellsOf f.type))).isSome=true:=by
     cases hfs:fs.toList with
     |nil=>rfl
     | cons f l=>
       obtain⟨D0,hD⟩:=hsize f (by rw [hfs];exact List.mem_cons_self);rw [hD, ←hfs];refine Z6F (m:=m) hks hk fun j y hy=>?_
       have hj:j < arr.size:=by have:=(List.getElem?_eq_some_iff.1 hy).1;omega
       refine⟨arr[j],by simp [Value.cells,hj],hv j y _ hy (by simp [hj])⟩
   obtain⟨r,hr'⟩:=Option.isSome_iff_exists.1 hm;refine⟨.string (keyBytes r.flatten),?_⟩;simp only [keyOf,hu,c1,hf,Bool.and_self,if_true];have hlen2:(Value.agg arr).cells.toList.length=P.cellsOf t:=by simp [Value.cells];omega
   simp only [Program.keyLits,hu,hlen2,hall,and_self,if_true,hr',Option.map_some]
 · rename_i d hne hu;obtain⟨l,_,hl⟩:=Z6n hu h hk hr 0;refine⟨l,?_⟩;unfold keyOf;rw [hu];cases d <;> first|exact hl|(simp [Z2g]at h)
theorem Z2Q {P:Program} {t:TypeId} {k:K} (h:keyK P t=some k):Maps.Keyed P t:=by
 unfold keyK at h;split at h <;> try contradiction
 · rename_i fs hu;split at h <;> try contradiction
   split at h <;> try contradiction
   rename_i hc;simp only [Bool.and_eq_true,beq_iff_eq]at hc;exact .of_law (deep_law (m:=2) (by omega) hc.1.1.2 hc.1.2 (by rw [hu]))
 · rename_i d hne hu;cases d <;> simp [Z2g]at h
   · exact Maps.bool_keyed hu
   · exact Maps.int_keyed hu
   · exact Maps.string_keyed hu
theorem Z2u {d:D}:∀ {xs:List (List D)} {i:Nat},(∀x∈xs,D.same d (x.headD (.bool false))=false)→D.findRow d xs i= -1
 | [],_,_=>rfl
 | x::xs,i,h=>by
   simp only [D.findRow,h x List.mem_cons_self,Bool.false_eq_true,if_false];exact Z2u fun y hy=>h y (List.mem_cons_of_mem _ hy)
theorem Z2s {d:D}:∀ {xs:List (List D)} {i j:Nat} {x:List D},xs[j]? =some x→D.same d (x.headD (.bool false))=true→(∀(k:Nat) y,k < j→xs[k]? =some y→D.same d (y.headD (.bool false))=false)→D.findRow d xs i=((i+j:Nat):Int)
 | [],_,_,_,h,_,_=>by simp at h
 | x::xs,i,0,y,h,hs,_=>by
   simp at h;subst h;simp only [D.findRow,hs,if_true,Nat.add_zero]
 | x::xs,i,j+1,y,h,hs,hn=>by
   have h0:=hn 0 x (by omega) rfl;simp only [D.findRow,h0,Bool.false_eq_true,if_false];rw [Z2s (j:=j) (x:=y) (by simpa using h) hs fun k z hk hz=>hn (k+1) z (by omega) (by simpa using hz)];congr 1;omega
theorem Zb2 {P:Program} {m:Mem} {w:World} {t:TypeId} {kk vk:K} {xs:List (List D)} {es:Array MapEntry} {d:D} {v:Value} (h:keyK P t=some kk) (hM:MapR m xs es) (hx:∀x∈xs,HasKs [kk,vk] x)
   (hk:HasK kk d) (hr:RepD m d v):
   ((Instr.findKey t v es.toList).run P w=.ok none w∧D.findRow d xs 0= -1∧∀x∈xs,D.same d (x.headD (.bool false))=false∧D.same (x.headD (.bool false)) d=false)∨
   ∃(j:Nat) (e:MapEntry) (kd vd:D),(Instr.findKey t v es.toList).run P w=.ok (some (j,e.val)) w∧es[j]? =some e∧e.key=v∧xs[j]? =some [kd,vd]∧RepD m kd e.key∧RepD m vd e.val∧HasK vk vd∧D.findRow d xs 0=(j:Int):=by
 have hky:=Z7y h;obtain⟨l,hl⟩:=Z2R h hk hr;have rows:∀(i:Nat) e,es[i]? =some e→∃kd vd,xs[i]? =some [kd,vd]∧RepD m kd e.key∧RepD m vd e.val∧HasK kk kd∧HasK vk vd:=by
   intro i e he;have hi:i < xs.length:=by have:=(Array.getElem?_eq_some_iff.1 he).1;have:=hM.sz;omega
   obtain⟨kd,vd,e1,e2,e3⟩:=hM.row i _ e (List.getElem?_eq_getElem hi) he;have:=hx _ (List.getElem_mem hi);rw [e1]at this;simp only [HasKs,and_true]at this;exact⟨kd,vd,by rw [List.getElem?_eq_getElem hi,e1],e2,e3,this.1,this.2⟩
 have hkeys:∀e∈es.toList,∃l,keyOf P t e.key=some l:=by
   intro e he;obtain⟨i,hi,rfl⟩:=List.getElem_of_mem he;obtain⟨kd,vd,_,r1,_,k1,_⟩:=rows i es[i] (Array.getElem?_eq_getElem (by simpa using hi));exact Z2R h k1 r1
 have back:∀(i:Nat) x,xs[i]? =some x→∃e kd vd,es[i]? =some e∧x=[kd,vd]∧RepD m kd e.key∧HasK kk kd:=by
   intro i x hx';have hi:i < es.size:=by have:=(List.getElem?_eq_some_iff.1 hx').1;have:=hM.sz;omega
   obtain⟨kd,vd,h1,h2,_,h3,_⟩:=rows i es[i] (Array.getElem?_eq_getElem hi);rw [hx']at h1;exact⟨es[i],kd,vd,Array.getElem?_eq_getElem hi,by simpa using h1,h2,h3⟩
 rcases(Z2Q h).find w hl es.toList hkeys with⟨h1,h2⟩|⟨j,e,h1,h2,h3⟩
 · have hno:∀x∈xs,D.same d (x.headD (.bool false))=false∧D.same (x.headD (.bool false)) d=false:=by
     intro x hx';obtain⟨i,hi⟩:=List.mem_iff_getElem?.1 hx';obtain⟨e,kd,vd,he,rfl,r1,k1⟩:=back i x hi;have hne:=h2 e (List.mem_of_getElem? (l:=es.toList) (i:=i) (by simpa using he));have s1:=Z0Z hky hk k1 hr r1;have s2:=Z0Z hky k1 hk r1 hr;simp only [List.headD_cons];exact⟨by
       rw [Bool.eq_false_iff];intro hc;exact hne (s1.1 hc).symm,by
       rw [Bool.eq_false_iff];intro hc;exact hne (s2.1 hc)⟩
   exact .inl ⟨h1,Z2u fun x hx'=>(hno x hx').1,hno⟩
 · right;have he:es[j]? =some e:=by simpa using h2
   obtain⟨kd,vd,r0,r1,r2,k1,k2⟩:=rows j e he;have s1:=Z0Z hky hk k1 hr r1;refine⟨j,e,kd,vd,h1,he,h3,r0,r1,r2,k2,?_⟩;have:=Z2s (d:=d) (i:=0) r0 (by simpa using s1.2 h3.symm) (fun q y hq hy=>by
     obtain⟨e',kd',vd',he',rfl,r1',k1'⟩:=back q y hy;simp only [List.headD_cons];rw [Bool.eq_false_iff];intro hc;have e1:=(Z0Z hky hk k1' hr r1').1 hc;have:=(Z0Z hky k1' k1 r1' r1).2 (by rw [←e1,h3]);have:=hM.nd q j _ _ hy r0 (by simpa using this);omega)
   simpa using this
theorem Z47 (w:World) (b:Nat) (ob:Obj):Grown w (ChangeMaps.setBlock w b ob) (some b):=
 ⟨rfl,rfl,rfl,by simp [ChangeMaps.setBlock],fun k _ hne=>by
   simp only [ChangeMaps.setBlock];rw [Array.getElem?_setIfInBounds_ne (fun e=>hne (by simp [e]))],Nat.le_refl _⟩
section
variable {E:Env} {ρ:List D} {σ:Names} {m:Mem} {st:St TK} {a:Act} {w:World}
theorem Z5M (hf:Fits E σ m (W0 ρ st) a w) (hok:st.Ok ρ) {k:K} {sv:SV TK} {t:T} {x:Value} (h:Z7O st.objs k sv=some t) (hr:RS σ m ρ sv x) (hk:SV.Ok ρ sv):LOk ρ ⟨t,k⟩∧RepD m (den ρ t) x:=by
 have plain:asT st.objs k sv=some t→LOk ρ ⟨t,k⟩∧RepD m (den ρ t) x:=by
   intro h;obtain⟨_,_,l3,l4⟩:=Z0l hf hok (ks:=[k]) (vs:=[sv]) (ts:=[t]) (by simp [allT,h]) (by intro v hv;simp at hv;subst hv;exact hk);obtain⟨t',ht',hd⟩:=l4 0 sv x rfl hr;simp at ht';subst ht';exact⟨⟨by have:=l3.1;simp [HasKs]at this;exact this,l3.2 t (by simp)⟩,hd⟩
 unfold Z7O at h;split at h
 · rename_i ks cs;rw [Option.map_eq_some_iff]at h;obtain⟨ts,hts,rfl⟩:=h;have hko:∀c∈cs,SV.Ok ρ c:=by cases hk;assumption
   obtain⟨l1,l2,l3,l4⟩:=Z0l hf hok hts hko;simp only [RS,SV.map,SV.mapL_eq]at hr;generalize hcs:cs.map (SV.map (denL ρ))=mcs at hr;cases hr with
   |agg hsz hv=>
   refine⟨.list l3.1 l3.2,?_⟩;rw [W9];have hl:cs.length=mcs.length:=by rw [←hcs];simp
   refine .agg _ _ (by simp;omega) fun i d v hd hv1=>?_
   rw [List.getElem?_map,Option.map_eq_some_iff]at hd;obtain⟨t',ht',rfl⟩:=hd;have hi:i < cs.length:=by have:=(List.getElem?_eq_some_iff.1 ht').1;omega
   obtain⟨t2,h2,h3⟩:=l4 i cs[i] v (List.getElem?_eq_getElem hi) (hv i _ v (by rw [←hcs];simp [hi]) hv1);rw [ht']at h2;cases h2;exact h3
 · cases h
 · exact plain h
theorem Z83 {k:K} {v:Value} {t:T} (h:zeroT.zeroC k v=some t):LOk ρ ⟨t,k⟩∧RepD m (den ρ t) v:=by
 have hc:=Z5N (σ:=fun _=>none) (m:=m) (ρ:=ρ) v;unfold zeroT.zeroC at h;split at h <;> try contradiction
 · rename_i x hx;split at h <;> try contradiction
   rename_i hb;cases h;have:=K.eq_of_beq hb;subst this;rw [hx]at hc;exact⟨by have:=hc.2;cases this;assumption,hc.1.d_inv⟩
 · rename_i hx;split at h <;> try contradiction
   cases h;rw [hx]at hc;have:=hc.1;simp only [RS,SV.map]at this;cases this;exact⟨.nils _,.empty _ 0⟩
theorem Z5V:∀ {ks:List K} {vs:List Value} {ts:List T},zeroT.zeroCs ks vs=some ts→LOks ρ ks ts∧ts.length=vs.length∧∀(i:Nat) t v,ts[i]? =some t→vs[i]? =some v→RepD m (den ρ t) v
 | [],[],ts,h=>by simp [zeroT.zeroCs]at h;subst h;exact⟨.nil,rfl,by simp⟩
 | [],_::_,_,h=>by simp [zeroT.zeroCs]at h
 |_::_,[],_,h=>by simp [zeroT.zeroCs]at h
 | k::ks,v::vs,ts,h=>by
   simp only [zeroT.zeroCs]at h;split at h <;> try contradiction
   rename_i t ts' h1 h2;cases h;have a1:=Z83 (m:=m) (ρ:=ρ) h1;obtain⟨b1,b2,b3⟩:=Z5V h2;refine⟨.cons a1.1 b1,by simp [b2],fun i t' v' ht hv=>?_⟩;cases i with
   |zero=>simp at ht hv;subst ht hv;exact a1.2
   |succ i=>exact b3 i t' v' (by simpa using ht) (by simpa using hv)
theorem ZbJ {P:Program} {t:TypeId} {k:K} {zt:T} (h:zeroT P t k=some zt):∃i z,P.info? t=some i∧i.zero=some z∧LOk ρ ⟨zt,k⟩∧RepD m (den ρ zt) z:=by
 unfold zeroT at h;split at h <;> try contradiction
 rename_i z hz;obtain⟨i,hi,hiz⟩:=Option.bind_eq_some_iff.1 hz;refine⟨i,z,hi,hiz,?_⟩;split at h
 · split at h <;> try contradiction
   rename_i ts hts;cases h;obtain⟨b1,b2,b3⟩:=Z5V (m:=m) (ρ:=ρ) hts;refine⟨.list b1.1 b1.2,?_⟩;rw [W9];refine .agg _ _ (by simp at b2 ⊢;omega) fun i d v hd hv1=>?_
   rw [List.getElem?_map,Option.map_eq_some_iff]at hd;obtain⟨t',ht',rfl⟩:=hd;exact b3 i t' v ht' (by simpa using hv1)
 · cases h
 · exact Z83 h
theorem ZaK {c s f z:T} {k:K} {d:D} {v:Value} (hk:HasK k d) (hr:RepD m d v) (hd:∀k',k'=k→D.cond (den ρ c) (D.cell (D.elem (den ρ s) (den ρ f)) 1 k') (den ρ z)=d)
   (hst:∀rs,den (ρ++rs) c=den ρ c∧den (ρ++rs) s=den ρ s∧den (ρ++rs) f=den ρ f∧den (ρ++rs) z=den ρ z):
   RS σ m ρ (Z1j c s f z k) v∧SV.Ok ρ (Z1j c s f z k):=by
 have plain:RS σ m ρ (.d ⟨.ite c (.idx s f 1 k) z,k⟩) v∧SV.Ok ρ (.d ⟨.ite c (.idx s f 1 k) z,k⟩):=by
   have e:den ρ (.ite c (.idx s f 1 k) z)=d:=by simp only [den];exact hd k rfl
   refine⟨.d (by simp only [denL,e];exact hr),.d (.mk' e hk fun rs=>?_)⟩;obtain⟨h1,h2,h3,h4⟩:=hst rs;simp only [den,h1,h2,h3,h4]
 unfold Z1j;split
 · rename_i ks;cases d <;> simp only [HasK]at hk
   rename_i cs;cases hr with
   |agg _ arr hsz hv=>
   have hlen:=hk.length;have cell:∀j,j < ks.length→den ρ (.sel (.ite c (.idx s f 1 (.agg ks)) z) (.int .i64 (j:Nat)) (ks.getD j .bool))=cs.getD j (ks.getD j .bool).zero:=by
     intro j hj;simp only [den,hd _ rfl,D.list,D.cellAt,Int.toNat_natCast]
   refine⟨?_,?_⟩
   · simp only [RS,SV.map,SV.mapL_eq];refine .agg (by simp;omega) fun i c' v' hc hv'=>?_
     rw [List.getElem?_map,Option.map_eq_some_iff]at hc;obtain⟨c2,hc2,rfl⟩:=hc;rw [List.getElem?_map,Option.map_eq_some_iff]at hc2;obtain⟨j,hj,rfl⟩:=hc2;have hij:i < ks.length:=by have:=(List.getElem?_eq_some_iff.1 hj).1;simpa using this
     have:j=i:=by simp [List.getElem?_range hij]at hj;exact hj.symm
     subst this;refine .d ?_;simp only [denL];rw [cell j hij];have hjc:j < cs.length:=by omega
     rw [List.getD_eq_getElem?_getD,List.getElem?_eq_getElem hjc];exact hv j _ v' (List.getElem?_eq_getElem hjc) hv'
   · refine .agg fun c' hc=>?_
     obtain⟨j,hj,rfl⟩:=List.mem_map.1 hc;have hj:j < ks.length:=by simpa using hj
     refine .d (.mk' (cell j hj) ?_ fun rs=>?_)
     · obtain⟨dd,h1,h2⟩:=hk.get (i:=j) (k:=ks[j]) (List.getElem?_eq_getElem hj);rw [List.getD_eq_getElem?_getD,List.getElem?_eq_getElem hj,List.getD_eq_getElem?_getD,h1];exact h2
     · obtain⟨h1,h2,h3,h4⟩:=hst rs;simp only [den,h1,h2,h3,h4]
 · exact plain
section ops
variable (hf:Fits E σ m (W0 ρ st) a w) (hok:st.Ok ρ) {g:Option T} (hg:∀c,g=some c→den ρ c=.bool true) {o:Oper} {s:Sym}
include hf hok hg
theorem Z96 {t:TypeId} {r:Option Operand} (ho:o.op=.makeMap t r) (h:sxOp E.P g st o=some s):OpOk E ρ σ m st a w o s:=by
 simp only [sxOp,ho]at h;split at h <;> try contradiction
 rename_i hr;split at h <;> try contradiction
 rename_i kt et hu;split at h <;> try contradiction
 rename_i kk vk hkk hvk;cases h;cases r with
 |some r=>simp at hr
 |none=>
 have hrun:(execOp a.eval o).run E.P w=.ok (.value (.map (some w.heap.size))) (w.alloc (.map #[] 0)):=by
   simp [execOp,ho,run_makeMap]
 have hw:=hf.world (Grown.alloc w (.map #[] 0)) (by simp);have hrep:RepO (σ.add st.objs.length (.map (some w.heap.size))) m (w.alloc (.map #[] 0)) st.objs.length (OV.map (denL ρ) (.mp ⟨.nils,.slice [kk,vk]⟩)):=
   .mp (xs:=[]) (J1 _ _ _) (Z2T w _) ⟨rfl,by simp,by simp⟩
 have hA:=hw.newObj (v0:=.map (some w.heap.size)) (ov:=OV.map (denL ρ) (.mp ⟨.nils,.slice [kk,vk]⟩)) (by rw [Z6];exact hrep) (fun b hb _=>by
   simp only [blk,Option.some.injEq]at hb;subst hb;obtain⟨h1,h2,h3⟩:=hf.fresh (b:=w.heap.size) (Nat.le_refl _);exact⟨h1,h2,h3⟩) (by simp [OV.map]) (by simp [OV.map])
 rw [Z6]at hA;refine⟨_,_,σ.add st.objs.length (.map (some w.heap.size)),m,Yt hf hok hg _,Mem.le_refl m,.inl hrun,?_,.own (J1 _ _ _),.own,?_,by simp,by simp⟩
 · simp only [Option.getD_some];rw [Zf];exact hA
 · intro x hx;simp only [Option.getD_some]at hx;rcases List.mem_append.1 hx with hx|hx
   · exact hok.objs x hx
   · simp at hx;subst hx;exact .mp (.nils _)
theorem Zd3 {ob:Nat} {z:TK} {kk vk:K} {x:Value} (hob:st.objs[ob]? =some (.mp z)) (hz:K.beq z.k (.slice [kk,vk])=true) (hx:RS σ m ρ (.own ob) x):
   ∃b es clock xs,x=.map (some b)∧w.heap[b]? =some (.map es clock)∧σ ob=some (.map (some b))∧MapR m xs es∧den ρ z.t=.slice xs∧(∀x∈xs,HasKs [kk,vk] x)∧LOk ρ ⟨z.t,.slice [kk,vk]⟩:=by
 have ho':=JB hf hok hg hob;have hkz:LOk ρ z:=by have:=ho'.2;cases this;assumption
 have hb:=K.eq_of_beq hz;cases z with
 |mk zt zk=>
 simp only at hb;subst hb;obtain⟨xs,hxs,hel⟩:=hkz.1.slice_inv;simp only at hxs;have hr:=ho'.1;have hd:denL ρ ⟨zt,.slice [kk,vk]⟩=.slice xs:=hxs;simp only [OV.map,hd]at hr;simp only [RS,SV.map]at hx;cases hr with
 |mp hs hb h=>
 cases hx with
 |own hσ=>
 rw [hs]at hσ;cases hσ;exact⟨_,_,_,xs,rfl,hb,hs,h,hxs,hel,hkz⟩
theorem Z3y {t:TypeId} {x y:Operand} {ok:Bool} (ho:o.op=.lookup t x y ok) {kt et:TypeId} {yy:SV TK} {kk vk:K} {z:TK} {key zt:T} (hu:E.P.underlying t=some (.map kt et)) (hy:RS σ m ρ yy (a.eval y)∧SV.Ok ρ yy)
   (hkk:keyK E.P kt=some kk) (hkey:Z7O st.objs kk yy=some key) (hzt:zeroT E.P et vk=some zt)
   {b:Nat} {es:Array MapEntry} {clock:Nat} {xs:List (List D)} (hev:a.eval x=.map (some b)) (hb:w.heap[b]? =some (.map es clock)) (hM:MapR m xs es) (hxs:den ρ z.t=.slice xs) (hel:∀x∈xs,HasKs [kk,vk] x) (hkz:LOk ρ ⟨z.t,.slice [kk,vk]⟩):
   OpOk E ρ σ m st a w o ⟨[],[],if ok then .tup [Z1j (.o2 .ge (.o2 .find z.t key) (.int .i64 0)) z.t (.o2 .find z.t key) zt vk,.d ⟨.o2 .ge (.o2 .find z.t key) (.int .i64 0),.bool⟩]else Z1j (.o2 .ge (.o2 .find z.t key) (.int .i64 0)) z.t (.o2 .find z.t key) zt vk,none⟩:=by
 obtain⟨ky1,ky2⟩:=Z5M hf hok hkey hy.1 hy.2;obtain⟨i,zv,hi,hiz,z1,z2⟩:=ZbJ (m:=m) (ρ:=ρ) hzt;obtain⟨l,hl⟩:=Z2R hkk ky1.1 ky2;have hck:=fun em=>(Z2Q hkk).check w em hl
 have hst:∀rs,den (ρ++rs) (.o2 .ge (.o2 .find z.t key) (.int .i64 0))=den ρ (.o2 .ge (.o2 .find z.t key) (.int .i64 0))∧den (ρ++rs) z.t=den ρ z.t∧den (ρ++rs) (.o2 .find z.t key)=den ρ (.o2 .find z.t key)∧den (ρ++rs) zt=den ρ zt:=
   fun rs=>by
     have h1:=hkz.2 rs;have h2:=ky1.2 rs;refine⟨?_,h1,?_,z1.2 rs⟩ <;> simp only [den,h1,h2]
 have hfd:den ρ (.o2 .find z.t key)=.int .i64 (D.findRow (den ρ key) xs 0):=by simp only [den,hxs,O2.eval]
 have fin:∀(found:Bool) (d:D) (v:Value),den ρ (.o2 .ge (.o2 .find z.t key) (.int .i64 0))=.bool found→HasK vk d→RepD m d v→(D.cond (.bool found) (D.cell (D.elem (den ρ z.t) (den ρ (.o2 .find z.t key))) 1 vk) (den ρ zt)=d)→
     (Instr.lookup t (.map (some b)) (a.eval y) ok).run E.P w=.ok (if ok then .tuple #[v,.bool found]else v) w→
     OpOk E ρ σ m st a w o ⟨[],[],if ok then .tup [Z1j (.o2 .ge (.o2 .find z.t key) (.int .i64 0)) z.t (.o2 .find z.t key) zt vk,.d ⟨.o2 .ge (.o2 .find z.t key) (.int .i64 0),.bool⟩]else Z1j (.o2 .ge (.o2 .find z.t key) (.int .i64 0)) z.t (.o2 .find z.t key) zt vk,none⟩:=by
   intro found d v hc hd hr he hrun;obtain⟨m1,m2⟩:=ZaK (σ:=σ) (ρ:=ρ) (c:=.o2 .ge (.o2 .find z.t key) (.int .i64 0)) (s:=z.t) (f:=.o2 .find z.t key) (z:=zt) hd hr (fun k' e=>by subst e;rw [hc];exact he) hst;have hcb:LOk ρ ⟨.o2 .ge (.o2 .find z.t key) (.int .i64 0),.bool⟩:=.mk' hc (.mk_bool _) fun rs=>(hst rs).1
   have hrun':(execOp a.eval o).run E.P w=.ok (.value (if ok then .tuple #[v,.bool found]else v)) w:=by
     simp only [execOp,ho,hev];simp [hrun]
   cases ok with
   |false=>exact .val hf hok hrun' m1 m2 (by simp)
   | true=>
     refine .val hf hok hrun' ?_ (.tup fun c hc'=>?_) (by simp)
     · simp only [RS,SV.map,SV.mapL,if_true];refine .tup rfl fun q c v' h1 h2=>?_
       match q,h1,h2 with
       |0,h1,h2=>simp at h1 h2;subst h1 h2;exact m1
       |1,h1,h2=>simp at h1 h2;subst h1 h2;exact .d (by simp only [denL,hc];exact .bool _)
       |q+2,h1,h2=>simp at h1
     · simp at hc';rcases hc' with rfl|rfl
       · exact m2
       · exact .d hcb
 rcases Zb2 (w:=w) hkk hM hel ky1.1 ky2 with⟨h1,h2,_⟩|⟨j,e,kd,vd,h1,he,hek,hj,r1,r2,k2,h2⟩
 · refine fin false (den ρ zt) zv ?_ z1.1 z2 rfl ?_
   · simp only [den,hfd,O2.eval]at hfd ⊢;simp only [hfd,h2,O2.eval];rfl
   · simp [Instr.lookup,run_underlying hu,MapKept.run_getObj_map hb,hck,h1,zeroValue,typeInfo,hi,hiz,Result.andThen]
 · refine fin true vd e.val ?_ k2 r2 ?_ ?_
   · simp only [den,hfd,O2.eval]at hfd ⊢;simp only [hfd,h2,O2.eval];simp
   · rw [hfd,h2,hxs];simp only [D.cond,D.elem,Int.toNat_natCast,D.cell];have e1:xs.getD j []=[kd,vd]:=by rw [List.getD_eq_getElem?_getD,hj];rfl
     rw [e1];rfl
   · simp [Instr.lookup,run_underlying hu,MapKept.run_getObj_map hb,hck,h1,Result.andThen]
theorem Zaw {t:TypeId} {x y:Operand} {ok:Bool} (ho:o.op=.lookup t x y ok) (h:sxOp E.P g st o=some s):OpOk E ρ σ m st a w o s:=by
 have hx:=Y5 hf hok hg x;have hy:=Y5 hf hok hg y;simp only [sxOp,ho]at h;generalize thaw st.objs (Y4 g (look st x))=xx at *;generalize thaw st.objs (Y4 g (look st y))=yy at *;split at h <;> try contradiction
 · rename_i kt et ob hu;split at h <;> try contradiction
   rename_i z kk vk hob hkk hvk;split at h <;> try contradiction
   rename_i hz;split at h <;> try contradiction
   rename_i key zt hkey hzt;cases h;obtain⟨b,es,clock,xs,hev,hb,hσ,hM,hxs,hel,hkz⟩:=Zd3 hf hok hg hob hz hx.1;exact Z3y hf hok hg ho (z:=z) hu hy hkk hkey hzt hev hb hM hxs hel hkz
 · rename_i kt et u ks hu;split at h <;> try contradiction
   rename_i kk vk hkk hvk;split at h <;> try contradiction
   rename_i hz;split at h <;> try contradiction
   rename_i key zt hkey hzt;cases h;have hks:=K.eq_of_beqL hz;subst hks;have hkx:=Jc hx.2;have hrx:=hx.1.d_inv;obtain⟨xs,hxs,hel⟩:=hkx.1.mp_inv;simp only at hxs;have e1:denL ρ ⟨u,.mp [kk,vk]⟩=.mp xs:=hxs;rw [e1]at hrx;obtain⟨b,es,clock,hev,hb,hM⟩:=hrx.mp_inv;have e2:den ρ (.o1 .rows u)=.slice xs:=by simp only [den,hxs,O1.eval]
   refine Z3y hf hok hg ho (z:=⟨.o1 .rows u,.slice [kk,vk]⟩) hu hy hkk hkey hzt hev (hf.mem _ _ hb) hM e2 hel (.mk' e2 (.mk_slice hel) fun rs=>?_);have:=hkx.2 rs;simp only at this;simp only [den,this]
theorem Z6s {t:TypeId} {x y u:Operand} (ho:o.op=.mapUpdate t x y u) (h:sxOp E.P g st o=some s):OpOk E ρ σ m st a w o s:=by
 have hx:=Y5 hf hok hg x;have hy:=Y5 hf hok hg y;have hu':=Y5 hf hok hg u;simp only [sxOp,ho]at h;generalize thaw st.objs (Y4 g (look st x))=xx at *;generalize thaw st.objs (Y4 g (look st y))=yy at *;generalize thaw st.objs (Y4 g (look st u))=uu at *;split at h <;> try contradiction
 rename_i kt et ob hu;split at h <;> try contradiction
 rename_i z kk vk hob hkk hvk;split at h <;> try contradiction
 rename_i hz;split at h <;> try contradiction
 rename_i key vt hkey hvt;cases h;obtain⟨b,es,clock,xs,hev,hb,hσ,hM,hxs,hel,hkz⟩:=Zd3 hf hok hg hob hz hx.1;obtain⟨ky1,ky2⟩:=Z5M hf hok hkey hy.1 hy.2;obtain⟨v1,v2⟩:=Z5M hf hok hvt hu'.1 hu'.2;obtain⟨l,hl⟩:=Z2R hkk ky1.1 ky2;have hck:=fun em=>(Z2Q hkk).check w em hl
 have hstay:=(Z2Q hkk).stays w hl;have hfd:den ρ (.o2 .find z.t key)=.int .i64 (D.findRow (den ρ key) xs 0):=by simp only [den,hxs,O2.eval]
 have hzk:=K.eq_of_beq hz;have hblk:b < w.heap.size:=(Array.getElem?_eq_some_iff.1 hb).1;have fin:∀(rows:List (List D)) (es':Array MapEntry) (clock':Nat),MapR m rows es'→(∀x∈rows,HasKs [kk,vk] x)→
     den ρ (.ite (.o2 .ge (.o2 .find z.t key) (.int .i64 0)) (.upd z.t (.o2 .find z.t key) 1 (T.list [vt])) (.push z.t (T.list [key,vt])))=.slice rows→
     (Instr.mapUpdate t (.map (some b)) (a.eval y) (a.eval u)).run E.P w=.ok () (ChangeMaps.setBlock w b (.map es' clock'))→
     OpOk E ρ σ m st a w o ⟨[],[],.any,some (Zy st.objs ob (.mp ⟨.ite (.o2 .ge (.o2 .find z.t key) (.int .i64 0)) (.upd z.t (.o2 .find z.t key) 1 (T.list [vt])) (.push z.t (T.list [key,vt])),z.k⟩))⟩:=by
   intro rows es' clock' hM' hrows hd hrun;have hrun':(execOp a.eval o).run E.P w=.ok .skip (ChangeMaps.setBlock w b (.map es' clock')):=by
     simp only [execOp,ho,hev];simp [hrun]
   refine⟨undef,_,σ,m,Names.le_refl σ,Mem.le_refl m,.inr ⟨hrun',rfl⟩,?_,.any,.any,?_,by simp,by simp⟩
   · simp only [Option.getD_some,Zy];rw [Ye];refine hf.update (o:=ob) (ov:=OV.map (denL ρ) (.mp z)) (b:=b) (by simp [W0,St.map,hob]) rfl (by simp [hσ,blk]) (Z47 w b _) ?_ (.inl rfl);simp only [OV.map,denL,hd];exact .mp (clock:=clock') hσ (by simp [ChangeMaps.setBlock,hblk]) hM'
   · intro q hq;simp only [Option.getD_some,Zy]at hq;rcases List.mem_or_eq_of_mem_set hq with hq|rfl
     · exact hok.objs q hq
     · refine .mp (.mk' hd (by rw [hzk];exact .mk_slice hrows) fun rs=>?_);have h1:=hkz.2 rs;have h2:=ky1.2 rs;have h3:=v1.2 rs;simp only at h1 h2 h3;simp only [den,T.list,h1,h2,h3]
 rcases Zb2 (w:=w) hkk hM hel ky1.1 ky2 with⟨h1,h2,h3⟩|⟨j,e,kd,vd,h1,he,hek,hj,r1,r2,k2,h2⟩
 · refine fin (xs++[[den ρ key,den ρ vt]]) (es.push {key:=a.eval y,val:=a.eval u,born:=clock}) (clock+1) ⟨by simp [hM.sz],fun i x e hi he=>?_,fun i j x y hi hj hs=>?_⟩ (fun x hx'=>?_) ?_ ?_
   · rw [List.getElem?_append]at hi;rw [Array.getElem?_push]at he;split at hi
     · rename_i hlt;rw [if_neg (by rw [hM.sz];omega)]at he;exact hM.row i x e hi he
     · rename_i hge;have:i=xs.length:=by
         have:=(List.getElem?_eq_some_iff.1 hi).1;simp at this;omega
       subst this;rw [if_pos (by rw [hM.sz])]at he;simp at hi he;subst hi he;exact⟨_,_,rfl,ky2,v2⟩
   · rw [List.getElem?_append]at hi hj;split at hi <;> split at hj
     · exact hM.nd i j x y hi hj hs
     · rename_i hlt hge;have:j=xs.length:=by
         have:=(List.getElem?_eq_some_iff.1 hj).1;simp at this;omega
       subst this;simp at hj;subst hj;have:=(h3 x (List.mem_of_getElem? hi)).2;simp only [List.headD_cons]at hs;rw [hs]at this;cases this
     · rename_i hge hlt;have:i=xs.length:=by
         have:=(List.getElem?_eq_some_iff.1 hi).1;simp at this;omega
       subst this;simp at hi;subst hi;have:=(h3 y (List.mem_of_getElem? hj)).1;simp only [List.headD_cons]at hs;rw [hs]at this;cases this
     · have e1:=(List.getElem?_eq_some_iff.1 hi).1;have e2:=(List.getElem?_eq_some_iff.1 hj).1;simp at e1 e2;omega
   · rcases List.mem_append.1 hx' with hx'|hx'
     · exact hel x hx'
     · simp at hx';subst hx';simp only [HasKs,and_true];exact⟨ky1.1,v1.1⟩
   · have hc:den ρ (.o2 .ge (.o2 .find z.t key) (.int .i64 0))=.bool false:=by
       simp only [den,hfd,O2.eval]at hfd ⊢;simp only [hfd,h2,O2.eval];rfl
     have hp:den ρ (.push z.t (T.list [key,vt]))=.slice (xs++[[den ρ key,den ρ vt]]):=by
       simp only [den,T.list,hxs,D.list,D.push]
     have:den ρ (.ite (.o2 .ge (.o2 .find z.t key) (.int .i64 0)) (.upd z.t (.o2 .find z.t key) 1 (T.list [vt])) (.push z.t (T.list [key,vt])))=
       D.cond (den ρ (.o2 .ge (.o2 .find z.t key) (.int .i64 0))) (den ρ (.upd z.t (.o2 .find z.t key) 1 (T.list [vt]))) (den ρ (.push z.t (T.list [key,vt]))):=rfl
     rw [this,hc,hp];rfl
   · simp [Instr.mapUpdate,run_underlying hu,MapKept.run_getObj_map hb,hck,h1,MapKept.run_setObj_map _ hb,Result.andThen,ChangeMaps.setBlock]
 · have hje:j < es.size:=(Array.getElem?_eq_some_iff.1 he).1;have hjx:j < xs.length:=(List.getElem?_eq_some_iff.1 hj).1;have hmod:∀(i:Nat) x,(xs.modify j fun x=>Ze x 1 [den ρ vt])[i]? =some x→(i=j∧x=[kd,den ρ vt])∨(i≠j∧xs[i]? =some x):=by
     intro i x hi;rw [List.getElem?_modify]at hi;by_cases hij:j=i
     · subst hij;rw [hj]at hi;left;refine⟨rfl,?_⟩;have:some (Ze [kd,vd] 1 [den ρ vt])=some x:=by simpa using hi
       exact(Option.some.inj this).symm
     · right;refine⟨fun e=>hij e.symm,?_⟩;simpa [hij]using hi
   refine fin (xs.modify j fun x=>Ze x 1 [den ρ vt]) (es.modify j fun e=> {e with key:=a.eval y,val:=a.eval u}) clock ⟨by simp [hM.sz],fun i x e' hi he'=>?_,fun i i' x y hi hi' hs=>?_⟩ (fun x hx'=>?_) ?_ ?_
   · rw [Array.getElem?_modify]at he';rcases hmod i x hi with⟨rfl,rfl⟩|⟨hne,hi⟩
     · rw [if_pos rfl,he]at he';simp at he';subst he';exact⟨_,_,rfl,by rw [←hek];exact r1,v2⟩
     · rw [if_neg (fun e=>hne e.symm)]at he';exact hM.row i x e' hi he'
   · rcases hmod i x hi with⟨e1,e1'⟩|⟨n1,g1⟩ <;> rcases hmod i' y hi' with⟨e2,e2'⟩|⟨n2,g2⟩
     · rw [e1,e2]
     · subst e1 e1';exact hM.nd _ _ _ _ hj g2 (by simpa using hs)
     · subst e2 e2';exact hM.nd _ _ _ _ g1 hj (by simpa using hs)
     · exact hM.nd _ _ _ _ g1 g2 hs
   · obtain⟨i,hi⟩:=List.mem_iff_getElem?.1 hx';rcases hmod i x hi with⟨rfl,rfl⟩|⟨hne,hi⟩
     · have:=hel _ (List.mem_of_getElem? hj);simp only [HasKs,and_true]at this ⊢;exact⟨this.1,v1.1⟩
     · exact hel x (List.mem_of_getElem? hi)
   · have hc:den ρ (.o2 .ge (.o2 .find z.t key) (.int .i64 0))=.bool true:=by
       simp only [den,hfd,O2.eval]at hfd ⊢;simp only [hfd,h2,O2.eval];simp
     have hp:den ρ (.upd z.t (.o2 .find z.t key) 1 (T.list [vt]))=.slice (xs.modify j fun x=>Ze x 1 [den ρ vt]):=by
       have:den ρ (.upd z.t (.o2 .find z.t key) 1 (T.list [vt]))=(den ρ z.t).upd (den ρ (.o2 .find z.t key)) 1 (den ρ (T.list [vt])).list:=rfl;rw [this,hxs,hfd,h2,W9];simp only [D.upd,D.list,Int.toNat_natCast,List.map_cons,List.map_nil]
     have:den ρ (.ite (.o2 .ge (.o2 .find z.t key) (.int .i64 0)) (.upd z.t (.o2 .find z.t key) 1 (T.list [vt])) (.push z.t (T.list [key,vt])))=
       D.cond (den ρ (.o2 .ge (.o2 .find z.t key) (.int .i64 0))) (den ρ (.upd z.t (.o2 .find z.t key) 1 (T.list [vt]))) (den ρ (.push z.t (T.list [key,vt]))):=rfl
     rw [this,hc,hp];rfl
   · simp [Instr.mapUpdate,run_underlying hu,MapKept.run_getObj_map hb,hck,h1,he,hek,hstay,MapKept.run_setObj_map _ hb,Result.andThen,ChangeMaps.setBlock]
end ops
end
section
variable {E:Env} {ρ:List D} {σ:Names} {m:Mem} {st:St TK} {a:Act} {w:World}
section ops
variable (hf:Fits E σ m (W0 ρ st) a w) (hok:st.Ok ρ) {g:Option T} (hg:∀c,g=some c→den ρ c=.bool true) {o:Oper} {s:Sym}
include hf hok hg
theorem Z9D {ks:List K} {vs:List Value} {cs:List (SV TK)} {ts:List T} (hcs:sxOp.zeroCells ks vs=some cs) (hts:allT [] ks cs=some ts) (hflat:ks.all K.flat=true):
   ts.length=vs.length∧LOks ρ ks ts∧(∀(j:Nat) t v,ts[j]? =some t→vs[j]? =some v→RepD m (den ρ t) v)∧∀v∈vs,v.oneCell'=true:=by
 obtain⟨l1,l2,l3,l4⟩:=Zt (σ:=σ) (m:=m) (ρ:=ρ) hcs;have hempty:∀q:SV TK,∀kk tt,asT [] kk q=some tt→asT st.objs kk q=some tt:=by
   intro q kk tt hq;cases q with
   |d x=>exact hq
   |nil=>exact hq
   |own o=>simp [asT]at hq
   |ptr o off=>simp [asT]at hq
   |_=>simp [asT]at hq
 have hts':∀ {ks:List K} {cs:List (SV TK)} {ts:List T},allT [] ks cs=some ts→allT st.objs ks cs=some ts:=by
   intro ks;induction ks with
   |nil=>intro cs ts hts;cases cs <;> simp_all [allT]
   | cons k ks ih=>
     intro cs ts hts;cases cs with
     |nil=>simp [allT]at hts
     | cons q cs=>
       simp only [allT]at hts ⊢;split at hts <;> try contradiction
       rename_i t1 ts1 h1 h2;cases hts;rw [hempty _ _ _ h1,ih h2]
 obtain⟨r1,r2,r3,r4⟩:=Z0l hf hok (hts' hts) l4;refine⟨by omega,r3,?_,?_⟩
 · intro j t v ht hv;have hcj:j < cs.length:=by have:=(List.getElem?_eq_some_iff.1 ht).1;omega
   obtain⟨t',ht',hr'⟩:=r4 j _ v (List.getElem?_eq_getElem hcj) (l3 j _ v (List.getElem?_eq_getElem hcj) hv);rw [ht]at ht';cases ht';exact hr'
 · intro v hv;obtain⟨j,hj⟩:=List.mem_iff_getElem?.1 hv;have hjl:=(List.getElem?_eq_some_iff.1 hj).1;have hcj:j < cs.length:=by omega
   have hrs:=l3 j _ v (List.getElem?_eq_getElem hcj) hj;obtain⟨t',ht',hr'⟩:=r4 j _ v (List.getElem?_eq_getElem hcj) hrs;have hkj:j < ks.length:=by omega
   obtain⟨d,hd,hkd⟩:=HasKs.get r3.1 (i:=j) (k:=ks[j]) (by simp [hkj]);simp only [List.getElem?_map,ht',Option.map_some,Option.some.injEq]at hd;subst hd;have hkf:(ks[j]).flat=true:=(List.all_eq_true.1 hflat) _ (List.getElem_mem hkj);revert hkd hkf hr';generalize den ρ t'=dd;generalize ks[j]=kk;intro hr hkd hkf;cases hr <;> first|rfl|(cases kk <;> simp [HasK,K.flat]at hkd hkf)
theorem Z9C {ks:List K} {z0:Value} {ts:List T} {n:Nat} (hsz:z0.cells.size=ks.length) (hl:ts.length=ks.length) (h:∀(j:Nat) t v,ts[j]? =some t→z0.cells.toList[j]? =some v→RepD m (den ρ t) v):
   Flat m ks.length (List.replicate n (ts.map (den ρ))) (Builtin.zeroCells z0.cells n):=by
 refine⟨by rw [size_zeroCells,hsz];simp,fun x hx=>by rw [List.eq_of_mem_replicate hx];simpa using hl,?_⟩;intro i j x d v hi hj hu;have hi':i < n:=by simpa using(List.getElem?_eq_some_iff.1 hi).1
 rw [List.getElem?_replicate,if_pos hi']at hi;cases hi;simp only [List.getElem?_map,Option.map_eq_some_iff]at hj;obtain⟨t1,ht1,rfl⟩:=hj;have hj':j < ks.length:=by have:=(List.getElem?_eq_some_iff.1 ht1).1;omega
 have hlt:i * ks.length+j < n * ks.length:=by
   calc i * ks.length+j < i * ks.length+ks.length:=by omega
     _=(i+1) * ks.length:=by rw [Nat.add_mul,Nat.one_mul]
     _≤n * ks.length:=Nat.mul_le_mul_right _ (by omega)
 refine h j t1 v ht1 ?_;simp only [Builtin.zeroCells,hsz,Array.getElem?_map,Array.getElem?_range,if_pos hlt,Option.map_some,Option.some.injEq]at hu;have hmod:(i * ks.length+j) % ks.length=j:=by rw [Nat.mul_comm,Nat.mul_add_mod,Nat.mod_eq_of_lt hj']
 rw [hmod]at hu;have hjz:j < z0.cells.size:=by omega
 rw [←hu];simp [hjz]
theorem Zce {x:Operand} {t:TypeId} {c:Call} (ho:o.op=.call c) (hc:c.callee=.builtin .clear) (hargs:c.args.toList=[x]) (hty:c.argTypes.toList=[t])
   (h:sxOp E.P g st o=some s):OpOk E ρ σ m st a w o s:=by
 have hx:=Y5 hf hok hg x;have ha:c.args= #[x]:=by rw [←Array.toArray_toList (xs:=c.args),hargs]
 have ht:c.argTypes= #[t]:=by rw [←Array.toArray_toList (xs:=c.argTypes),hty]
 simp only [sxOp,ho,hc,hargs,hty]at h;generalize thaw st.objs (Y4 g (look st x))=xx at *;split at h <;> try contradiction
 rename_i el o1 hu;split at h <;> try contradiction
 rename_i q e1 l hh ks info ho1 hks hi;split at h <;> try contradiction
 rename_i e' zz z0 hq hz;split at h <;> try contradiction
 rename_i cs hcs;split at h <;> try contradiction
 rename_i ts hts;split at h <;> try contradiction
 rename_i hcond;cases h;simp only [Bool.and_eq_true,beq_iff_eq]at hcond;obtain⟨⟨⟨⟨⟨c1,c2⟩,rfl⟩,rfl⟩,c3⟩,hb2⟩:=hcond;have hb2:=K.eq_of_beq hb2;cases zz with
 |mk z k=>
 simp only at hb2;subst hb2;obtain⟨xs,ad,cp,hxs,hσ,hxc,hcap,kz,hmem⟩:=Z78 hf hok hg hq;obtain⟨l1,n1,nn1,cc1,ad1,d1,d2,s1,s2,i1,i2,i3,k1,k2⟩:=Z1A hf hok hg ho1;rw [hσ]at s1;cases s1;simp only at d1 d2 k1 k2 hxs kz;have hev:=Z0I hf hok hg hx.1 s2;obtain⟨z1,z2,z3,z4⟩:=Z9D hf hok hg hcs hts c3;have hcap':=hcap;simp only [cap]at hcap';have wr:∀n:Int,0≤n→n≤281474976710656→IntKind.i64.wrap n=n:=fun n h1 h2=>Z0B .i64 n (by simp [IntKind.min,IntKind.signed,IntKind.bits];omega) (by simp [IntKind.max,IntKind.signed,IntKind.bits];omega)
 have dS:den ρ (.o2 (.sub .i64) hh l)=.int .i64 ((n1 - l1:Nat):Int):=by
   simp only [den,d1,d2,O2.eval];rw [wr _ (by omega) (by omega)];congr 1;omega
 have dmid:den ρ (.rep (.o2 (.sub .i64) hh l) (T.list ts))=.slice (List.replicate (n1 - l1) (ts.map (den ρ))):=by
   have:den ρ (.rep (.o2 (.sub .i64) hh l) (T.list ts))=(den ρ (.o2 (.sub .i64) hh l)).rep (den ρ (T.list ts)).list:=rfl;rw [this,dS,W9];simp [D.rep,D.list]
 have kS:LOk ρ ⟨.o2 (.sub .i64) hh l,.int .i64⟩:=.arith k2 k1 (by simp);have kmid:LOk ρ ⟨.rep (.o2 (.sub .i64) hh l) (T.list ts),.slice ks⟩:=by
   refine .mk' dmid (.mk_slice ?_) fun rs=>by
     have e2:∀r,den r (.rep (.o2 (.sub .i64) hh l) (T.list ts))=(den r (.o2 (.sub .i64) hh l)).rep (den r (T.list ts)).list:=fun _=>rfl
     rw [e2,e2,kS.2 rs,(LOk.list z2.1 z2.2).2 rs]
   intro q hq;rw [List.eq_of_mem_replicate hq];exact z2.1
 have ksp:LOk ρ ⟨Jx z l (.rep (.o2 (.sub .i64) hh l) (T.list ts)) hh,.slice ks⟩:=LOk.splice kz k1 kmid k2 (fun ys hy=>by rw [hxs]at hy;cases hy;exact hcap);have dsp:=Z4X (ρ:=ρ) hxs d1 dmid d2 (by omega);have hlen:(List.replicate (n1 - l1) (ts.map (den ρ))).length=n1 - l1:=by simp
 have hM:n1=l1+(List.replicate (n1 - l1) (ts.map (den ρ))).length:=by rw [hlen];omega
 have tsl:ts.length=ks.length:=by rw [z1];simpa using c2
 have objsOk:∀p∈Zy st.objs q (.arr ks.length ⟨Jx z l (.rep (.o2 (.sub .i64) hh l) (T.list ts)) hh,.slice ks⟩),OV.Ok ρ p:=by
   intro p hp;obtain⟨k,hk',rfl⟩:=List.mem_iff_getElem.1 hp;have:=List.getElem?_eq_getElem hk';rcases Y0 this with⟨_,h,_⟩|⟨_,h⟩
   · rw [h];exact .arr ksp
   · exact hok.objs _ (List.mem_of_getElem? h)
 have exec:∀ {w'},(Builtin.clear_ #[t] o.type #[a.eval x]).run E.P w=.ok (.tuple #[]) w'→(execOp a.eval o).run E.P w=.ok (.value (.tuple #[])) w':=by
   intro w' h;simp [execOp,ho,resolve,hc,ha,ht,invoke,builtin,h]
 rcases Nat.eq_or_lt_of_le i1 with he|hlt
 · subst he;have h0:xs.take l1++List.replicate (l1 - l1) (ts.map (den ρ))++xs.drop l1=xs:=by simp
   rw [h0]at dsp;refine⟨.tuple #[],w,σ,m,Names.le_refl σ,Mem.le_refl m,.inl (exec ?_),?_,.any,.any,objsOk,by simp,by simp⟩
   · rw [hev,Z2z,Nat.sub_self];generalize (if cp=l1 then ad else ad.map fun x=>x.add (l1 * ks.length))=ad';cases ad' <;> simp [Builtin.clear_,run_underlying hu]
   · simp only [Option.getD_some];rw [Z4Y hq]
     · exact hf
     · simp only [OV.map,denL,dsp,hxs]
 · rcases hmem with⟨hc0,hx0⟩|⟨hpos,hcm,b,arr,bt,had,hb,hsz,he,hv⟩
   · subst hx0;simp at i2;omega
   · have hfl:Flat m ks.length xs arr:=⟨by rw [hsz];exact Nat.mul_le_mul_right _ hxc,he,hv⟩
     have hzf:=Z9C hf hok hg (ks:=ks) (z0:=z0) (ts:=ts) (n:=n1 - l1) c2 tsl z3;have hnsz:(Builtin.zeroCells z0.cells (n1 - l1)).size=(List.replicate (n1 - l1) (ts.map (den ρ))).length * ks.length:=by rw [size_zeroCells,c2,hlen]
     have hfit:l1 * ks.length+(Builtin.zeroCells z0.cells (n1 - l1)).toList.length≤arr.size:=by
       simp only [Array.length_toList,hnsz,hlen, ←Nat.add_mul];rw [hsz];exact Nat.mul_le_mul_right _ (by omega)
     have one:∀v∈(Builtin.zeroCells z0.cells (n1 - l1)).toList,v.oneCell'=true:=by
       intro v hv';simp only [Builtin.zeroCells,Array.toList_map,List.mem_map,Array.toList_range,List.mem_range]at hv';obtain⟨i,hi',rfl⟩:=hv';have hp:0 < z0.cells.size:=by
         rcases Nat.eq_zero_or_pos z0.cells.size with h|h
         · rw [h]at hi';simp at hi'
         · exact h
       have hm:i % z0.cells.size < z0.cells.size:=Nat.mod_lt _ hp;rw [getElem!_pos z0.cells (i % z0.cells.size) hm];exact z4 _ (by simp)
     have hst:=run_storeCells_at E.P b (l1 * ks.length) bt (Builtin.zeroCells z0.cells (n1 - l1)).toList 0 arr w hb (by simpa using hfit) one;simp only [Nat.add_zero]at hst;rw [WZ _ _ _ hfit]at hst;have dsp2:den ρ (Jx z l (.rep (.o2 (.sub .i64) hh l) (T.list ts)) hh)=.slice (xs.take l1++List.replicate (n1 - l1) (ts.map (den ρ))++xs.drop (l1+(List.replicate (n1 - l1) (ts.map (den ρ))).length)):=by rw [←hM];exact dsp
     have hF:=Za4 (k':=.slice ks) hf hq hσ hpos hcm hcap hxc hb had hsz hfl hzf hnsz (by rw [hlen];omega) dsp2;refine⟨.tuple #[],w.setRow b (putCells arr (l1 * ks.length) (Builtin.zeroCells z0.cells (n1 - l1)).toList),σ,m,Names.le_refl σ,Mem.le_refl m,.inl (exec ?_),?_,.any,.any,objsOk,by simp,by simp⟩
     · rw [hev,Z2z,had,if_neg (by omega)];obtain⟨n,hn⟩:∃n,n1 - l1=n+1:=⟨n1 - l1 - 1,by omega⟩
       have hzv:(zeroValue el).run E.P w=.ok z0 w:=by simp [zeroValue,typeInfo,hi,hz]
       simp only [Option.map_some,Addr.add_lit,Nat.zero_add];rw [hn]at hst ⊢;simp [Builtin.clear_,run_underlying hu,hzv,hst]
     · simp only [Option.getD_some];exact hF
end ops
end
section
variable {E:Env} {ρ:List D} {σ:Names} {m:Mem} {st:St TK} {a:Act} {w:World}
theorem Z6r (hf:Fits E σ m (W0 ρ st) a w) (hok:st.Ok ρ) {g:Option T} (hg:∀c,g=some c→den ρ c=.bool true) {o:Oper} {s:Sym} {c:Call} {x y:Operand} {mx:Bool}
   (ho:o.op=.call c) (hc:c.callee=.builtin (if mx then .max else .min)) (hargs:c.args.toList=[x,y])
   (h:(match thaw st.objs (Y4 g (look st x)),thaw st.objs (Y4 g (look st y))with
       | .d ⟨a,.int k⟩,.d ⟨b,.int k'⟩=>if k=k' then some (⟨[],[],.d ⟨.ite (.o2 (if mx then .gt else .lt) b a) b a,.int k⟩,none⟩:Sym)else none
       |_,_=>none)=some s):OpOk E ρ σ m st a w o s:=by
 have hx:=Y5 hf hok hg x;have hy:=Y5 hf hok hg y;have ha:c.args= #[x,y]:=by rw [←Array.toArray_toList (xs:=c.args),hargs]
 generalize thaw st.objs (Y4 g (look st x))=xx at *;generalize thaw st.objs (Y4 g (look st y))=yy at *;split at h <;> try contradiction
 rename_i p k q k';split at h <;> try contradiction
 rename_i hk;subst hk;cases h;have kx:=Jc hx.2;have ky:=Jc hy.2;obtain⟨u,hu,eu,u1,u2⟩:=RS.int hx.1 kx;obtain⟨v,hv,ev,v1,v2⟩:=RS.int hy.1 ky;cases mx with
 | true=>
   simp only [if_true]at hc ⊢;have hd:den ρ (.ite (.o2 .gt q p) q p)=.int k (if v > u then v else u):=by
     simp only [den,hu,hv,O2.eval];by_cases hvu:v > u
     · simp [hvu,D.cond]
     · simp [hvu,D.cond]
   refine .val hf hok (v:=.int k (if v > u then v else u)) ?_ (.d ?_) (.d ⟨?_,fun rs=>?_⟩) (by simp)
   · simp [execOp,ho,resolve,hc,ha,eu,ev,invoke,builtin,Builtin.max_,Builtin.max2]
   · simp only [denL,hd];exact .int _ _
   · show HasK (.int k) (den ρ (.ite (.o2 .gt q p) q p));rw [hd];refine HasK.mk_int ?_ ?_ <;> split <;> assumption
   · simp only [den];rw [kx.2 rs,ky.2 rs]
 | false=>
   simp only [Bool.false_eq_true,if_false]at hc ⊢;have hd:den ρ (.ite (.o2 .lt q p) q p)=.int k (if v < u then v else u):=by
     simp only [den,hu,hv,O2.eval];by_cases hvu:v < u
     · simp [hvu,D.cond]
     · simp [hvu,D.cond]
   refine .val hf hok (v:=.int k (if v < u then v else u)) ?_ (.d ?_) (.d ⟨?_,fun rs=>?_⟩) (by simp)
   · simp [execOp,ho,resolve,hc,ha,eu,ev,invoke,builtin,Builtin.min_,Builtin.min2]
   · simp only [denL,hd];exact .int _ _
   · show HasK (.int k) (den ρ (.ite (.o2 .lt q p) q p));rw [hd];refine HasK.mk_int ?_ ?_ <;> split <;> assumption
   · simp only [den];rw [kx.2 rs,ky.2 rs]
theorem Z9U (hf:Fits E σ m (W0 ρ st) a w) (hok:st.Ok ρ) {g:Option T} (hg:∀c,g=some c→den ρ c=.bool true) {o:Oper} {s:Sym}
   (h:sxOp E.P g st o=some s) (hn:∀t∈s.needs,den ρ t=.bool true):OpOk E ρ σ m st a w o s:=by
 have h':=h;cases ho:o.op
 case move x=>exact Zav hf hok hg (.inl ho) h
 case assign x=>exact Zav hf hok hg (.inr ho) h
 case pick c x y=>exact Zf9 hf hok hg ho h
 case alloc t=>exact Zch hf hok hg ho h
 case box t x=>exact Zh4 hf hok hg ho h
 case build t ps=>exact Zcf hf hok hg ho h
 case buildSlice t n ps=>exact Z5t hf hok hg ho h
 case makeSlice t l c=>exact Z6t hf hok hg ho h hn
 case load t x=>exact Zfa hf hok hg ho h
 case store t x y=>exact Zca hf hok hg ho h
 case nilCheck x=>exact Z7r hf hok hg ho h
 case binOp op t x y yt=>exact Zcg hf hok hg ho h hn
 case unOp op t x=>exact Zf8 hf hok hg ho h
 case convert p q x=>exact Z98 hf hok hg ho h
 case slice t x lo hi mx=>exact Zcb hf hok hg ho h hn
 case fieldAddr t x f=>exact Z6v hf hok hg ho h
 case field t x f=>exact Zcd hf hok hg ho h
 case indexAddr t x i=>exact Z6u hf hok hg ho h hn
 case index t x i=>exact Zcc hf hok hg ho h hn
 case extract x i=>exact Z97 hf hok hg ho h
 case makeMap t r=>exact Z96 hf hok hg ho h
 case lookup t x y ok=>exact Zaw hf hok hg ho h
 case mapUpdate t x y u=>exact Z6s hf hok hg ho h
 case call c=>
   simp only [sxOp,ho]at h';split at h' <;> try contradiction
   · rename_i hc;split at h' <;> try contradiction
     rename_i x t hargs hty;exact Zh3 hf hok hg ho hc hargs hty h
   · rename_i hc;split at h' <;> try contradiction
     rename_i x y hargs;exact Z6r (mx:=true) hf hok hg ho hc hargs h'
   · rename_i hc;split at h' <;> try contradiction
     rename_i x y hargs;exact Z6r (mx:=false) hf hok hg ho hc hargs h'
   · rename_i hc;split at h' <;> try contradiction
     rename_i x y tx ty hargs hty;exact Zaz hf hok hg ho hc hargs hty h hn
   · rename_i hc;split at h' <;> try contradiction
     rename_i x t hargs hty;exact Zce hf hok hg ho hc hargs hty h
 all_goals (simp [sxOp,ho]at h')
end
section
variable {E:Env} {σ:Names} {m:Mem} {st:St D} {a:Act} {w:World}
theorem Fits.setDead (h:Fits E σ m st a w) (o:Nat) {ov':OV D} (hd:ov'.alive=false) (h':RepO σ m w o ov') (hyv:ov'≠.yld∧∀cs,ov'≠.sav cs:=by simp):Fits E σ m ⟨st.tmps,st.objs.set o ov'⟩ a w:=
 { sz:=h.sz,tm:=h.tm,dfr:=h.dfr,mem:=h.mem,le:=h.le
   yld:=fun o' ho'=>by
     simp only at ho';rcases Y0 ho' with⟨rfl,he,_⟩|⟨_,ho'⟩
     · exact absurd he.symm hyv.1
     · exact h.yld o' ho'
   sav:=fun o' cs ho'=>by
     simp only at ho';rcases Y0 ho' with⟨rfl,he,_⟩|⟨_,ho'⟩
     · exact absurd he.symm (hyv.2 cs)
     · exact h.sav o' cs ho'
   objs:=fun o' ov ho'=>by
     simp only at ho';rcases Y0 ho' with⟨rfl,rfl,_⟩|⟨_,ho'⟩
     · exact h'
     · exact h.objs o' ov ho'
   sep:=fun o' ov b ho' ha hb=>by
     simp only at ho';rcases Y0 ho' with⟨rfl,rfl,_⟩|⟨_,ho'⟩
     · rw [hd]at ha;cases ha
     · exact h.sep o' ov b ho' ha hb
   inj :=fun o1 o2 v1 v2 b h1 h2 a1 a2 b1 b2=>by
     simp only at h1 h2;rcases Y0 h1 with⟨_,rfl,_⟩|⟨_,h1⟩
     · rw [hd]at a1;cases a1
     · rcases Y0 h2 with⟨_,rfl,_⟩|⟨_,h2⟩
       · rw [hd]at a2;cases a2
       · exact h.inj o1 o2 v1 v2 b h1 h2 a1 a2 b1 b2
   dom:=fun o' v hv=>by simpa using h.dom o' v hv
   grow:=h.grow,keep:=h.keep,old:=h.old,os:=h.os,tape:=h.tape,output:=h.output,drawn:=h.drawn}
end
section
variable {E:Env} {ρ:List D} {σ:Names} {ts:List (SV TK)} {a:Act} {w:World}
structure FrOk (E:Env) (ρ:List D) (σ:Names) (ts:List (SV TK)) (a:Act) (w:World) (m:Mem) (objs':List (OV TK)) (n:Nat) (m':Mem):Prop where
 le:m.le m'
 fits:Fits E σ m' (W0 ρ ⟨ts,objs'⟩) a w
 ok:∀o∈objs',OV.Ok ρ o
 len:objs'.length=n
theorem Zu {f:List (OV TK)→SV TK→Option (TK×List (OV TK))}
   (hF:∀ {objs v x objs' m val},Fits E σ m (W0 ρ ⟨ts,objs⟩) a w→(∀o∈objs,OV.Ok ρ o)→f objs v=some (x,objs')→RS σ m ρ v val→SV.Ok ρ v→
     ∃m',FrOk E ρ σ ts a w m objs' objs.length m'∧LOk ρ x∧RepD m' (denL ρ x) val):
   ∀ {vs:List (SV TK)} {vals:List Value} {objs xs objs' m},Fits E σ m (W0 ρ ⟨ts,objs⟩) a w→(∀o∈objs,OV.Ok ρ o)→Zj f objs vs=some (xs,objs')→
     (∀(i:Nat) c v,vs[i]? =some c→vals[i]? =some v→RS σ m ρ c v)→vals.length=vs.length→(∀c∈vs,SV.Ok ρ c)→
     ∃m',FrOk E ρ σ ts a w m objs' objs.length m'∧xs.length=vs.length∧(∀x∈xs,LOk ρ x)∧∀(i:Nat) x v,xs[i]? =some x→vals[i]? =some v→RepD m' (denL ρ x) v:=by
 intro vs;induction vs with
 | nil=>
   intro vals objs xs objs' m hf hok h hr hl hk;simp [Zj]at h;obtain⟨rfl,rfl⟩:=h;exact⟨m,⟨Mem.le_refl m,hf,hok,rfl⟩,rfl,by simp,by simp⟩
 | cons v vs ih=>
   intro vals objs xs objs' m hf hok h hr hl hk;cases vals with
   |nil=>simp at hl
   |cons u vals=>
   simp only [Zj]at h;split at h <;> try contradiction
   rename_i x objs1 h1;split at h <;> try contradiction
   rename_i xs1 objs2 h2;cases h;obtain⟨m1,f1,k1,r1⟩:=hF hf hok h1 (hr 0 _ _ rfl rfl) (hk _ List.mem_cons_self);obtain⟨m2,f2,l2,k2,r2⟩:=ih (vals:=vals) f1.fits f1.ok h2 (fun i c v hc hv=>(hr (i+1) c v (by simpa using hc) (by simpa using hv)).mono (Names.le_refl σ) f1.le) (by simpa using hl)
     (fun c hc=>hk c (List.mem_cons_of_mem _ hc))
   refine⟨m2,⟨Mem.le_trans f1.le f2.le,f2.fits,f2.ok,by rw [f2.len,f1.len]⟩,by simp [l2],?_,?_⟩
   · intro y hy;rcases List.mem_cons.1 hy with rfl|hy
     · exact k1
     · exact k2 y hy
   · intro i y v hy hv;cases i with
     |zero=>simp at hy hv;subst hy hv;exact r1.mono f2.le
     |succ i=>exact r2 i y v (by simpa using hy) (by simpa using hv)
theorem LOks.of_tks {xs:List TK} (h:∀x∈xs,LOk ρ x):LOks ρ (xs.map (·.k)) (xs.map (·.t)):=by
 induction xs with
 |nil=>exact .nil
 |cons x xs ih=>exact .cons (h x List.mem_cons_self) (ih fun y hy=>h y (List.mem_cons_of_mem _ hy))
theorem Z5o {xs:List TK} {off:Nat} (hk:∀x∈xs,LOk ρ x):LOk ρ (Z8Z off xs)∧denL ρ (Z8Z off xs)=.ptr ((xs.map (denL ρ)).drop off):=by
 have h1:=LOk.ptr (LOks.of_tks hk);have e1:den ρ (.ptr (T.list (xs.map (·.t))))=.ptr (xs.map (denL ρ)):=by
   simp only [den,W9,D.list,List.map_map];rfl
 unfold Z8Z;split
 · rename_i h0;subst h0;exact⟨h1,by simp only [denL,List.drop_zero];exact e1⟩
 · exact⟨h1.padd,by simp only [denL,den];rw [show den ρ (T.list (xs.map (·.t)))=.agg (xs.map (denL ρ))from by rw [W9,List.map_map];rfl];rfl⟩
theorem RepD.ptr_drop {m:Mem} {cs:List D} {b:Nat} (h:RepD m (.ptr cs) (.pointer (some ⟨b,0,none⟩))) {off:Nat} (ho:off≤cs.length):RepD m (.ptr (cs.drop off)) (.pointer (some ⟨b,off,none⟩)):=by
 cases h with
 | ptr _ _ _ arr t fz hm hsz hv=>
   refine .ptr _ b off arr t fz hm (by simp;omega) fun j d v hd hu=>?_
   rw [List.getElem?_drop]at hd;exact hv (off+j) d v hd (by rw [←hu];congr 1;omega)
theorem Zw:∀(n:Nat) {objs:List (OV TK)} {v:SV TK} {x:TK} {objs':List (OV TK)} {m:Mem} {val:Value},Fits E σ m (W0 ρ ⟨ts,objs⟩) a w→(∀o∈objs,OV.Ok ρ o)→
   freeze n objs v=some (x,objs')→RS σ m ρ v val→SV.Ok ρ v→∃m',FrOk E ρ σ ts a w m objs' objs.length m'∧LOk ρ x∧RepD m' (denL ρ x) val
 |0,_,_,_,_,_,_,_,_,h,_,_=>by simp [freeze]at h
 | n + 1,objs,v,x,objs',m,val,hf,hok,h,hr,hk=>by
   have objof:∀ {o:Nat} {ov:OV TK},objs[o]? =some ov→RepO σ m w o (ov.map (denL ρ))∧OV.Ok ρ ov:=fun {o ov} ho=>
     ⟨hf.objs o _ (by simp [W0,St.map,ho]),hok _ (List.mem_of_getElem? ho)⟩
   have setok:∀ {l:List (OV TK)} {o:Nat} {ov:OV TK},(∀o∈l,OV.Ok ρ o)→OV.Ok ρ ov→∀z∈l.set o ov,OV.Ok ρ z:=by
     intro l o ov h1 h2 z hz;rcases List.mem_or_eq_of_mem_set hz with hz|rfl
     · exact h1 z hz
     · exact h2
   have same:∀ {x:TK},LOk ρ x→RepD m (denL ρ x) val→∃m',FrOk E ρ σ ts a w m objs objs.length m'∧LOk ρ x∧RepD m' (denL ρ x) val:=fun k r=>⟨m,⟨Mem.le_refl m,hf,hok,rfl⟩,k,r⟩
   simp only [freeze]at h;split at h
   · cases h;exact same (Jc hk) hr.d_inv
   · cases h;simp only [RS,SV.map]at hr;cases hr;exact same (.nils _) (.empty _ _)
   · rename_i o;simp only [RS,SV.map]at hr;cases hr with
     |own hσ=>
     split at h <;> try contradiction
     · rename_i e y ho;cases h;obtain⟨ro,ko⟩:=objof ho;have ky:LOk ρ x:=by cases ko;assumption
       simp only [OV.map]at ro;generalize hd:denL ρ x=d at ro;cases ro with
       | none hs=>
         rename_i ad;rw [hs]at hσ;cases hσ;have rd:RepD m (denL ρ x) (.slice ad 0 0):=by rw [hd];exact .empty _ 0
         refine⟨m,⟨Mem.le_refl m,?_,setok hok (.farr ky),by simp⟩,ky,by rw [←hd];exact rd⟩;rw [Ye (st:=⟨ts,objs⟩)];exact hf.setDead o rfl (.farr hs rd) (by simp [OV.map])
       | arr hs hb h0c hc hcc hcap hsz he hv=>
         rename_i xs b c arr bt;rw [hs]at hσ;cases hσ;have hmem:(m.add b (.cells arr bt (0,0))) b=some (.cells arr bt (0,0)):=by simp [Mem.add]
         have hsep:=hf.sep o (.arr e (.slice xs)) b (by simp [W0,St.map,ho,OV.map,hd]) rfl (by simp only [hs,Option.bind_some];exact Z9 h0c);have hle:m.le (m.add b (.cells arr bt (0,0))):=Mem.le_add hsep.1;have rd:RepD (m.add b (.cells arr bt (0,0))) (denL ρ x) (.slice (some ⟨b,0,none⟩) xs.length c):=by
           rw [hd];exact .slice xs b 0 arr bt (0,0) e c hc hcap hmem he (by rw [hsz,Nat.zero_add];exact Nat.mul_le_mul_right _ hc) fun i j y d v hi hj hu=>
             (hv i j y d v hi hj (by rw [←hu,Nat.zero_add])).mono hle
         obtain⟨f1,_⟩:=hf.freezeObj (o:=o) (b:=b) (ov:=.arr e (.slice xs)) (ov':=.farr (denL ρ x)) (by simp [W0,St.map,ho,OV.map,hd]) rfl (by simp only [hs,Option.bind_some];exact Z9 h0c) hb rfl (.farr hs rd);refine⟨_,⟨hle,?_,setok hok (.farr ky),by simp⟩,ky,by rw [←hd];exact rd⟩;rw [Ye (st:=⟨ts,objs⟩)];exact f1
     · rename_i y ho;cases h;obtain⟨ro,ko⟩:=objof ho;have ky:LOk ρ x:=by cases ko;assumption
       simp only [OV.map]at ro;cases ro with
       |farr hs hrep=>rw [hs]at hσ;cases hσ;exact same ky hrep
     · rename_i y ho;split at h <;> try contradiction
       rename_i ks hks;cases h;obtain⟨ro,ko⟩:=objof ho;have ky:LOk ρ y:=by cases ko;assumption
       obtain⟨yt,yk⟩:=y;simp only at hks;subst hks;obtain⟨rows,hrows,hel⟩:=ky.1.slice_inv;simp only at hrows;have hd:denL ρ ⟨yt,.slice ks⟩=.slice rows:=hrows;simp only [OV.map,hd]at ro;cases ro with
       | mp hs hb hM=>
         rename_i b clock es;rw [hs]at hσ;cases hσ;have hmem:(m.add b (.map es clock)) b=some (.map es clock):=by simp [Mem.add]
         have hobj:(W0 ρ ⟨ts,objs⟩).objs[o]? =some (.mp (.slice rows)):=by simp [W0,St.map,ho,OV.map,hd]
         have hsep:=hf.sep o _ b hobj rfl (by simp [hs,blk]);have hle:m.le (m.add b (.map es clock)):=Mem.le_add hsep.1;have e1:denL ρ ⟨.o1 .mpd yt,.mp ks⟩=.mp rows:=by simp only [denL,den,hrows,O1.eval]
         have rd:RepD (m.add b (.map es clock)) (denL ρ ⟨.o1 .mpd yt,.mp ks⟩) (.map (some b)):=by rw [e1];exact(hM.mono hle).rep hmem
         have ky':LOk ρ ⟨.o1 .mpd yt,.mp ks⟩:=.mk' e1 (by simpa [HasK]using hel) fun rs=>by
           have:=ky.2 rs;simp only at this;simp only [den,this]
         obtain⟨f1,_⟩:=hf.freezeObj (o:=o) (b:=b) (ov':=.farr (denL ρ ⟨.o1 .mpd yt,.mp ks⟩)) hobj rfl (by simp [hs,blk]) hb rfl (.farr hs rd);refine⟨_,⟨hle,?_,setok hok (.farr ky'),by simp⟩,ky',rd⟩;rw [Ye (st:=⟨ts,objs⟩)];exact f1
   · rename_i o off;simp only [RS,SV.map]at hr;cases hr with
     |ptr hσ=>
     rename_i b;split at h <;> try contradiction
     · rename_i cs ho;split at h <;> try contradiction
       rename_i xs objs1 h1;split at h <;> try contradiction
       rename_i cs2 ho2;split at h <;> try contradiction
       rename_i hoff;cases h;obtain⟨ro,ko⟩:=objof ho;have kcs:∀c∈cs,SV.Ok ρ c:=by cases ko;assumption
       simp only [OV.map]at ro;generalize hmcs:cs.map (SV.map (denL ρ))=mcs at ro;cases ro with
       |box hs hb hsz hv=>
       rename_i b' arr bt;rw [hs]at hσ;cases hσ;obtain⟨m1,f1,l1,k1,r1⟩:=Zu (fun {objs v x objs' m val}=>Zw n) (vals:=arr.toList) hf hok h1
         (fun i c v hc hv2=>hv i _ v (by rw [←hmcs];simp [hc]) (by simpa using hv2)) (by simp [hsz, ←hmcs]) kcs
       have hsz':arr.size=xs.length:=by rw [l1,hsz, ←hmcs];simp
       have hmem:(m1.add b (.cells arr bt (0,0))) b=some (.cells arr bt (0,0)):=by simp [Mem.add]
       have hobj:(W0 ρ ⟨ts,objs1⟩).objs[o]? =some (.box (cs2.map (SV.map (denL ρ)))):=by simp [W0,St.map,ho2,OV.map]
       have hsep:=f1.fits.sep o _ b hobj rfl (by simp [hs,blk]);have hle:m1.le (m1.add b (.cells arr bt (0,0))):=Mem.le_add hsep.1;have rd:RepD (m1.add b (.cells arr bt (0,0))) (.ptr (xs.map (denL ρ))) (.pointer (some ⟨b,0,none⟩)):=by
         refine .ptr _ b 0 arr bt (0,0) hmem (by simp [hsz']) fun j d v hd hu=>?_
         simp only [List.getElem?_map,Option.map_eq_some_iff]at hd;obtain⟨y,hy,rfl⟩:=hd;exact(r1 j y v hy (by simpa using hu)).mono hle
       obtain⟨f2,_⟩:=f1.fits.freezeObj (o:=o) (b:=b) (ov':=.fbox (xs.map (denL ρ))) hobj rfl (by simp [hs,blk]) hb rfl (.fbox hs rd);obtain⟨p1,p2⟩:=Z5o (off:=off) k1;refine⟨_,⟨Mem.le_trans f1.le hle,?_,setok f1.ok (.fbox k1),by simp [f1.len]⟩,p1,?_⟩
       · rw [Ye (st:=⟨ts,objs1⟩)];exact f2
       · rw [p2];exact rd.ptr_drop (by simpa using hoff)
     · rename_i xs ho;split at h <;> try contradiction
       rename_i hoff;cases h;obtain⟨ro,ko⟩:=objof ho;have kxs:∀c∈xs,LOk ρ c:=by cases ko;assumption
       simp only [OV.map]at ro;generalize hmcs:xs.map (denL ρ)=mcs at ro;cases ro with
       |fbox hs hrep=>
       rw [hs]at hσ;cases hσ;obtain⟨p1,p2⟩:=Z5o (off:=off) kxs;refine same p1 ?_;rw [p2,hmcs];exact hrep.ptr_drop (by rw [←hmcs];simpa using hoff)
   · rename_i cs;split at h <;> try contradiction
     rename_i xs objs1 h1;cases h;have kcs:∀c∈cs,SV.Ok ρ c:=by cases hk;assumption
     simp only [RS,SV.map,SV.mapL_eq]at hr;generalize hmcs:cs.map (SV.map (denL ρ))=mcs at hr;cases hr with
     |agg hsz hv=>
     rename_i arr;obtain⟨m1,f1,l1,k1,r1⟩:=Zu (fun {objs v x objs' m val}=>Zw n) (vals:=arr.toList) hf hok h1
       (fun i c v hc hv2=>hv i _ v (by rw [←hmcs];simp [hc]) (by simpa using hv2)) (by simp [hsz, ←hmcs]) kcs
     have hl:=LOks.of_tks k1;refine⟨m1,f1,LOk.list hl.1 hl.2,?_⟩;have e1:denL ρ ⟨T.list (xs.map (·.t)),.agg (xs.map (·.k))⟩=.agg (xs.map (denL ρ)):=by simp only [denL,W9,List.map_map];rfl
     rw [e1];refine .agg _ arr (by rw [hsz, ←hmcs];simp [l1]) fun i d v hd hu=>?_
     simp only [List.getElem?_map,Option.map_eq_some_iff]at hd;obtain⟨y,hy,rfl⟩:=hd;exact r1 i y v hy (by simpa using hu)
   · rename_i f cs;split at h <;> try contradiction
     rename_i xs objs1 h1;cases h;have kcs:∀c∈cs,SV.Ok ρ c:=by cases hk;assumption
     simp only [RS,SV.map,SV.mapL_eq]at hr;generalize hmcs:cs.map (SV.map (denL ρ))=mcs at hr;cases hr with
     |clo hsz hv=>
     rename_i arr;obtain⟨m1,f1,l1,k1,r1⟩:=Zu (fun {objs v x objs' m val}=>Zw n) (vals:=arr.toList) hf hok h1
       (fun i c v hc hv2=>hv i _ v (by rw [←hmcs];simp [hc]) (by simpa using hv2)) (by simp [hsz, ←hmcs]) kcs
     have hl:=LOks.of_tks k1;refine⟨m1,f1,LOk.clo hl.2,?_⟩;have e1:denL ρ ⟨.clo f (T.list (xs.map (·.t))),.fn⟩=.clo f (xs.map (denL ρ)):=by simp only [denL,den,W9,D.list,List.map_map];rfl
     rw [e1];refine .clo f _ arr (by rw [hsz, ←hmcs];simp [l1]) fun i d v hd hu=>?_
     simp only [List.getElem?_map,Option.map_eq_some_iff]at hd;obtain⟨y,hy,rfl⟩:=hd;exact r1 i y v hy (by simpa using hu)
   · contradiction
end
section
variable {E:Env} {σ:Names} {m:Mem} {st:St D} {a:Act} {w:World}
theorem Fits.called (h:Fits E σ m st a w) {w':World} {m':Mem} (hB:BelowD w.heap.size w w') (hle:m.le m') (hmem:MemOk m' w') (hold:∀b,b < w.heap.size→m' b=m b):Fits E σ m' st a w':=
 { sz:=h.sz
   tm:=fun i s v a b=>(h.tm i s v a b).mono (Names.le_refl σ) hle
   dfr:=h.dfr.keep (fun D hD=>by rw [hB.block D (Array.getElem?_eq_some_iff.1 hD).1];exact hD) (fun D hD hn=>by rw [hold D (Array.getElem?_eq_some_iff.1 hD).1];exact hn)
   yld:=h.yld,sav:=h.sav,mem:=hmem,le:=Mem.le_trans h.le hle
   objs:=fun o ov ho=>((h.objs o ov ho).mono (Names.le_refl σ) hle).keep fun b ha hb=>hB.block b ((h.objs o ov ho).lt ha hb)
   sep:=fun o ov b ho ha hb=>by
     have hs:=h.sep o ov b ho ha hb;exact⟨by rw [hold b ((h.objs o ov ho).lt ha hb)];exact hs.1,hs.2⟩
   inj:=h.inj,dom:=h.dom
   grow:=Nat.le_trans h.grow hB.size
   keep:=fun b hlt hm=>by rw [hB.block b (Nat.lt_of_lt_of_le hlt h.grow)];exact h.keep b hlt hm
   old:=fun b hlt hm=>by rw [hold b (Nat.lt_of_lt_of_le hlt h.grow)];exact h.old b hlt hm
   os:=hB.os.trans h.os,tape:=hB.tape.trans h.tape,output:=hB.output.trans h.output,drawn:=Nat.le_trans h.drawn hB.drawn}
end
def Vars (ρ:List D) (n:Nat) (ds:List D):Prop:=∀(i:Nat) d,ds[i]? =some d→ρ[n+i]? =some d
theorem Vars.head {ρ:List D} {n:Nat} {d:D} {ds:List D} (h:Vars ρ n (d::ds)):ρ[n]? =some d:=by simpa using h 0 d rfl
theorem Vars.tail {ρ:List D} {n:Nat} {d:D} {ds:List D} (h:Vars ρ n (d::ds)):Vars ρ (n+1) ds:=fun i e he=>by
 have:=h (i+1) e (by simpa using he);rw [←this];congr 1;omega
theorem Vars.left {ρ:List D} {n:Nat} {ds es:List D} (h:Vars ρ n (ds++es)):Vars ρ n ds:=fun i d hd=>h i d (by rw [List.getElem?_append_left (List.getElem?_eq_some_iff.1 hd).1];exact hd)
theorem Vars.right {ρ:List D} {n:Nat} {ds es:List D} (h:Vars ρ n (ds++es)):Vars ρ (n+ds.length) es:=fun i d hd=>by
 have:=h (ds.length+i) d (by rw [List.getElem?_append_right (by omega)];simpa using hd);rw [←this];congr 1;omega
theorem Vars.self (ρ ds:List D):Vars (ρ++ds) ρ.length ds:=fun i d hd=>by
 rw [List.getElem?_append_right (by omega)];simpa using hd
theorem LOk.var {ρ:List D} {n:Nat} {k:K} {d:D} (h:ρ[n]? =some d) (hk:HasK k d):LOk ρ ⟨.var n,k⟩:=by
 refine .mk' (d:=d) (by simp [den,List.getD,h]) hk fun rs=>?_
 have hlt:=(List.getElem?_eq_some_iff.1 h).1;simp only [den,List.getD];rw [List.getElem?_append_left hlt]
theorem Zx {ρ:List D} {n:Nat} {k:K} {d:D} (h:ρ[n]? =some d):denL ρ ⟨.var n,k⟩=d:=by simp [denL,den,List.getD,h]
theorem Jm {ρ:List D}:∀ {ks:List K} {n:Nat} {ds:List D},Vars ρ n ds→HasKs ks ds→(Yd n ks).length=ds.length∧(∀x∈Yd n ks,LOk ρ x)∧∀(i:Nat) x d,(Yd n ks)[i]? =some x→ds[i]? =some d→denL ρ x=d
 | [],n,[],_,_=>⟨rfl,by simp [Yd],by simp [Yd]⟩
 | [],_,_::_,_,h=>by simp [HasKs]at h
 |_::_,_,[],_,h=>by simp [HasKs]at h
 | k ::ks,n,d::ds,hv,h=>by
   simp only [HasKs]at h;obtain⟨h1,h2,h3⟩:=Jm hv.tail h.2;refine⟨by simp [Yd,h1],?_,?_⟩
   · intro x hx;simp only [Yd,List.mem_cons]at hx;rcases hx with rfl|hx
     · exact .var hv.head h.1
     · exact h2 x hx
   · intro i x e hx he;cases i with
     |zero=>simp [Yd]at hx he;subst hx he;exact Zx hv.head
     |succ i=>exact h3 i x e (by simpa [Yd]using hx) (by simpa using he)
theorem RV.cells_own {ks:List K} {v:RV} {ds:List D} (h:v.cells (.own ks)=some ds):∃xs,v=.own ks.length xs∧ds=[.slice xs]:=by
 cases v with
 |any=>simp [RV.cells]at h
 |box cs=>simp [RV.cells]at h
 |d x=>simp [RV.cells]at h
 | own e xs=>
   simp only [RV.cells]at h;split at h
   · rename_i he;subst he;cases h;exact⟨xs,rfl,rfl⟩
   · cases h
theorem RepR.mono {m m':Mem} {w:World} {B:Nat→Prop} {r:RV} {u:Value} (h:RepR m w B r u) (hle:m.le m') (hn:∀b,r.isOwn=true→blk u=some b→m' b=Option.none):RepR m' w B r u:=by
 cases h with
 |d h=>exact .d (h.mono hle)
 |none=>exact .none
 |any=>exact .any
 |box hB hm hb hsz hv=>exact .box hB (hn _ rfl rfl) hb hsz fun j d v a b=>(hv j d v a b).mono hle
 |own hB hm hb h0 hc hcc hcap hsz he hv=>exact .own hB (hn _ rfl (Z9 h0)) hb h0 hc hcc hcap hsz he fun i j x d v a b c=>(hv i j x d v a b c).mono hle
theorem HasKs.unappend:∀ {ks ks':List K} {ds ds':List D},ds.length=ks.length→HasKs (ks++ks') (ds++ds')→HasKs ks ds∧HasKs ks' ds'
 | [],_,[],_,_,h=>by simpa [HasKs]using h
 | [],_,_::_,_,h,_=>by simp at h
 |_::_,_,[],_,h,_=>by simp at h
 | k::ks,_,d::ds,_,hl,h=>by
   simp only [List.cons_append,HasKs]at h;obtain⟨h1,h2⟩:=HasKs.unappend (by simpa using hl) h.2;simp only [HasKs];exact⟨⟨h.1,h1⟩,h2⟩
section
variable {E:Env} {ρ:List D} {ts:List (SV TK)} {a:Act} {w:World}
structure ResOk (E:Env) (ρ:List D) (ts:List (SV TK)) (a:Act) (w:World) (σ:Names) (m:Mem) (objs':List (OV TK)) (vs:List (SV TK)) (us:List Value) (σ':Names) (m':Mem):Prop where
 leσ:σ.le σ'
 lem:m.le m'
 fits:Fits E σ' m' (W0 ρ ⟨ts,objs'⟩) a w
 objs:∀o∈objs',OV.Ok ρ o
 len:vs.length=us.length
 rs:∀(i:Nat) v u,vs[i]? =some v→us[i]? =some u→RS σ' m' ρ v u
 all:∀v∈vs,SV.Ok ρ v
theorem WB {B:Nat→Prop}:∀ {rk:List RK} {rvs:List RV} {us:List Value} {n:Nat} {objs objs':List (OV TK)} {vs:List (SV TK)} {n':Nat} {ds:List D} {σ:Names} {m:Mem},
   Ja rk n objs=(vs,n',objs')→RV.all rk rvs=some ds→HasKs (RK.all rk) ds→Vars ρ n ds→Fits E σ m (W0 ρ ⟨ts,objs⟩) a w→(∀o∈objs,OV.Ok ρ o)→
   us.length=rvs.length→(∀(i:Nat) r u,rvs[i]? =some r→us[i]? =some u→RepR m w B r u)→(∀b,B b→E.w0.heap.size≤b∨E.mine b)→
   (∀(i:Nat) r u b,rvs[i]? =some r→us[i]? =some u→r.isOwn=true→blk u=some b→∀(o:Nat) ov,objs[o]? =some ov→ov.alive=true→(σ o).bind blk≠some b)→
   (∀(i j:Nat) r r' u u' b,i≠j→rvs[i]? =some r→rvs[j]? =some r'→us[i]? =some u→us[j]? =some u'→r.isOwn=true→r'.isOwn=true→blk u=some b→blk u'≠some b)→
   n'=n+(RK.all rk).length∧∃σ' m',ResOk E ρ ts a w σ m objs' vs us σ' m'
 | [],rvs,us,n,objs,objs',vs,n',ds,σ,m,h,hall,hk,hv,hf,hok,hl,hr,hB,hs1,hs2=>by
   cases rvs with
   |cons r rvs=>simp [RV.all]at hall
   | nil=>
     simp [Ja]at h;obtain⟨rfl,rfl,rfl⟩:=h;cases us with
     |cons u us=>simp at hl
     |nil=>exact⟨by simp [RK.all],σ,m,⟨Names.le_refl σ,Mem.le_refl m,hf,hok,rfl,by simp,by simp⟩⟩
 | k ::rk,rvs,us,n,objs,objs',vs,n',ds,σ,m,h,hall,hk,hv,hf,hok,hl,hr,hB,hs1,hs2=>by
   cases rvs with
   |nil=>simp [RV.all]at hall
   |cons r rvs=>
   cases us with
   |nil=>simp at hl
   |cons u us=>
   simp only [RV.all]at hall;split at hall <;> try contradiction
   rename_i d1 d2 h1 h2;cases hall;have hr0:=hr 0 _ _ rfl rfl;have hl':us.length=rvs.length:=by simpa using hl
   have hrt:∀(i:Nat) r u,rvs[i]? =some r→us[i]? =some u→RepR m w B r u:=fun i r u a b=>hr (i+1) r u (by simpa using a) (by simpa using b)
   have hs1t:∀(i:Nat) r u b,rvs[i]? =some r→us[i]? =some u→r.isOwn=true→blk u=some b→∀(o:Nat) ov,objs[o]? =some ov→ov.alive=true→(σ o).bind blk≠some b:=
     fun i r u b x y=>hs1 (i+1) r u b (by simpa using x) (by simpa using y)
   have hs2t:∀(i j:Nat) r r' u u' b,i≠j→rvs[i]? =some r→rvs[j]? =some r'→us[i]? =some u→us[j]? =some u'→r.isOwn=true→r'.isOwn=true→blk u=some b→blk u'≠some b:=
     fun i j r r' u u' b hne a1 a2 a3 a4=>hs2 (i+1) (j+1) r r' u u' b (by omega) (by simpa using a1) (by simpa using a2) (by simpa using a3) (by simpa using a4)
   have fin:∀ {σ1:Names} {m1:Mem} {v:SV TK} {vs2:List (SV TK)} {n1:Nat},σ.le σ1→m.le m1→(n'=n1+(RK.all rk).length∧∃σ' m',ResOk E ρ ts a w σ1 m1 objs' vs2 us σ' m')→
       RS σ1 m1 ρ v u→SV.Ok ρ v→n1=n+k.kinds.length→
       n'=n+(RK.all (k::rk)).length∧∃σ' m',ResOk E ρ ts a w σ m objs' (v::vs2) (u::us) σ' m':=by
     rintro σ1 m1 v vs2 n1 hle hlm ⟨hn',σ',m',g⟩ hrs hka hn;refine⟨by rw [hn',hn];simp [RK.all];omega,σ',m',fun o v hv=>g.leσ o v (hle o v hv),Mem.le_trans hlm g.lem,g.fits,g.objs,by simp [g.len],?_,?_⟩
     · intro i v' u' hv' hu';cases i with
       |zero=>simp at hv' hu';subst hv' hu';exact hrs.mono g.leσ g.lem
       |succ i=>exact g.rs i v' u' (by simpa using hv') (by simpa using hu')
     · intro v' hv';rcases List.mem_cons.1 hv' with rfl|hv'
       · exact hka
       · exact g.all v' hv'
   cases k with
   | cell kk =>
     have hk':RK.all (.cell kk::rk)=kk::RK.all rk:=rfl;rw [hk']at hk;simp only [Ja]at h;generalize hrec:Ja rk (n+1) objs=rec at h;obtain⟨vs2,n2,o2⟩:=rec;simp only [Prod.mk.injEq]at h;obtain⟨rfl,rfl,rfl⟩:=h;have one:∃x m1,d1=[x]∧m.le m1∧RepD m1 x u∧Fits E σ m1 (W0 ρ ⟨ts,objs⟩) a w∧∀(i:Nat) r u,rvs[i]? =some r→us[i]? =some u→RepR m1 w B r u:=by
       cases r with
       |any=>simp [RV.cells]at h1
       |box cs=>simp [RV.cells]at h1
       |d x=>simp [RV.cells]at h1;subst h1;cases hr0;exact⟨x,m,rfl,Mem.le_refl m,by assumption,hf,hrt⟩
       | own e xs=>
         simp [RV.cells]at h1;subst h1;cases hr0 with
         |none=>exact⟨_,m,rfl,Mem.le_refl m,.empty _ _,hf,hrt⟩
         | own hB' hm hb h0c hc hcc hcap hsz he hvv=>
           rename_i b c arr bt;obtain⟨f1,f2⟩:=hf.addMem2 hm hb (hB _ hB') (fun o ov ho hal=>by
             simp only [W0,St.map,List.getElem?_map,Option.map_eq_some_iff]at ho;obtain⟨ov',ho',rfl⟩:=ho;exact hs1 0 _ _ b rfl rfl rfl (Z9 h0c) o ov' ho' (by cases ov' <;> first|rfl|(simp [OV.map,OV.alive]at hal)))
           refine⟨_,_,rfl,f2,.slice xs b 0 arr bt (0,0) e c hc hcap (by simp [Mem.add]) he (by rw [hsz,Nat.zero_add];exact Nat.mul_le_mul_right _ hc)
             (fun i j x d v q1 q2 q3=>(hvv i j x d v q1 q2 (by rw [←q3,Nat.zero_add])).mono f2),f1,fun i r u q1 q2=>?_⟩
           refine(hrt i r u q1 q2).mono f2 fun b' ho' hb''=>?_
           have hne:b'≠b:=fun e=>hs2 0 (i+1) _ _ _ _ b (by omega) rfl (by simpa using q1) rfl (by simpa using q2) rfl ho' (Z9 h0c) (by rw [←e];exact hb'')
           simp only [Mem.add,if_neg hne];have:=hrt i r u q1 q2;cases this with
           |d=>cases ho'
           |any=>cases ho'
           |none=>simp [Zn]at hb''
           |own _ hm2 _ h0d=>rw [Z9 h0d]at hb'';cases hb'';exact hm2
           |box _ hm2=>simp [blk]at hb'';subst hb'';exact hm2
     obtain⟨x,m1,rfl,hlm,hx,hf1,hr1⟩:=one;simp only [List.singleton_append]at hk hv;simp only [HasKs]at hk;have hrec':=WB hrec h2 hk.2 hv.tail hf1 hok hl' hr1 hB hs1t hs2t;exact fin (n1:=n+1) (Names.le_refl σ) hlm hrec' (.d (by rw [Zx hv.head];exact hx)) (.d (.var hv.head hk.1)) rfl
   | agg kk=>
     have hk':RK.all (.agg kk::rk)=kk++RK.all rk:=rfl;rw [hk']at hk;simp only [Ja]at h;generalize hrec:Ja rk (n+kk.length) objs=rec at h;obtain⟨vs2,n2,o2⟩:=rec;simp only [Prod.mk.injEq]at h;obtain⟨rfl,rfl,rfl⟩:=h;cases r with
     |own e xs=>simp [RV.cells]at h1
     |box cs=>simp [RV.cells]at h1
     |any=>simp [RV.cells]at h1
     |d x=>
     cases x <;> simp [RV.cells]at h1
     obtain⟨hlen,rfl⟩:=h1;rename_i cs;have hkk:HasKs kk cs∧HasKs (RK.all rk) d2:=HasKs.unappend hlen hk;have hrec':=WB hrec h2 hkk.2 (by rw [←hlen];exact hv.right) hf hok hl' hrt hB hs1t hs2t;obtain⟨c1,c2,c3⟩:=Jm hv.left hkk.1;refine fin (n1:=n+kk.length) (Names.le_refl σ) (Mem.le_refl m) hrec' ?_ (.agg fun c hc=>by obtain⟨y,hy,rfl⟩:=List.mem_map.1 hc;exact .d (c2 y hy)) rfl;cases hr0 with
     |d hd=>
     cases hd with
     | agg _ arr hsz hvv=>
       simp only [RS,SV.map,SV.mapL_eq,List.map_map];refine .agg (by simp [hsz,c1]) fun i c v hc hu=>?_
       simp only [List.getElem?_map,Option.map_eq_some_iff]at hc;obtain⟨y,hy,rfl⟩:=hc;have hlt:i < cs.length:=by rw [←c1];exact(List.getElem?_eq_some_iff.1 hy).1
       refine .d ?_;rw [c3 i y _ hy (List.getElem?_eq_getElem hlt)];exact hvv i _ v (List.getElem?_eq_getElem hlt) hu
   | any=>
     simp only [Ja]at h;generalize hrec:Ja rk n objs=rec at h;obtain⟨vs2,n2,o2⟩:=rec;simp only [Prod.mk.injEq]at h;obtain⟨rfl,rfl,rfl⟩:=h;have hd1:d1=[]:=by cases r <;> simp [RV.cells]at h1 <;> exact h1
     subst hd1;have hrec':=WB hrec h2 hk (by simpa using hv) hf hok hl' hrt hB hs1t hs2t;exact fin (n1:=n) (Names.le_refl σ) (Mem.le_refl m) hrec' .any .any rfl
   | box kk=>
     have hk':RK.all (.box kk::rk)=kk++RK.all rk:=rfl;rw [hk']at hk;simp only [Ja]at h;generalize hrec:Ja rk (n+kk.length) objs=rec at h;obtain⟨vs2,n2,o2⟩:=rec;simp only [Prod.mk.injEq]at h;obtain⟨rfl,rfl,rfl⟩:=h;have hlen:d1.length=kk.length:=by
       cases r <;> simp [RV.cells]at h1
       obtain⟨h3,rfl⟩:=h1;exact h3
     have hkk:HasKs kk d1∧HasKs (RK.all rk) d2:=HasKs.unappend hlen hk;have hrec':=WB hrec h2 hkk.2 (by rw [←hlen];exact hv.right) hf hok hl' hrt hB hs1t hs2t;exact fin (n1:=n+kk.length) (Names.le_refl σ) (Mem.le_refl m) hrec' .any .any rfl
   | own kk=>
     have hk':RK.all (.own kk::rk)=.slice kk::RK.all rk:=rfl;rw [hk']at hk;simp only [Ja]at h;generalize hrec:Ja rk (n+1) (objs++[OV.arr kk.length {t:=T.var n,k:=K.slice kk}])=rec at h;obtain⟨vs2,n2,o2⟩:=rec;simp only [Prod.mk.injEq]at h;obtain⟨rfl,rfl,rfl⟩:=h;obtain⟨xs,rfl,rfl⟩:=RV.cells_own h1;simp only [List.singleton_append]at hk hv;simp only [HasKs]at hk;have hden:=Zx (k:=.slice kk) hv.head;have hlv:LOk ρ ⟨.var n,.slice kk⟩:=.var hv.head hk.1
     have hA :Fits E (σ.add objs.length u) m (W0 ρ ⟨ts,objs++[.arr kk.length ⟨.var n,.slice kk⟩]⟩) a w:=by
       rw [Zf (st:=⟨ts,objs⟩)];have:=hf.newObj (v0:=u) (ov:=.arr kk.length (.slice xs)) (by
         rw [Z6];cases hr0 with
         |none=>exact .none (J1 _ _ _)
         | own hB' hm hb h0c hc hcc hcap hsz he hvv=>exact .arr (J1 _ _ _) hb h0c hc hcc hcap hsz he hvv) (fun b hbb hal=>by
           refine⟨?_,?_,fun o ov ho hal'=>?_⟩
           · cases hr0 with
             |none=>simp [Zn]at hbb
             |own hB' hm _ h0c=>rw [Z9 h0c]at hbb;cases hbb;exact hm
           · cases hr0 with
             |none=>simp [Zn]at hbb
             |own hB' hm _ h0c=>rw [Z9 h0c]at hbb;cases hbb;exact hB _ hB'
           · simp only [W0,St.map,List.getElem?_map,Option.map_eq_some_iff]at ho;obtain⟨ov',ho',rfl⟩:=ho;exact hs1 0 _ _ b rfl rfl rfl hbb o ov' ho' (by cases ov' <;> first|rfl|(simp [OV.map,OV.alive]at hal')))
       rw [Z6]at this;simp only [OV.map,hden];exact this
     have hle:σ.le (σ.add objs.length u):=by
       have:=Names.le_add hf.dom (Nat.le_refl _) u;rw [Z6]at this;exact this
     have hrec':=WB hrec h2 hk.2 hv.tail hA (by
         intro o ho;rcases List.mem_append.1 ho with ho|ho
         · exact hok o ho
         · simp at ho;subst ho;exact .arr hlv) hl' hrt hB
       (by
         intro i r u' b hi hu ho hb o ov hov hal;rw [List.getElem?_append]at hov;split at hov
         · rename_i hlt;simp only [Names.add];rw [if_neg (by omega)];exact hs1t i r u' b hi hu ho hb o ov hov hal
         · rename_i hge;have hq:o=objs.length:=by
             have:=(List.getElem?_eq_some_iff.1 hov).1;simp at this;omega
           subst hq;simp only [Names.add,if_true,Option.bind_some];exact fun hbu=>hs2 0 (i+1) _ _ _ _ b (by omega) rfl (by simpa using hi) rfl (by simpa using hu) rfl ho hbu hb) hs2t
     exact fin (n1:=n+1) hle (Mem.le_refl m) hrec' (.own (J1 _ _ _)) .own rfl
end
section
variable {E:Env} {ρ:List D} {σ:Names} {m:Mem} {st:St TK} {a:Act} {w:World}
theorem Zd (dst:Option Tmp) (sv:SV TK) (objs:List (OV TK)):W0 ρ ⟨putT st.tmps dst sv,objs⟩=⟨putT (W0 ρ ⟨st.tmps,objs⟩).tmps dst (sv.map (denL ρ)),(W0 ρ ⟨st.tmps,objs⟩).objs⟩:=by
 cases dst <;> simp [W0,St.map,putT,List.map_set]
theorem St.Ok.putT {st:St TK} (h:st.Ok ρ) (dst:Option Tmp) {sv:SV TK} {objs:List (OV TK)} (hs:SV.Ok ρ sv) (ho:∀o∈objs,OV.Ok ρ o):St.Ok ρ ⟨putT st.tmps dst sv,objs⟩:=by
 refine⟨fun v hv=>?_,ho⟩;cases dst with
 |none=>exact h.tmps v hv
 | some d=>
   simp only [Go.Sx.putT]at hv;rcases List.mem_or_eq_of_mem_set hv with hv|rfl
   · exact h.tmps v hv
   · exact hs
theorem ZaX {ops:Array Oper} {o:Oper} {g:Option T} (hf:Fits E σ m (W0 ρ st) a w) (hok:st.Ok ρ) (h:Z3C st ops.toList o.guard=some g):
   (g=none→Region.wanted o (yielded ops a.tmps)=true)∧∀c,g=some c→LOk ρ ⟨c,.bool⟩∧den ρ c=.bool (Region.wanted o (yielded ops a.tmps)):=by
 unfold Z3C at h;split at h
 · rename_i hg;cases h;exact⟨fun _=>by simp [Region.wanted,hg],by simp⟩
 · rename_i j want hg;split at h <;> try contradiction
   rename_i d hd;have hd':(ops[j]?).bind (·.dst)=some d:=by simpa using hd
   have slot:∀sv,st.tmps.getD d .any=sv→sv≠.any→∃v,a.tmps[d]? =some v∧RS σ m ρ sv v∧SV.Ok ρ sv:=by
     intro sv hsv hne;cases hs:st.tmps[d]? with
     |none=>simp [List.getD,hs]at hsv;exact absurd hsv.symm hne
     | some s=>
       have:s=sv:=by simpa [List.getD,hs]using hsv
       subst this;have hlt:d < st.tmps.length:=(List.getElem?_eq_some_iff.1 hs).1;have hsz:=hf.sz;simp only [W0,St.map,List.length_map]at hsz;have hlt':d < a.tmps.size:=by rw [hsz];exact hlt
       exact⟨a.tmps[d],by simp [hlt'],hf.tm d _ _ (by simp [W0,St.map,hs]) (by simp [hlt']),hok.tmps s (List.mem_of_getElem? hs)⟩
   have wantIf:∀ {t:T} {b:Bool},LOk ρ ⟨t,.bool⟩→den ρ t=.bool b→LOk ρ ⟨if want then t else T.notB t,.bool⟩∧den ρ (if want then t else T.notB t)=.bool (b==want):=by
     intro t b hl hd;cases want
     · exact⟨hl.notB,by simp [T.notB,den,hd,O1.eval]⟩
     · exact⟨hl,by simp [hd]⟩
   split at h <;> try contradiction
   · rename_i t ht;cases h;obtain⟨v,hv,hr,hk⟩:=slot _ ht (by simp);obtain⟨b,hb,hev⟩:=RS.bool hr (Jc hk);refine⟨by simp,fun c hc=>?_⟩;cases hc;obtain⟨w1,w2⟩:=wantIf (Jc hk) hb;refine⟨w1,?_⟩;rw [w2];simp [Region.wanted,hg,yielded,hd',hv,hev]
   · rename_i c0 t ht;cases h;obtain⟨v,hv,hr,hk⟩:=slot _ ht (by simp);cases hk with
     |grd hkc hst hkt=>
     obtain⟨cb,hcb⟩:=hkc.1.bool_inv;simp only at hcb;simp only [RS,SV.map]at hr;cases hr with
     |grd h1 h2=>
     simp only [denL]at h1 h2;refine⟨by simp,fun c hc=>?_⟩;cases hc;have hst':∀rs,den (ρ++rs) t=den ρ t:=by cases hst with|d h=>exact h
     have stab:∀rs,den (ρ++rs) (.o2 .band c0 (if want then t else T.notB t))=den ρ (.o2 .band c0 (if want then t else T.notB t)):=by
       intro rs;simp only [den];rw [hkc.2 rs];congr 1;cases want
       · simp only [Bool.false_eq_true,if_false,T.notB,den];rw [hst' rs]
       · simp only [if_true];exact hst' rs
     have key:den ρ (.o2 .band c0 (if want then t else T.notB t))=.bool (Region.wanted o (yielded ops a.tmps)):=by
       cases cb with
       | true=>
         obtain⟨b,hb,hev⟩:=RS.bool (h1 hcb) (Jc (hkt hcb));obtain⟨w1,w2⟩:=wantIf (Jc (hkt hcb)) hb;simp only [den,hcb,w2,O2.eval];simp [Region.wanted,hg,yielded,hd',hv,hev]
       | false=>
         have:v=undef:=h2 (by rw [hcb];simp);simp only [den,hcb];have e2:∀x:D,O2.eval .band (.bool false) x=.bool false:=by intro x;cases x <;> simp [O2.eval]
         rw [e2];simp [Region.wanted,hg,yielded,hd',hv,this,undef]
     exact⟨.mk' key (.mk_bool _) stab,key⟩
structure GOk (ρ:List D) (ops:Array Oper) (o:Oper) (a:Act) (g gr:Option T):Prop where
 nn:gr=none→Region.wanted o (yielded ops a.tmps)=true
 ss:∀c,gr=some c→LOk ρ ⟨c,.bool⟩∧den ρ c=.bool (Region.wanted o (yielded ops a.tmps))
 known:Region.wanted o (yielded ops a.tmps)=true→∀c,g=some c→den ρ c=.bool true
 both:∀c,gr=some c→g=some c
theorem GOk.of {ops:Array Oper} {o:Oper} {g:Option T} (hf:Fits E σ m (W0 ρ st) a w) (hok:st.Ok ρ) (h:Z3C st ops.toList o.guard=some g):GOk ρ ops o a g g:=by
 obtain⟨g1,g2⟩:=ZaX hf hok h;exact⟨g1,g2,fun hw c hc=>by rw [(g2 c hc).2,hw],fun c hc=>hc⟩
structure PureOk (E:Env) (ρ:List D) (σ:Names) (m:Mem) (st:St TK) (ops:Array Oper) (a:Act) (w:World) (o:Oper) (sv:SV TK) (objs:List (OV TK)) (fs:List T) (v:Value) (w':World) (σ':Names) (m':Mem):Prop where
 leσ:σ.le σ'
 lem:m.le m'
 run:Region.wanted o (yielded ops a.tmps)=true→(execOp a.eval o).run E.P w=.ok (.value v) w'∨((execOp a.eval o).run E.P w=.ok .skip w'∧v=undef)
 skip:Region.wanted o (yielded ops a.tmps)=false→v=undef∧w'=w
 fits:Fits E σ' m' (W0 ρ ⟨putT st.tmps o.dst sv,objs⟩) (a.put o.dst v) w'
 rs:RS σ' m' ρ sv v
 all:St.Ok ρ ⟨putT st.tmps o.dst sv,objs⟩
 facts:∀t∈fs,den ρ t=.bool true
theorem Z1O {ops:Array Oper} {o:Oper} {g gr:Option T} {s:Sym} (hf:Fits E σ m (W0 ρ st) a w) (hok:st.Ok ρ) (hG:GOk ρ ops o a g gr) (hs:sxOp E.P g st o=some s) (hcl:gr.isSome=true→s.v.closed ρ.length=true):
   (gr=none→(∀t∈s.needs,den ρ t=.bool true)→∃v w' σ' m',PureOk E ρ σ m st ops a w o s.v (s.objs.getD st.objs) s.facts v w' σ' m'∧(s.objs=none→w'=w∧σ'=σ∧m'=m))∧
   (∀c,gr=some c→s.objs=none→(∀t∈s.needs.map (T.imp c),den ρ t=.bool true)→∃v,PureOk E ρ σ m st ops a w o (.grd ⟨c,.bool⟩ s.v) st.objs (s.facts.map (T.imp c)) v w σ m):=by
 constructor
 · intro hgr hn;have hw:=hG.nn hgr;obtain⟨v,w',σ',m',h1,h2,h3,h4,h5,h6,h7,h8,h9⟩:=Z9U hf hok (g:=g) (hG.known hw) hs hn;refine⟨v,w',σ',m',⟨h1,h2,fun _=>h3,(fun h=>by rw [hw]at h;cases h),?_,h5,hok.putT _ h6 h7,h8⟩,h9⟩;rw [Zd];exact h4.put o.dst h5
 · intro c hgr hno hn;obtain⟨hc,hw⟩:=hG.ss c hgr;cases hb:Region.wanted o (yielded ops a.tmps)with
   | true=>
     rw [hb]at hw;have hn':∀t∈s.needs,den ρ t=.bool true:=by
       intro t ht;have:=hn _ (List.mem_map_of_mem ht);simp only [T.imp,den,hw,D.cond]at this;exact this
     obtain⟨v,w',σ',m',h1,h2,h3,h4,h5,h6,h7,h8,h9⟩:=Z9U hf hok (g:=g) (hG.known hb) hs hn';obtain⟨rfl,rfl,rfl⟩:=h9 hno;rw [hno]at h4 h7;have hr:RS σ' m' ρ (.grd ⟨c,.bool⟩ s.v) v:=.grd (fun _=>h5) (fun h=>absurd hw (by simpa [denL]using h));refine⟨v,Names.le_refl _,Mem.le_refl _,fun _=>h3,(fun h=>by rw [hb]at h;cases h),?_,hr,hok.putT _ (.grd hc h6.stb fun _=>h6) hok.objs,?_⟩
     · rw [Zd];exact hf.put o.dst hr
     · intro t ht;obtain⟨t',ht',rfl⟩:=List.mem_map.1 ht;simp only [T.imp,den,hw,D.cond];exact h8 t' ht'
   | false=>
     rw [hb]at hw;have hr:RS σ m ρ (.grd ⟨c,.bool⟩ s.v) undef:=.grd (fun h=>by simp [denL,hw]at h) (fun _=>rfl);refine⟨undef,Names.le_refl _,Mem.le_refl _,(fun h=>by rw [hb]at h;cases h),fun _=>⟨rfl,rfl⟩,?_,hr,hok.putT _ (.grd hc (SV.closed_ok (hcl (by rw [hgr];rfl))) fun h=>by simp [hw]at h) hok.objs,?_⟩
     · rw [Zd];exact hf.put o.dst hr
     · intro t ht;obtain⟨t',ht',rfl⟩:=List.mem_map.1 ht;simp only [T.imp,den,hw,D.cond]
end
theorem YV {f:List (OV TK)→SV TK→Option (TK×List (OV TK))} (hf:∀ {v x o'},f [] v=some (x,o')→o'=[]∧∀objs,f objs v=some (x,objs)):
   ∀ {vs xs o'},Zj f [] vs=some (xs,o')→o'=[]∧∀objs,Zj f objs vs=some (xs,objs):=by
 intro vs;induction vs with
 |nil=>intro xs o' h;simp [Zj]at h;obtain⟨rfl,rfl⟩:=h;exact⟨rfl,fun _=>rfl⟩
 | cons v vs ih=>
   intro xs o' h;simp only [Zj]at h;split at h <;> try contradiction
   rename_i x o1 h1;split at h <;> try contradiction
   rename_i xs1 o2 h2;cases h;obtain⟨rfl,g1⟩:=hf h1;obtain⟨rfl,g2⟩:=ih h2;exact⟨rfl,fun objs=>by simp only [Zj,g1,g2]⟩
theorem Z1U:∀(n:Nat) {v:SV TK} {x:TK} {o':List (OV TK)},freeze n [] v=some (x,o')→o'=[]∧∀objs,freeze n objs v=some (x,objs)
 |0,_,_,_,h=>by simp [freeze]at h
 | n +1,v,x,o',h=>by
   cases v with
   |d y=>simp [freeze]at h;obtain⟨rfl,rfl⟩:=h;exact⟨rfl,fun _=>by simp [freeze]⟩
   |nil=>simp [freeze]at h;obtain⟨rfl,rfl⟩:=h;exact⟨rfl,fun _=>by simp [freeze]⟩
   |own o=>simp [freeze]at h
   |ptr o off=>simp [freeze]at h
   |bnd f o=>simp [freeze]at h
   |bptr o i n=>simp [freeze]at h
   | agg cs=>
     simp only [freeze]at h;split at h <;> try contradiction
     rename_i xs o1 h1;cases h;obtain⟨rfl,g⟩:=YV (fun {v x o'}=>Z1U n) h1;exact⟨rfl,fun objs=>by simp only [freeze,g]⟩
   | clo f cs=>
     simp only [freeze]at h;split at h <;> try contradiction
     rename_i xs o1 h1;cases h;obtain⟨rfl,g⟩:=YV (fun {v x o'}=>Z1U n) h1;exact⟨rfl,fun objs=>by simp only [freeze,g]⟩
   |_=>simp [freeze]at h
theorem T.toList_ok {ρ:List D}:∀ {e:T} {ts:List T},T.toList e=some ts→(den ρ e).list=ts.map (den ρ):=by
 intro e;induction e with
 |lnil=>intro ts h;simp [T.toList]at h;subst h;rfl
 | lcons a b _ ih=>
   intro ts h;simp only [T.toList,Option.map_eq_some_iff]at h;obtain⟨ts',h1,rfl⟩:=h;show den ρ a::(den ρ b).list=_;rw [ih h1];rfl
 |_=>intro ts h;simp [T.toList]at h
section
variable {E:Env} {ρ:List D} {σ:Names} {m:Mem} {st:St TK} {a:Act} {w:World}
def fen (r:Option Nat):Fence:= {Fence.wide with round:=r}
theorem Z1w {P:Program} {r:Option Nat} {n:Nat} {f:FuncId} {args:Array Value} {w:World} {R:Ending→World→Prop} (h:Calls P f args w R):CallsIn (fen r) n P f args w R:=by
 have h':CallsIn Fence.wide n P f args w R:=callsIn_wide.2 h;cases r with
 |none=>exact h'
 |some l=>exact CallsIn.inRound l h'
theorem ZaB {P:Program} {o:Oper} {ev:Operand→Value} {w w':World} {x:Next} (h:(execOp ev o).run P w=.ok x w') (hx:∀d,x≠.defer d):∀c,o.op≠.defer c:=by
 intro c hc;simp only [execOp,hc]at h;cases hr:(resolve ev c o.type).run P w with
 | ok d w1=>
   simp [Sem.run_bind,hr,Result.andThen]at h;exact hx d h.1.symm
 |halt y w1=>simp [Sem.run_bind,hr,Result.andThen]at h
theorem Wo {P:Program} {r:Option Nat} {o:Oper} {a:Act} {w w':World} {K:Act→World→Prop} {Q:Exit→Act→World→Prop} {x:Next} (hr:(execOp a.eval o).run P w=.ok x w') (hx:∀d,x≠.defer d)
   (h:o.uponIn (fen r) 0 P a K Q (.ok x w')):o.wpIn (fen r) 0 P a w K Q:=
 ⟨fun _ _=>trivial,by
   rw [Oper.semAt_eq _ _ _ (ZaB hr hx),hr];exact h⟩
structure Good (E:Env) (ags:Ags):Prop where
 yok:YOk E.P E.Y
 j:E.Y.on=true→E.Y.J ags.cnt E.own E.m0 E.w0
 exp:ags.exp=E.Y.exp
 sub:∀b,E.mine b→E.own b∧b < E.w0.heap.size
 lim:∀n O m w,E.Y.J (some n) O m w→ags.lim n
def Res (E:Env) (Kd:Ags→List D→XExit→XS→Prop) (ags:Ags) (a:Act) (dst:Option Tmp) (v:Value) (w':World):Prop:=
 ∃ags' ρ xs σ m,(Good E ags→Good E ags')∧Kd ags' ρ .norm xs∧Fits E σ m (W0 ρ xs.st) (a.put dst v) w'∧XOk ρ xs
def WJ (E:Env) (ops:Array Oper) (o:Oper) (a:Act) (w:World) (R:Value→World→Prop):Prop:=
 ∀ (a':Act) (K:Act→World→Prop) (Q:Exit→Act→World→Prop),Region.wanted o (yielded ops a'.tmps)=Region.wanted o (yielded ops a.tmps)→execOp a'.eval o=execOp a.eval o→
   (∀v w',R v w'→K (a'.put o.dst v) w')→if Region.wanted o (yielded ops a'.tmps)then o.wpIn (fen E.r) 0 E.P a' w K Q else K (a'.put o.dst undef) w
theorem YQ {t:T} {v:Value} (h:RS σ m ρ (.d ⟨t,.fn⟩) v) (hk:LOk ρ ⟨t,.fn⟩):∃f caps arr,den ρ t=.clo f caps∧v=.func (.func f) #[] arr∧arr.size=caps.length∧
   ∀(i:Nat) d u,caps[i]? =some d→arr[i]? =some u→RepD m d u:=by
 obtain⟨f,caps,hd⟩:=hk.1.fn_inv;simp only at hd;have:=h.d_inv;simp only [denL,hd]at this;cases this with
 |clo _ _ arr hsz hv=>exact⟨f,caps,arr,hd,rfl,hsz,hv⟩
theorem Z2L {P:Program} {w:World} {o:Oper} {c:Call} {fv:Operand} {f:FuncId} {arr:Array Value} {ev:Operand→Value} (ho:o.op=.call c) (hc:c.callee=.value fv) (hv:ev fv=.func (.func f) #[] arr)
   (hcl:J2 P f=true):(execOp ev o).run P w=.ok (.enter f (c.args.map ev++arr)) w:=by
 unfold J2 at hcl;split at hcl <;> try contradiction
 rename_i fn hfn;simp only [Bool.and_eq_true,Bool.not_eq_true',Option.isSome_iff_exists]at hcl;obtain⟨⟨body,hb⟩,hname⟩:=hcl;have h1:fn.name≠ "runtime.NumGoroutine" :=by simpa using hname
 have:=show(callFunc f (c.args.map ev++arr)).run P w=.ok (.enter f (c.args.map ev++arr)) w from by simp [callFunc,hfn,h1,hb]
 simp [execOp,ho,resolve,hc,hv,Deferred.ofValue,invoke,this]
theorem Z5v {x:TK} {k:K} (hx:LOk ρ x) (h:Z6y x k=true):HasK k (denL ρ x):=Z8o hx.1 h
theorem Z34 {P:Program} {caps:List D}:∀ {tys:List TypeId} {ts:List TK},YJ P tys ts=true→(∀x∈ts,LOk ρ x)→YM P tys (ts.map (denL ρ)++caps)
 | [],_,_,_=>by unfold YM;trivial
 |_::_,[],h,_=>by simp [YJ]at h
 | t::tys,x::ts,h,hk=>by
   simp only [YJ,Bool.and_eq_true]at h;refine⟨fun rk hrk=>?_,Z34 h.2 fun y hy=>hk y (List.mem_cons_of_mem _ hy)⟩;have h1:=h.1;rw [hrk]at h1;exact Z5v (hk x List.mem_cons_self) h1
theorem JJ:∀ {a b:List TypeId},ZB a b=true→a=b
 | [],[],_=>rfl
 | [],_::_,h=>by simp [ZB]at h
 |_::_,[],h=>by simp [ZB]at h
 | a::l,b::r,h=>by
   simp only [ZB,Bool.and_eq_true,beq_iff_eq]at h;rw [h.1,JJ h.2]
theorem YK {P:Program} {own:Bool}:∀ {tys:List TypeId} {rk:List RK},Z8 P own tys=some rk→∃rk0,Z8 P false tys=some rk0∧RK.all rk0=RK.all rk∧∀rvs ds,RV.all rk rvs=some ds→RV.all rk0 rvs=some ds
 | [],rk,h=>by simp [Z8]at h;subst h;exact⟨[],rfl,rfl,fun _ _ h=>h⟩
 | t ::tys,rk,h=>by
   simp only [Z8]at h;split at h <;> try contradiction
   rename_i ks hks;obtain⟨ks0,h1,h2,h3⟩:=YK hks;have keep:∀ {k k':RK},Z8 P false (t::tys)=some (k::ks0)→k.kinds=k'.kinds→(∀v ds,RV.cells k' v=some ds→RV.cells k v=some ds)→some (k'::ks)=some rk→∃rk0,Z8 P false (t::tys)=some rk0∧RK.all rk0=RK.all rk∧∀rvs ds,RV.all rk rvs=some ds→RV.all rk0 rvs=some ds:=by
     intro k k' hk e1 e2 e3;cases e3;refine⟨k::ks0,hk,?_,?_⟩
     · simp only [RK.all,List.map_cons,List.flatten_cons,e1]at h2 ⊢;rw [h2]
     · intro rvs ds hd;cases rvs with
       |nil=>simp [RV.all]at hd
       | cons v vs=>
         simp only [RV.all]at hd ⊢;split at hd <;> try contradiction
         rename_i a b ha hb;cases hd;rw [e2 _ _ ha,h3 _ _ hb]
   split at h
   · rename_i k hk;split at h
     · refine keep (k':=.own _) (show Z8 P false (t::tys)=some (.cell (.slice _)::ks0) by simp only [Z8,hk,h1]) rfl ?_ h;intro v ds hv;cases v with
       |d x=>simp [RV.cells]at hv
       |any=>simp [RV.cells]at hv
       |box cs=>simp [RV.cells]at hv
       | own e xs=>
         simp only [RV.cells]at hv ⊢;split at hv
         · exact hv
         · cases hv
     · exact keep (by simp only [Z8,hk,h1]) rfl (fun _ _ h=>h) h
   · rename_i hk;exact keep (k:=.any) (by simp only [Z8,hk,h1]) rfl (fun _ _ h=>h) h
theorem Z7U {P:Program} {fv:Fv} {args:List T} {res:List RK} {J:List D→Prop} {f:FuncId} {caps:List D} {ts:List TK} (h:JL P ρ fv args res J) (hk:∀x∈ts,LOk ρ x)
   (hfv:(fv=.fn f∧J2 P f=true∧args.map (den ρ)=(ts.map (·.t)).map (den ρ)++caps∧YR P f ts=true∧∃own,Z8 P own (Zs P f)=some res)∨(∃t,fv=.val t∧den ρ t=.clo f caps∧args=ts.map (·.t))):
   J2 P f=true∧∃(s:Spec) (K:List RV→Prop),Contract P f s∧s (ts.map (denL ρ)++caps) K∧Zr P f (ts.map (denL ρ)++caps)∧
     ∀rvs,K rvs→JW P f [] rvs→∃rs,RV.all res rvs=some rs∧HasKs (RK.all res) rs∧J rs:=by
 have em:(ts.map (·.t)).map (den ρ)=ts.map (denL ρ):=by rw [List.map_map];rfl
 rcases hfv with⟨rfl,hcl,he,hm,own,hres⟩|⟨t,rfl,hd,rfl⟩
 · obtain⟨s,h1,h2⟩:=h;refine⟨hcl,s,_,h1,by rw [←em, ←he];exact h2,?_,?_⟩
   · intro fn hfn;simp only [YR,hfn]at hm;exact Z34 hm hk
   · rintro rvs ⟨rs,r1,r2⟩ ht;obtain⟨rk0,q1,q2,q3⟩:=YK hres;obtain⟨ds,d1,d2⟩:=ht rk0 q1;simp only [List.append_nil]at d1 d2;rw [q3 _ _ r1]at d1;cases d1;exact⟨rs,r1,by rw [←q2];exact d2,r2⟩
 · obtain⟨s,h1,h2⟩:=h;simp only [FvC,hd]at h1;obtain⟨hcl,s',hs',hcon⟩:=h1;rw [em]at h2;obtain⟨g1,g2⟩:=hcon _ _ h2;exact⟨hcl,s',_,hs',g1,g2,fun rvs h _=>h⟩
theorem ZL:∀ {rk:List RK} {n:Nat} {objs:List (OV TK)},Yh rk=true→(Ja rk n objs).2.2=objs
 | [],_,_,_=>rfl
 | .cell k::rk,n,objs,h=>by simp only [Ja];exact ZL (rk:=rk) (by simpa [Yh]using h)
 | .agg k::rk,n,objs,h=>by simp only [Ja];exact ZL (rk:=rk) (by simpa [Yh]using h)
 | .any::rk,n,objs,h=>by simp only [Ja];exact ZL (rk:=rk) (by simpa [Yh]using h)
 | .own k::rk,_,_,h=>by simp [Yh]at h
theorem WK {ρ:List D}:∀ {rk:List RK} {n:Nat} {objs:List (OV TK)} {ds:List D},Yh rk=true→HasKs (RK.all rk) ds→Vars ρ n ds→
   (∀v∈(Ja rk n objs).1,SV.Ok ρ v)∧(Ja rk n objs).2.1=n+ds.length
 | [],n,objs,ds,_,hk,_=>by
   cases ds with
   |nil=>exact⟨by simp [Ja],rfl⟩
   |cons d ds=>simp [RK.all,HasKs]at hk
 | .cell k::rk,n,objs,ds,h,hk,hv=>by
   have hk':RK.all (.cell k::rk)=k::RK.all rk:=rfl;rw [hk']at hk;cases ds with
   |nil=>simp [HasKs]at hk
   |cons d ds=>
   simp only [HasKs]at hk;obtain⟨h1,h2⟩:=WK (objs:=objs) (by simpa [Yh]using h) hk.2 hv.tail;simp only [Ja];refine⟨fun v hv'=>?_,by rw [h2];simp;omega⟩;rcases List.mem_cons.1 hv' with rfl|hv'
   · exact .d (.var hv.head hk.1)
   · exact h1 v hv'
 | .agg ks::rk,n,objs,ds,h,hk,hv=>by
   have hk':RK.all (.agg ks::rk)=ks++RK.all rk:=rfl;rw [hk']at hk;have hlen:=hk.length;have hsplit:ds=ds.take ks.length++ds.drop ks.length:=by simp
   have hl:(ds.take ks.length).length=ks.length:=by simp at hlen ⊢;omega
   rw [hsplit]at hk hv;obtain⟨k1,k2⟩:=HasKs.unappend hl hk;have hvr:=hv.right;rw [hl]at hvr;obtain⟨h1,h2⟩:=WK (objs:=objs) (by simpa [Yh]using h) k2 hvr;obtain⟨c1,c2,c3⟩:=Jm hv.left k1;simp only [Ja];refine⟨fun v hv'=>?_,by rw [h2];simp at hlen ⊢;omega⟩;rcases List.mem_cons.1 hv' with rfl|hv'
   · exact .agg fun c hc=>by obtain⟨y,hy,rfl⟩:=List.mem_map.1 hc;exact .d (c2 y hy)
   · exact h1 v hv'
 | .any::rk,n,objs,ds,h,hk,hv=>by
   obtain⟨h1,h2⟩:=WK (rk:=rk) (objs:=objs) (by simpa [Yh]using h) hk hv;simp only [Ja];refine⟨fun v hv'=>?_,h2⟩;rcases List.mem_cons.1 hv' with rfl|hv'
   · exact .any
   · exact h1 v hv'
 | .own ks::rk,_,_,_,h,_,_=>by simp [Yh]at h
 | .box ks::rk,_,_,_,h,_,_=>by simp [Yh]at h
theorem Yy {ρ:List D} {vs:List (SV TK)} (h:∀v∈vs,SV.Ok ρ v):SV.Ok ρ (Wm vs):=by
 unfold Wm;split
 · exact h _ (by simp)
 · exact .tup h
end
section
variable {E:Env} {σ:Names} {m:Mem} {st:St D} {a:Act} {w:World}
def WY (σ:Names) (st:St D) (b:Nat):Prop:=∃(o:Nat) (ov:OV D),st.objs[o]? =some ov∧ov.alive=true∧(σ o).bind blk=some b
theorem Fits.other (hf:Fits E σ m st a w) {O:Nat→Prop} {m':Mem} {w':World} (hk:∀b,b < w.heap.size→¬O b→w'.heap[b]? =w.heap[b]?) (hs:w.heap.size≤w'.heap.size) (hos:w'.os=w.os) (htape:w'.tape=w.tape) (hout:w'.output=w.output) (hdr:w.drawn≤w'.drawn)
   (hle:m.le m') (hm:∀b,b < w.heap.size→¬O b→m' b=m b) (hmem:MemOk m' w') (hap:∀b,WY σ st b→¬O b) (hO:∀b,O b→E.w0.heap.size≤b∨E.mine b) (hmk:∀D,mark D∈a.defers→¬O D):Fits E σ m' st a w':=
 { sz:=hf.sz
   tm:=fun i s v a b=>(hf.tm i s v a b).mono (Names.le_refl σ) hle
   dfr:=by
     obtain⟨Ds,h1,h2,h3⟩:=hf.dfr;refine⟨Ds,h1,h2,fun D hD=>?_⟩;obtain⟨g1,g2,g3⟩:=h3 D hD;have hlt:=(Array.getElem?_eq_some_iff.1 g1).1;have hno:=hmk D (by rw [h1];exact List.mem_map_of_mem hD);exact⟨by rw [hk D hlt hno];exact g1,by rw [hm D hlt hno];exact g2,g3⟩
   yld:=hf.yld,sav:=hf.sav,mem:=hmem,le:=Mem.le_trans hf.le hle
   objs:=fun o ov ho=>((hf.objs o ov ho).mono (Names.le_refl σ) hle).keep fun b ha hb=>hk b ((hf.objs o ov ho).lt ha hb) (hap b ⟨o,ov,ho,ha,hb⟩)
   sep:=fun o ov b ho ha hb=>by
     have hs:=hf.sep o ov b ho ha hb;exact⟨by rw [hm b ((hf.objs o ov ho).lt ha hb) (hap b ⟨o,ov,ho,ha,hb⟩)];exact hs.1,hs.2⟩
   inj:=hf.inj,dom:=hf.dom,grow:=Nat.le_trans hf.grow hs
   keep:=fun b hb hmb=>by
     have hno:¬O b:=fun h=>(hO b h).elim (fun h=>by omega) hmb
     rw [hk b (Nat.lt_of_lt_of_le hb hf.grow) hno];exact hf.keep b hb hmb
   old:=fun b hb hmb=>by
     have hno:¬O b:=fun h=>(hO b h).elim (fun h=>by omega) hmb
     rw [hm b (Nat.lt_of_lt_of_le hb hf.grow) hno];exact hf.old b hb hmb
   os:=hos.trans hf.os,tape:=htape.trans hf.tape,output:=hout.trans hf.output,drawn:=Nat.le_trans hf.drawn hdr}
theorem Fits.revive (h:Fits E σ m st a w) {o:Nat} {ov:OV D} (ho:st.objs[o]? =some .dead) (h':RepO σ m w o ov) (hy:ov≠.yld) (hsv:∀cs,ov≠.sav cs)
   (hfree:∀b,ov.alive=true→(σ o).bind blk=some b→m b=none∧(E.w0.heap.size≤b∨E.mine b)∧∀(o':Nat) ov',st.objs[o']? =some ov'→ov'.alive=true→(σ o').bind blk≠some b):
   Fits E σ m ⟨st.tmps,st.objs.set o ov⟩ a w:=
 { sz := h.sz,tm:=h.tm,dfr:=h.dfr,mem:=h.mem,le:=h.le
   yld:=fun o' ho'=>by
     rcases Y0 ho' with⟨rfl,he,_⟩|⟨_,ho'⟩
     · exact absurd he.symm hy
     · exact h.yld o' ho'
   sav:=fun o' cs ho'=>by
     rcases Y0 ho' with⟨rfl,he,_⟩|⟨_,ho'⟩
     · exact absurd he.symm (hsv cs)
     · exact h.sav o' cs ho'
   objs:=fun o' ov' ho'=>by
     rcases Y0 ho' with⟨rfl,rfl,_⟩|⟨_,ho'⟩
     · exact h'
     · exact h.objs o' ov' ho'
   sep:=fun o' ov' b ho' ha hb=>by
     rcases Y0 ho' with⟨rfl,rfl,_⟩|⟨_,ho'⟩
     · exact⟨(hfree b ha hb).1,(hfree b ha hb).2.1⟩
     · exact h.sep o' ov' b ho' ha hb
   inj :=fun o1 o2 ov1 ov2 b h1 h2 a1 a2 b1 b2=>by
     rcases Y0 h1 with⟨e1,q1,_⟩|⟨n1,h1⟩
     · subst e1;rcases Y0 h2 with⟨e2,_,_⟩|⟨_,h2⟩
       · exact e2
       · rw [q1]at a1;exact absurd b2 ((hfree b a1 b1).2.2 o2 ov2 h2 a2)
     · rcases Y0 h2 with⟨e2,q2,_⟩|⟨_,h2⟩
       · subst e2;rw [q2]at a2;exact absurd b1 ((hfree b a2 b2).2.2 o1 ov1 h1 a1)
       · exact h.inj o1 o2 ov1 ov2 b h1 h2 a1 a2 b1 b2
   dom:=fun o' v hv=>by simpa using h.dom o' v hv
   grow:=h.grow,keep:=h.keep,old:=h.old,os:=h.os,tape:=h.tape,output:=h.output,drawn:=h.drawn}
end
end Go.Sx
