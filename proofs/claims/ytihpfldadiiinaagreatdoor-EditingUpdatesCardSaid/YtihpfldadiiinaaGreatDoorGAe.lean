/-
 Part 5 of the proof: the executor over the kit's code with its soundness, or contracts of functions.
-/
import Derived.Test.YtihpfldadiiinaaGreatDoorGAd
import Derived.Carry
import Derived.Handed
import Derived.SizedLaws
import Derived.ChangeArms
import Derived.ChangeSame
import Derived.LaidMore
import Derived.JoinedOf
set_option linter.unusedSimpArgs false
set_option linter.unusedVariables false
set_option linter.unusedSectionVars false
set_option linter.defProp false
set_option maxRecDepth 100000
namespace Go.Sx
open Go Go.RowKit
def Z43 (w:World):Mem:=fun b=>w.heap[b]?
theorem Zcl (w:World):MemOk (Z43 w) w:=fun _ _ h=>h
def lenK (P:Program) (n:Nat) (t:TypeId):Bool:=match Y8 P n t with
 |some ks=>decide (ks.length=P.cellsOf t)
 |none=>false
def Z99 (P:Program) (n:Nat):Nat→List Field→Bool
 |_,[]=>true
 |o,f::fs=>decide (f.offset=o)&&lenK P n f.type&&Z99 P n (o+P.cellsOf f.type) fs
def sumC (P:Program):List Field→Nat
 | []=>0
 |f::fs=>P.cellsOf f.type+sumC P fs
def Z0G (P:Program):Nat→TypeId→Bool
 |0,_=>false
 | n+1,t=>match P.underlying t with
   |some (.int _)=>true
   |some .bool=>true
   |some .string=>true
   |some (.slice e)=>Z0G P n e&&decide (1≤P.bytesOf e)&&decide (1≤P.cellsOf e)&&lenK P n e
   |some (.struct fs)=>fs.toList.all (fun f=>Z0G P n f.type)&&Z99 P n 0 fs.toList&&decide (sumC P fs.toList=P.cellsOf t)
   |_=>false
theorem Addr.add_none {a:Addr} (h:a.spot=none) (n:Nat):a.add n=⟨a.block,a.off+n,none⟩:=by
 obtain⟨b,o,s⟩:=a;simp only at h;subst h;unfold Addr.add;split
 · rename_i h;subst h;rfl
 · rfl
theorem Z9x {w:World} {a:Addr} {v:Value} (h:w.cell? a=some v):∃arr t fz,w.heap[a.block]? =some (.cells arr t fz)∧a.spot=none∧arr[a.off]? =some v:=by
 unfold World.cell? at h;split at h
 · rename_i c t fz hc;split at h
   · cases h
   · rename_i hs;exact⟨c,t,fz,hc,by simpa using hs,h⟩
 · cases h
theorem Z3A {X:Type} {p:Nat→X→Prop}:∀n:Nat,(∀i,i < n→∃x,p i x)→∃l:List X,l.length=n∧∀(i:Nat) x,l[i]? =some x→p i x
 |0,_=>⟨[],rfl,by simp⟩
 | n + 1,h=>by
   obtain⟨l,hl,hp⟩:=Z3A n fun i hi=>h i (by omega)
   obtain⟨x,hx⟩:=h n (by omega);refine⟨l++[x],by simp [hl],fun i y hy=>?_⟩;rcases Nat.lt_or_ge i n with hi|hi
   · rw [List.getElem?_append_left (by omega)]at hy;exact hp i y hy
   · rw [List.getElem?_append_right (by omega)]at hy;have:i - l.length=0:=by
       rcases Nat.eq_zero_or_pos (i - l.length)with h|h
       · exact h
       · rw [List.getElem?_eq_none (by simp;omega)]at hy;cases hy
     rw [this]at hy;have:i=n:=by omega
     subst this;simp at hy;subst hy;exact hx
theorem Z30 {H:Type} {P:Program} {e:TypeId}:∀ {ds:List (DataW H)} {d:DataW H},d∈ds→∀x∈d.weights P e,x∈DataW.weightsAll P e ds
 | [],_,h,_,_=>by cases h
 | d0::ds,d,h,x,hx=>by
   simp only [DataW.weightsAll,List.mem_append];rcases List.mem_cons.1 h with rfl|h
   · exact .inl hx
   · exact .inr (Z30 h x hx)
section
variable {H:Type} {enc:TypeId×Value→H} {P:Program} {w:World} {held:Bool}
def Z5U (w:World) (ks:List K) (cs:List Value):Prop:=∃ds:List D,HasKs ks ds∧ds.length=cs.length∧∀(i:Nat) e v,ds[i]? =some e→cs[i]? =some v→RepD (Z43 w) e v
theorem Z1c {k:K} {d:D} {v:Value} (h:HasK k d) (r:RepD (Z43 w) d v):Z5U w [k] [v]:=
 ⟨[d],⟨h,trivial⟩,rfl,fun i e u h1 h2=>by
   cases i with
   |zero=>simp at h1 h2;subst h1 h2;exact r
   |succ i=>simp at h1⟩
theorem Z4T {n:Nat} {cs:List Value} {fuel:Nat} (ih:∀(t:TypeId) ks cs d ps,Z0G P n t=true→Y8 P n t=some ks→DataW.trod enc P w 0 (fun _=>true) held fuel t cs=some (d,ps)→(∀x∈d.weights P t,x≤reachBytes)→Z5U w ks cs):
   ∀ (l:List Field) (o:Nat) (ys:List (DataW H×List MemPlace)) (kss:List (List K)),Z99 P n o l=true→l.mapM (fun f=>Y8 P n f.type)=some kss→(∀f∈l,Z0G P n f.type=true)→ys.length=l.length→
     (∀(i:Nat) (f:Field),l[i]? =some f→DataW.trod enc P w 0 (fun _=>true) held fuel f.type ((cs.drop f.offset).take (P.cellsOf f.type))=ys[i]?)→(∀x∈DataW.weightsEach P (l.map (·.type)) (ys.map (·.1)),x≤reachBytes)→
     ∃ds:List D,HasKs kss.flatten ds∧ds.length=sumC P l∧∀(i:Nat) e v,ds[i]? =some e→cs[o+i]? =some v→RepD (Z43 w) e v
 | [],o,ys,kss,_,hk,_,_,_,_=>by
   simp at hk;subst hk;exact⟨[],by simp [HasKs],rfl,by simp⟩
 |f::l,o,[],kss,_,_,_,hl,_,_=>by simp at hl
 | f ::l,o,y::ys,kss,ho,hk,hr,hl,ht,hw=>by
   simp only [Z99,Bool.and_eq_true,decide_eq_true_eq]at ho;obtain⟨⟨rfl,hlen⟩,ho⟩:=ho;rw [List.mapM_cons]at hk;simp only [Option.bind_eq_bind,Option.bind_eq_some_iff,Option.pure_def,Option.some.injEq]at hk;obtain⟨ks,hks,kss',hkss,rfl⟩:=hk;have h0:=ht 0 f rfl;simp only [List.getElem?_cons_zero]at h0;have hwt:∀x∈y.1.weights P f.type,x≤reachBytes:=fun x hx=>hw x (by simp only [List.map_cons,DataW.weightsEach,List.mem_append];exact .inl hx)
   obtain⟨d0,hd0,hl0,hr0⟩:=ih f.type ks _ y.1 y.2 (hr f (by simp)) hks h0 hwt;have hc:d0.length=P.cellsOf f.type:=by
     unfold lenK at hlen;rw [hks]at hlen;rw [hd0.length];simpa using hlen
   obtain⟨ds,hd,hdl,hdr⟩:=Z4T ih l (f.offset+P.cellsOf f.type) ys kss' ho hkss (fun g hg=>hr g (by simp [hg])) (by simpa using hl) (fun i g hg=>by have:=ht (i+1) g (by simpa using hg);simpa using this) (fun x hx=>hw x (by simp only [List.map_cons,DataW.weightsEach,List.mem_append];exact .inr hx));refine⟨d0++ds,by simpa using hd0.append hd,by simp [hc,hdl,sumC],fun i e v he hv=>?_⟩;rcases Nat.lt_or_ge i d0.length with hi|hi
   · rw [List.getElem?_append_left hi]at he;refine hr0 i e v he ?_;rw [List.getElem?_take,if_pos (by omega),List.getElem?_drop];exact hv
   · rw [List.getElem?_append_right hi]at he;refine hdr _ e v he ?_;rw [←hv];congr 1;omega
theorem YT:∀(n:Nat) {fuel:Nat} (t:TypeId) (ks:List K) (cs:List Value) (d:DataW H) (ps:List MemPlace),Z0G P n t=true→Y8 P n t=some ks→DataW.trod enc P w 0 (fun _=>true) held fuel t cs=some (d,ps)→
   (∀x∈d.weights P t,x≤reachBytes)→Z5U w ks cs
 |0,_,_,_,_,_,_,h,_,_,_=>by simp [Z0G]at h
 | n + 1,fuel,t,ks,cs,d,ps,hT,hK,hd,hw=>by
   unfold Z0G at hT;unfold Y8 at hK;cases hu:P.underlying t with
   |none=>rw [hu]at hT;cases hT
   | some u=>
     rw [hu]at hT hK;cases u with
     | int k=>
       simp only [Option.some.injEq]at hK;subst hK;obtain⟨m,rfl,hx,hwf⟩:=DataW.trod_int hu hd;simp only [Lit.wf,Bool.and_eq_true,decide_eq_true_eq]at hwf;exact Z1c (d:=.int k m) (by simp [HasK,hwf]) (.int _ _)
     | bool=>
       simp only [Option.some.injEq]at hK;subst hK;obtain⟨b,rfl,hx⟩:=DataW.trod_bool hu hd;exact Z1c (d:=.bool b) (by simp [HasK]) (.bool _)
     | string=>
       simp only [Option.some.injEq]at hK;subst hK;obtain⟨s,rfl,hx,_⟩:=DataW.trod_string hu hd;simp only [Prod.mk.injEq]at hx;obtain⟨rfl,rfl⟩:=hx;have hle:s.data.toList.length≤reachBytes:=hw _ (by simp [DataW.weights]);refine Z1c (d:=.str s.data.toList) (by simp [HasK]) ?_;have:=RepD.str (m:=Z43 w) s.data.toList (by simp only [reachBytes]at hle;simp only [cap];omega);simpa using this
     | slice e =>
       simp only [Bool.and_eq_true,decide_eq_true_eq]at hT;obtain⟨⟨⟨hTe,hb1⟩,hc1⟩,hlen⟩:=hT;simp only [Option.map_eq_some_iff]at hK;obtain⟨kse,hke,rfl⟩:=hK;have hce:kse.length=P.cellsOf e:=by unfold lenK at hlen;rw [hke]at hlen;simpa using hlen
       rcases DataW.trod_slice hu hd with⟨rfl,hx⟩|⟨a,len,cp,elems,rest,m,rfl,rfl,hx,_,hlc,_,hel,helem,_,_⟩
       · exact Z1c (d:=.slice []) (by simp [HasK]) (.empty _ _)
       · simp only [Prod.mk.injEq]at hx;obtain⟨rfl,rfl⟩:=hx;simp only [DataW.weights,hu]at hw;have hn:elems.length≤reachBytes:=by
           have h1:=hw _ (List.mem_cons_self ..);simp only [List.length_map]at h1;have h2:=Nat.mul_le_mul (Nat.le_add_right elems.length rest.length) hb1;omega
         have key:∀i,i < len→∃x:List D,HasKs kse x∧x.length=P.cellsOf e∧∀(j:Nat) dd v,x[j]? =some dd→w.cell? ((a.add (i * P.cellsOf e)).add j)=some v→j < P.cellsOf e→RepD (Z43 w) dd v:=by
           intro i hi;have h:=helem i hi;have hy:elems[i]? =some (elems[i]'(by omega)):=List.getElem?_eq_getElem (by omega);rw [hy]at h;simp only [Option.bind_eq_some_iff]at h;obtain⟨row,hrow,htr⟩:=h;obtain⟨_,hrl,hrc⟩:=World.cells?_some hrow;have hmem:(elems[i]'(by omega)).1∈elems.map (·.1):=List.mem_map.2 ⟨_,List.getElem_mem _,rfl⟩;obtain⟨x,hx1,hx2,hx3⟩:=YT n e kse row _ _ hTe hke htr (fun z hz=>hw z (by
             simp only [List.mem_cons,List.mem_append];exact .inr (.inl (Z30 hmem z hz))))
           exact⟨x,hx1,by omega,fun j dd v h1 h2 h3=>hx3 j dd v h1 (by rw [←hrc j h3];exact h2)⟩
         obtain⟨xs,hxl,hxs⟩:=Z3A len key;refine Z1c (d:=.slice xs) ?_ ?_
         · simp only [HasK];intro x hx;obtain⟨i,hi,rfl⟩:=List.mem_iff_getElem.1 hx;exact(hxs i _ (List.getElem?_eq_getElem hi)).1
         · rcases Nat.eq_zero_or_pos len with h0|hpos
           · subst h0;have:xs=[]:=List.length_eq_zero_iff.1 hxl;subst this;exact .empty _ _
           · have cellAt:∀i j,i < len→j < P.cellsOf e→∃v,w.cell? ((a.add (i * P.cellsOf e)).add j)=some v:=by
               intro i j hi hj;have h:=helem i hi;have hy:elems[i]? =some (elems[i]'(by omega)):=List.getElem?_eq_getElem (by omega);rw [hy]at h;simp only [Option.bind_eq_some_iff]at h;obtain⟨row,hrow,htr⟩:=h;obtain⟨_,hrl,hrc⟩:=World.cells?_some hrow;exact⟨row[j]'(by omega),by rw [hrc j hj];exact List.getElem?_eq_getElem (by omega)⟩
             obtain⟨v0,hv0⟩:=cellAt 0 0 hpos (by omega);have e0:(a.add (0 * P.cellsOf e)).add 0=a:=by simp [Addr.add]
             rw [e0]at hv0;obtain⟨arr,tt,fz,hblk,hspot,_⟩:=Z9x hv0;have ea:∀k,a.add k=⟨a.block,a.off+k,none⟩:=Addr.add_none hspot;have ec:∀i j,w.cell? ((a.add (i * P.cellsOf e)).add j)=arr[a.off+i * P.cellsOf e+j]?:=by
               intro i j;rw [ea,Addr.add_none rfl];unfold World.cell?;simp only [hblk];simp
             obtain⟨b,o,sp⟩:=a;simp only at hspot;subst hspot;obtain⟨l,rfl⟩:∃l,len=l+1:=⟨len - 1,by omega⟩
             obtain⟨c,hc⟩:∃c,P.cellsOf e=c+1:=⟨P.cellsOf e - 1,by omega⟩
             obtain⟨vl,hvl⟩:=cellAt l c (by omega) (by omega);rw [ec]at hvl;have hsz:=(Array.getElem?_eq_some_iff.1 hvl).1;rw [←hxl];refine .slice xs b o arr tt fz (P.cellsOf e) cp (by omega) ?_ hblk ?_ ?_ ?_
             · simp only [reachBytes]at hn;simp only [cap];omega
             · intro x hx;obtain⟨i,hi,rfl⟩:=List.mem_iff_getElem.1 hx;exact(hxs i _ (List.getElem?_eq_getElem hi)).2.1
             · rw [hxl,Nat.succ_mul];simp only at hsz;omega
             · intro i j x dd v hx hdd hv;obtain⟨g1,g2,g3⟩:=hxs i x hx;have hj:j < P.cellsOf e:=by rw [←g2];exact(List.getElem?_eq_some_iff.1 hdd).1
               exact g3 j dd v hdd (by rw [ec];exact hv) hj
     | struct fs=>
       simp only [Bool.and_eq_true,decide_eq_true_eq,List.all_eq_true]at hT;obtain⟨⟨hTf,hoff⟩,hsum⟩:=hT;simp only [Option.map_eq_some_iff]at hK;obtain⟨kss,hkss,rfl⟩:=hK;obtain⟨xs,m,rfl,hx,hcl,hxl,hxs⟩:=DataW.trod_struct hu hd;simp only [Prod.mk.injEq]at hx;obtain⟨rfl,rfl⟩:=hx;simp only [DataW.weights,hu]at hw;obtain⟨ds,h1,h2,h3⟩:=Z4T (cs:=cs) (fun t ks cs d ps=>YT n (fuel:=m) t ks cs d ps) fs.toList 0 xs kss hoff hkss hTf (by simpa using hxl) (fun i f hf=>hxs i f (by simpa using hf)) hw;exact⟨ds,h1,by omega,fun i e v he hv=>h3 i e v he (by simpa using hv)⟩
     |_=>cases hT
theorem Z5G {P:Program} {n:Nat} {t e:TypeId} {ks:List K} (hu:P.underlying t=some (.slice e)) (hk:Y8 P n e=some ks):Y8 P (n+1) t=some [.slice ks]:=by simp [Y8,hu,hk]
theorem Z44 {P:Program} {n:Nat} {t:TypeId} {fs:Array Field} {kss:List (List K)} (hu:P.underlying t=some (.struct fs)) (hk:fs.toList.mapM (fun f=>Y8 P n f.type)=some kss):Y8 P (n+1) t=some kss.flatten:=by simp [Y8,hu,hk]
theorem Zf0 {t:TypeId} {v:Value} {d:DataW H} {ps:List MemPlace} {base:Nat} (hT:Z0G P Wk t=true) (h:DataW.Trod enc P w 0 (fun _=>true) held t v d ps) (hok:Value.okWide P w .any base t v)
   (hw:∀x∈d.weights P t,x≤reachBytes):∃a:D,RepD (Z43 w) a v∧∀rk,rkOf P t=some rk→HasK rk.kind a:=by
 obtain⟨fuel,h⟩:=h;have hone:∀k,Y8 P Wk t=some [k]→Z2p P t=false→v.cells.toList=[v]→∃a:D,RepD (Z43 w) a v∧∀rk,rkOf P t=some rk→HasK rk.kind a:=by
   intro k hk hA hv;rw [hv]at h;obtain⟨ds,h1,h2,h3⟩:=YT Wk t [k] _ d ps hT hk h hw
   match ds,h1,h2,h3 with
   | [d0],h1,_,h3=>
     refine⟨d0,h3 0 d0 v rfl rfl,?_⟩;intro rk hrk;unfold rkOf at hrk;rw [hk,hA]at hrk;simp only [Bool.false_eq_true,if_false,Option.some.injEq]at hrk;subst hrk;simpa [RK.kind]using h1.1
 cases hu:P.underlying t with
 |none=>simp [Z0G,Wk,hu]at hT
 | some u=>
   cases u with
   | int k=>
     obtain⟨n,rfl⟩:=WideShapes.okWide_int hu hok;exact hone (.int k) (by show Y8 P (11+1) t=_;simp only [Y8,hu]) (by simp [Z2p,hu]) rfl
   | bool=>
     obtain⟨n,rfl⟩:=WideShapes.okWide_bool hu hok;exact hone (.bool) (by show Y8 P (11+1) t=_;simp only [Y8,hu]) (by simp [Z2p,hu]) rfl
   | string=>
     obtain⟨n,rfl⟩:=WideShapes.okWide_string hu hok;exact hone (.str) (by show Y8 P (11+1) t=_;simp only [Y8,hu]) (by simp [Z2p,hu]) rfl
   | slice e=>
     obtain⟨a,l,c,rfl⟩:=WideShapes.okWide_slice hu hok;have hT':=hT;rw [show Wk=11+1 from rfl]at hT';unfold Z0G at hT';rw [hu]at hT';simp only [Bool.and_eq_true]at hT';have hl:=hT'.2;unfold lenK at hl;cases hk:Y8 P 11 e with
     |none=>rw [hk]at hl;cases hl
     |some ks=>exact hone (.slice ks) (Z5G (n:=11) hu hk) (by simp [Z2p,hu]) rfl
   | struct fs=>
     obtain⟨cs,rfl,_⟩:=WideShapes.okWide_struct hu hok;cases hk:Y8 P Wk t with
     | none=>
       refine⟨.agg [],?_,fun rk hrk=>by unfold rkOf at hrk;rw [hk]at hrk;cases hrk⟩;exfalso;revert hk;have hT':=hT;rw [show Wk=11+1 from rfl]at hT';unfold Z0G at hT';rw [hu]at hT';simp only [Bool.and_eq_true]at hT';have:∀(l:List Field) (o:Nat),Z99 P 11 o l=true→∃kss,l.mapM (fun f=>Y8 P 11 f.type)=some kss:=by
         intro l;induction l with
         |nil=>intro _ _;exact⟨[],rfl⟩
         | cons f l ihl=>
           intro o hl;simp only [Z99,Bool.and_eq_true]at hl;have hf:=hl.1.2;unfold lenK at hf;cases hks:Y8 P 11 f.type with
           |none=>rw [hks]at hf;cases hf
           | some ks=>
             obtain⟨kss,hkss⟩:=ihl _ hl.2;exact⟨ks::kss,by simp [List.mapM_cons,hks,hkss]⟩
       obtain⟨kss,hkss⟩:=this fs.toList 0 hT'.1.2;rw [show Wk=11+1 from rfl,Z44 hu hkss];intro h;cases h
     | some ks=>
       obtain⟨ds,h1,h2,h3⟩:=YT Wk t ks _ d ps hT hk h hw;refine⟨.agg ds,.agg ds cs (by simpa [Value.cells]using h2.symm) (fun i e u he hu=>h3 i e u he (by simpa [Value.cells]using hu)),?_⟩;intro rk hrk;unfold rkOf at hrk;rw [hk,show Z2p P t=true by simp [Z2p,hu]]at hrk;simp only [if_true,Option.some.injEq]at hrk;subst hrk;simpa [RK.kind,HasK]using h1
   |_=>simp [Z0G,Wk,hu]at hT
theorem Z8i:∀(ts:List TypeId) (vs:List Value) (ds:List (DataW H)) (ps:List MemPlace) (base:Nat),(∀t∈ts,Z0G P Wk t=true)→DataW.TrodAll enc P w 0 (fun _=>true) held ts vs ds ps→
   (∀(j:Nat) t v,ts[j]? =some t→vs[j]? =some v→Value.okWide P w .any base t v)→(∀x∈DataW.weightsEach P ts ds,x≤reachBytes)→
   ∃as_:List D,vs.length=as_.length∧YM P ts as_∧∀(i:Nat) a v,as_[i]? =some a→vs[i]? =some v→RepD (Z43 w) a v
 | [],[],[],ps,base,_,h,_,_=>⟨[],rfl,trivial,by simp⟩
 | t ::ts,v::vs,d::ds,ps,base,hT,h,hok,hw=>by
   obtain⟨p,q,h1,h2,rfl⟩:=h;obtain⟨a,ha,hka⟩:=Zf0 (hT t (by simp)) h1 (hok 0 t v rfl rfl) (fun x hx=>hw x (by simp only [DataW.weightsEach,List.mem_append];exact .inl hx));obtain⟨as_,g1,g2,g3⟩:=Z8i ts vs ds q base (fun t' h=>hT t' (by simp [h])) h2 (fun j t' v' g g'=>hok (j+1) t' v' (by simpa using g) (by simpa using g')) (fun x hx=>hw x (by simp only [DataW.weightsEach,List.mem_append];exact .inr hx));exact⟨a::as_,by simp [g1],⟨hka,g2⟩,fun i b u hb hu=>by
     cases i with
     |zero=>simp at hb hu;subst hb hu;exact ha
     |succ i=>exact g3 i b u (by simpa using hb) (by simpa using hu)⟩
 | [],_::_,_,_,_,_,h,_,_=>by simp [DataW.TrodAll]at h
 | [],[],_::_,_,_,_,h,_,_=>by simp [DataW.TrodAll]at h
 |_::_,[],_,_,_,_,h,_,_=>by simp [DataW.TrodAll]at h
 |_::_,_::_,[],_,_,_,h,_,_=>by simp [DataW.TrodAll]at h
theorem Z0X (hl:laidOutB P=true) {W W':World} (hb:Below W.heap.size W W'):∀(ts:List TypeId) (vs:List Value) (ds:List (DataW H)) (ps:List MemPlace),(∀t∈ts,P.readableRec t=true∧t < P.types.size)→
   DataW.TrodAll enc P W 0 (fun _=>true) true ts vs ds ps→(∀x∈ps,x.block < W.heap.size)→DataW.TrodAll enc P W' 0 (fun b=>decide (b < W.heap.size)) true ts vs ds ps
 | [],[],[],_,_,h,_=>h
 | t::ts,v::vs,d::ds,_,hr,⟨p,q,h1,h2,e⟩,hlt=>
   ⟨p,q,Below.trod hl (hr t (by simp)).1 (hr t (by simp)).2 h1 hb fun x hx=>hlt x (by rw [e];simp [hx]),Z0X hl hb ts vs ds q (fun t' h=>hr t' (by simp [h])) h2 fun x hx=>hlt x (by rw [e];simp [hx]),e⟩
 | [],_::_,_,_,_,h,_=>by simp [DataW.TrodAll]at h
 | [],[],_::_,_,_,h,_=>by simp [DataW.TrodAll]at h
 |_::_,[],_,_,_,h,_=>by simp [DataW.TrodAll]at h
 |_::_,_::_,[],_,_,h,_=>by simp [DataW.TrodAll]at h
end
def Z81 (P:Program) (f:FuncId):Spec:=fun args K=>(∃fn,P.funcs[f]? =some fn∧args.length=fn.params.size∧YM P fn.params.toList args)∧K [.d (.bool true)]
theorem Zfg {P:Program} {f:FuncId} {args:List D} {K:List RV→Prop} (rks:List RK) (h:(P.funcs[f]?).map (fun fn=>fn.params.toList.map (rkOf P))=some (rks.map some)) (hs:Z81 P f args K):
   args.length=rks.length∧(∀(i:Nat) rk d,rks[i]? =some rk→args[i]? =some d→HasK rk.kind d)∧K [.d (.bool true)]:=by
 obtain⟨⟨fn,h1,h2,h3⟩,hK⟩:=hs;rw [h1]at h;simp only [Option.map_some,Option.some.injEq]at h;have key:∀(ts:List TypeId) (as_:List D) (rks:List RK),ts.map (rkOf P)=rks.map some→YM P ts as_→∀(i:Nat) rk d,rks[i]? =some rk→as_[i]? =some d→HasK rk.kind d:=by
   intro ts;induction ts with
   |nil=>intro as_ rks h _ i rk d h1 _;cases rks <;> simp at h h1
   | cons t ts ih=>
     intro as_ rks h ht i rk d h1 h2;cases rks with
     |nil=>simp at h
     | cons r rks=>
       cases as_ with
       |nil=>simp at h2
       | cons a as_=>
         simp only [List.map_cons,List.cons.injEq]at h;cases i with
         |zero=>simp at h1 h2;subst h1 h2;exact ht.1 _ h.1
         |succ i=>exact ih as_ rks h.2 ht.2 i rk d (by simpa using h1) (by simpa using h2)
 refine⟨?_,key _ _ _ h h3,hK⟩;have:=congrArg List.length h;simp at this;omega
theorem law_returns {C:Checked} {os:Os} {f:FuncId} {fn:Func} {s:ChangeSpec} {H:Type} {enc:TypeId×Value→H} {fresh handsOn:Bool} {X:World→Array Value→Prop} {t:TypeId}
   (hX:∀(w w':World) (args:Array Value),w.heap=w'.heap→X w args→X w' args) (own:ownKnob C.prog.godebug=none) (started:os.Started) (noInit:C.prog.inits.idxOf? f=none) (hfn:C.prog.funcs[f]? =some fn)
   (witness:∃(w:World) (tape:Tape) (i:Input),w.os=os∧(w.forCall tape i).Shaped C.prog∧i.vars=[]∧Input.okWide C.prog (w.forCall tape i) .any w.heap.size f i∧
     ((s.pre enc C.prog fn [] false (w.forCall tape i).memory i.args∧X (w.forCall tape i).memory i.args)∧sizedMet enc C.prog fn (OpenSpec.ofChange s) false (w.forCall tape i).memory i.args)∧(Assume.holds {} C.prog (lone (Frame.enter C.prog f i.args .normal) [] (w.forCall tape i))))
   (hvars:s.vars=[]) (hs:∀ds:List (DataW H),ds.length=fn.params.size→(s.fn H ds).results=[.lit (.bool true)]∧(s.fn H ds).args=ds∧(s.fn H ds).vars=[])
   (hlaid:laidOutB C.prog=true) (hread:(fn.params.toList.all fun t=>Z0G C.prog Wk t&&C.prog.readableRec t&&decide (t < C.prog.types.size))=true)
   (hres:fn.resultTypes= #[t]) (ht:C.prog.underlying t=some .bool)
   (hlaw:Contract C.prog f (Z81 C.prog f)):
   ReturnsInHanded {} C os f .any (fun w args=>(s.pre enc C.prog fn [] false w args∧X w args)∧sizedMet enc C.prog fn (OpenSpec.ofChange s) false w args) (s.post enc C.prog fn false fresh handsOn false):=by
 refine returnsInHanded_of_change_and (C:=C) hX own started noInit hfn witness ?_;intro W base args ds gs before hval hW _ hsz _ _;have hW':=hW;have hlt:=hW.lt;obtain⟨p,q,hA,hV,rfl,hfz,hnd⟩:=hW;rw [hvars]at hV;obtain⟨rfl,rfl⟩:gs=[]∧q=[]:=by
   cases gs with
   |nil=>exact⟨rfl,hV⟩
   |cons g r=>exact absurd hV (by intro h;cases h)
 have hplain:s.plain.varTypes C.prog=[]:=by
   simp [DataSpec.varTypes,ChangeSpec.plain,hvars]
 have hp:∀t∈fn.params.toList,Z0G C.prog Wk t=true∧C.prog.readableRec t=true∧t < C.prog.types.size:=by
   intro t ht;have:=List.all_eq_true.1 hread t ht;simp only [Bool.and_eq_true,decide_eq_true_eq]at this;exact⟨this.1.1,this.1.2,this.2⟩
 obtain⟨as_,g1,g2,g3⟩:=Z8i fn.params.toList args.toList ds p base (fun t h=>(hp t h).1) hA (fun j t v h1 h2=>hval j t v (by simpa using h1) (by simpa using h2)) (by
   rw [hplain]at hsz;simp only [List.append_nil]at hsz;intro x hx;simpa using List.all_eq_true.1 hsz x hx)
 have hty:Zr C.prog f as_:=fun fn' hfn'=>by
   obtain rfl:=Option.some.inj (hfn.symm.trans hfn');exact g2
 have hsize:args.size=fn.params.size:=by
   have:∀(ts:List TypeId) (vs:List Value) (ds:List (DataW H)) ps,DataW.TrodAll enc C.prog W 0 (fun _=>true) true ts vs ds ps→vs.length=ts.length:=by
     intro ts;induction ts with
     |nil=>intro vs ds ps h;cases vs <;> cases ds <;> simp_all [DataW.TrodAll]
     | cons t ts ih=>
       intro vs ds ps h;cases vs <;> cases ds <;> simp only [DataW.TrodAll]at h
       obtain⟨p,q,_,h2,_⟩:=h;simp [ih _ _ _ h2]
   simpa using this _ _ _ _ hA
 have hlen:ds.length=fn.params.size:=by
   have:∀(ts:List TypeId) (vs:List Value) (ds:List (DataW H)) ps,DataW.TrodAll enc C.prog W 0 (fun _=>true) true ts vs ds ps→ds.length=ts.length:=by
     intro ts;induction ts with
     |nil=>intro vs ds ps h;cases vs <;> cases ds <;> simp_all [DataW.TrodAll]
     | cons t ts ih=>
       intro vs ds ps h;cases vs <;> cases ds <;> simp only [DataW.TrodAll]at h
       obtain⟨p,q,_,h2,_⟩:=h;simp [ih _ _ _ h2]
   simpa using this _ _ _ _ hA
 refine(hlaw.2 as_ (fun rs=>rs=[.d (.bool true)]) ⟨⟨fn,hfn,by have:=g1;simp at this;have h9:=this;rw [←h9];exact hsize,g2⟩,rfl⟩ hty W (Z43 W) args (Zcl W) (by simpa using g1) (fun i d v h1 h2=>g3 i d v h1 (by simpa using h2))).mono ?_;rintro e W' ⟨rs,v,m',rfl,_,rfl,⟨us,rfl,hr⟩,_,_,_,hb⟩;have hl:us.length=1:=hr.len
 match us,hl with
 | [u],_=>
   have:=hr.rep 0 _ _ rfl rfl;cases this with
   | d h=>
     cases h;obtain⟨e1,e2,e3⟩:=hs ds hlen;have hpv:Z2A [Value.bool true]=.bool true:=rfl;refine⟨_,rfl,ds,[],_,[],p,[],hW',?_,?_,?_,hb.frame _,fun h=>by cases h⟩
     · rw [List.append_nil,e1,hres,hpv];exact ChangeShapes.trodAll_mk1 (shut_bool ht true)
     · rw [List.append_nil,e2];exact Z0X hlaid hb.toBelow _ _ _ _ (fun t h=>(hp t h).2) hA (fun x hx=>hlt x (by simp [hx]))
     · rw [List.append_nil,e3,hvars];rfl
end Go.Sx
