/-
 Part 4 of the proof: the executor over the kit's code with its soundness, or contracts of functions.
-/
import Derived.Test.YtihpfldadiiinaaGreatDoorGAc
set_option linter.unusedSimpArgs false
set_option linter.unusedVariables false
set_option linter.unusedSectionVars false
set_option linter.defProp false
set_option maxRecDepth 100000
namespace Go.Sx
open Go Go.RowKit
def Yf (fn:FuncId) (a:Act) (ps:Array Tmp) (assign body:Code) (d:Nat) (s:LoopState) (pe:Option Code):Loop:= {state:=s,pending:=pe,fn:=fn,tmps:=a.tmps,params:=ps,assign:=assign,body:=body,defers:=d}
structure RoundEnd (E:Env) (F:Option Nat→List RV→Prop) (Kd:Ags→List D→XExit→XS→Prop) (fn:FuncId) (ps:Array Tmp) (assign body:Code) (a:Act) (l d:Nat) (O:Nat→Prop) (m:Mem) (W:World) (ρ:List D) (ks:List K) (head:XS) (inv:Option Nat→List D→Prop) (m':Mem) (W':World) (b:Bool):Prop where
 le:m.le m'
 com:ItCom l d O m' W'
 mem:MemOk m' W'
 size:W.heap.size≤W'.heap.size
 os:W'.os=W.os
 tape:W'.tape=W.tape
 output:W'.output=W.output
 drawn:W.drawn≤W'.drawn
 same:∀k,O k→k < W.heap.size→W'.heap[k]? =W.heap[k]?∧m' k=m k
 on:b=true→W'.heap[l]? =some (.loop (Yf fn a ps assign body d .ready none))∧∃B' σ' ags' ys',ItIn E (ρ++ys') head.st a l d O m' W' σ' B'∧Good (E.re B') ags'∧HasKs ks ys'∧inv ags'.cnt ys'
 off:b=false→∃(jump:Code) (e:XExit),W'.heap[l]? =some (.loop (Yf fn a ps assign body d .done (some jump)))∧((jump=.ret∧e=.ret)∨∃id,jump=.exit id∧e=.exit id)∧
   ∃B' ags' ρ' xs' σ',ItIn E ρ' xs'.st a l d O m' W' σ' B'∧Good (E.re B') ags'∧XOk ρ' xs'∧Z1f xs'.st.objs=true∧Kd ags' ρ' e xs'
section
variable {E:Env} {F:Option Nat→List RV→Prop} {md:Mode}
theorem ZbV {assign body:Code} {pk:List PK} {ps:Array Tmp} {Kd:Ags→List D→XExit→XS→Prop} {ags:Ags} {head:XS} {ρ ys fx:List D} {ks:List K} {σ:Names} {B:Base} {m:Mem} {a:Act} {W:World} {l d lvl n0:Nat} {O:Nat→Prop} {fn:FuncId} {x:List D} {vs:Array Value}
   (sA:∀ {E':Env} {Kd:Ags→List D→XExit→XS→Prop} {ags:Ags} {xs:XS} {ρ:List D} {σ:Names} {m:Mem} {a:Act} {w:World},Z1z E' md→(E'.Y.on=false→E'.Y.exp=[])→Good E' ags→
     Fits E' σ m (W0 ρ xs.st) a w→XOk ρ xs→denR E'.P F Kd (sx E'.P md false assign xs) ags ρ→assign.wpIn (fen E'.r) 0 E'.P (Post E' Kd) a w)
   (sB:∀ {E':Env} {Kd:Ags→List D→XExit→XS→Prop} {ags:Ags} {xs:XS} {ρ:List D} {σ:Names} {m:Mem} {a:Act} {w:World},Z1z E' md→(E'.Y.on=false→E'.Y.exp=[])→Good E' ags→
     Fits E' σ m (W0 ρ xs.st) a w→XOk ρ xs→denR E'.P F Kd (sx E'.P md false body xs) ags ρ→body.wpIn (fen E'.r) 0 E'.P (Post E' Kd) a w)
   (hI:Z1z E md) (hsav:E.sav=a.tmps) (hon:E.Y.on=false→E.Y.exp=[]) (hmk:∀D,mark D∈a.defers→D < d)
   (hl:W.heap[l]? =some (.loop (Yf fn a ps assign body d .ready none))) (hcom:ItCom l d O m W) (hin:ItIn E (ρ++ys) head.st a l d O m W σ B) (hG:Good (E.re B) ags)
   (hn0:ρ.length=n0) (hys:HasKs ks ys) (hnv:head.nv=n0+ks.length) (hxok:head.st.Ok (ρ++ys)) (hns:Z1f head.st.objs=true)
   (hpl:pk.all PK.plain=true) (hpn:pk.length=ps.toList.length) (hpx:Jr pk x=some fx) (hfx:HasKs (Y1 pk) fx) (hvs:vs.size=x.length) (hrep:∀(i:Nat) d v,x[i]? =some d→vs[i]? =some v→RepD m d v)
   (hlvl:(Z1H (sx E.P md false assign) (sx E.P md false body) ps.toList pk head).lvlOk (lvl+1)=true)
   (h:denR E.P F Kd ((Z1H (sx E.P md false assign) (sx E.P md false body) ps.toList pk head).bind (Wp n0 lvl ks head)) ags (ρ++ys++fx)):
   YieldAt Fence.wide 0 E.P l vs W fun e W'=>∃b m',e=.returned (.bool b)∧RoundEnd E F Kd fn ps assign body a l d O m W ρ ks head (ags.inv lvl) m' W' b:=by
 have hxl:x.length=pk.length:=by
   have:∀ {pk:List PK} {x fx:List D},Jr pk x=some fx→x.length=pk.length:=by
     intro pk;induction pk with
     |nil=>intro x fx h;cases x with|nil=>rfl|cons _ _=>simp [Jr]at h
     | cons k pk ih=>
       intro x fx h;cases x with
       |nil=>cases k <;> simp [Jr]at h
       | cons d x=>
         cases k with
         |any=>simp only [Jr]at h;simp [ih h]
         |cell k=>simp only [Jr,Option.map_eq_some_iff]at h;obtain⟨f,h,_⟩:=h;simp [ih h]
         | agg ks=>
           cases d <;> simp only [Jr]at h <;> try (cases h;done)
           split at h <;> try contradiction
           simp only [Option.map_eq_some_iff]at h;obtain⟨f,h,_⟩:=h;simp [ih h]
         |box ks=>simp [Jr]at h
         | own ks=>
           cases d <;> simp only [Jr]at h <;> try (cases h;done)
           simp only [Option.map_eq_some_iff]at h;obtain⟨f,h,_⟩:=h;simp [ih h]
   exact this hpx
 have hsz:vs.size=ps.size:=by rw [hvs,hxl,hpn];simp
 have hy:=run_yield (P:=E.P) (args:=vs) hl hsz;refine⟨_,_,_,_,hy,roundIn_of_wpIn (F:=Fence.wide) (n:=0) trivial ?_⟩;have hlt:l < W.heap.size:=(Array.getElem?_eq_some_iff.1 hl).1;have hdt:d < W.heap.size:=(Array.getElem?_eq_some_iff.1 hcom.hd).1;have hf':Fits (E.re B) σ m (W0 (ρ++ys++fx) head.st) a W:=by rw [Jw hxok];exact hin.fits
 have hnN:=hf'.newObj (v0:=.tuple a.tmps) (ov:=.sav (W0 (ρ++ys++fx) head.st).tmps)
   (.sav (J1 _ _ _) hf'.sz (fun i c v a b=>(hf'.tm i c v a b).mono (Names.le_add hf'.dom (Nat.le_refl _) _) (Mem.le_refl m))) (fun b hb=>by simp [blk]at hb) (by simp) (fun cs _=>by rw [show(E.re B).sav=E.sav from rfl,hsav])
 have hle1:=Names.le_add hf'.dom (Nat.le_refl _) (.tuple a.tmps);obtain⟨pl,pr,po⟩:=JO (σ:=σ.add (W0 (ρ++ys++fx) head.st).objs.length (.tuple a.tmps)) (m:=m) (ρ0:=ρ++ys) (more:=[]) (vs:=vs.toList) (n:=head.nv) (o:=0) hpl hpx hfx (by rw [List.length_append,hn0,hnv,hys.length]) (by simpa using hvs)
   (fun i d v h1 h2=>hrep i d v h1 (by simpa using h2))
 rw [List.append_nil]at pr po;obtain⟨b1,b2,b3⟩:=Z77 (σ:=σ.add (W0 (ρ++ys++fx) head.st).objs.length (.tuple a.tmps)) (m:=m) (ρ:=ρ++ys++fx) (ps:=ps.toList) (svs:=Z2 head.nv 0 pk) (vs:=vs.toList) (l:=head.st.tmps) (arr:=a.tmps)
   (by have:=hf'.sz;simpa [W0,St.map]using this) (by rw [Wt];exact hpn) (by simpa using hsz)
   (fun i s v h1 h2=>(hf'.tm i _ v (by simp [W0,St.map,h1]) h2).mono hle1 (Mem.le_refl m)) pr (fun s hs=>(hxok.tmps s hs).ext fx) po
 generalize hσ1:σ.add (W0 (ρ++ys++fx) head.st).objs.length (.tuple a.tmps)=σ1 at *;have hfold:(ps.zip vs).foldl (fun tmps (t,a)=>tmps.setIfInBounds t a) a.tmps=(ps.toList.zip vs.toList).foldl (fun t (x:Tmp×Value)=>t.setIfInBounds x.1 x.2) a.tmps:=by
   rw [←Array.foldl_toList,Array.toList_zip]
 simp only [Yf];rw [hfold];generalize hbd:(ps.toList.zip vs.toList).foldl (fun t (x:Tmp×Value)=>t.setIfInBounds x.1 x.2) a.tmps=bound at *;have hfr:Fits (E.re B) σ1 m (W0 (ρ++ys++fx) ⟨ZY ps.toList (Z2 head.nv 0 pk) head.st.tmps,head.st.objs++[.sav head.st.tmps]⟩) {tmps:=bound,defers:=[]} W:=by
   have:=hnN.frame (ts:=(ZY ps.toList (Z2 head.nv 0 pk) head.st.tmps).map (SV.map (denL (ρ++ys++fx)))) (a':= {tmps:=bound,defers:=[]}) (by simpa using b1)
     (fun i s v h1 h2=>by
       simp only [List.getElem?_map,Option.map_eq_some_iff]at h1;obtain⟨s',h1,rfl⟩:=h1;exact b2 i s' v h1 h2) (Marks.nil _ _ _)
   simpa [W0,St.map,OV.map]using this
 generalize hstr:(⟨ZY ps.toList (Z2 head.nv 0 pk) head.st.tmps,head.st.objs++[.sav head.st.tmps]⟩:St TK)=str at hfr;have hstrObjs:str.objs=head.st.objs++[.sav head.st.tmps]:=by rw [←hstr]
 have hxA:XOk (ρ++ys++fx) {st:=str,nv:=head.nv+(Y1 pk).length,nl:=head.nl}:=by
   refine⟨⟨?_,?_⟩,?_⟩
   · simp only [←hstr];exact b3
   · intro o ho;simp only [hstrObjs]at ho;rcases List.mem_append.1 ho with ho|ho
     · exact(hxok.objs o ho).ext fx
     · simp at ho;subst ho;exact .sav fun c hc=>(hxok.tmps c hc).ext fx
   · simp only [List.length_append,hn0,hys.length,hfx.length,hnv]
 have aliveStr:∀b,WY σ1 (W0 (ρ++ys++fx) str) b→WY σ (W0 (ρ++ys) head.st) b:=by
   rintro b ⟨o,ov,g1,g2,g3⟩;simp only [W0,St.map,List.getElem?_map,Option.map_eq_some_iff,hstrObjs]at g1;obtain⟨ov',g1,rfl⟩:=g1;rw [List.getElem?_append]at g1;split at g1
   · rename_i ho;refine⟨o,ov'.map (denL (ρ++ys++fx)),?_,g2,?_⟩
     · have:(W0 (ρ++ys++fx) head.st).objs[o]? =some (ov'.map (denL (ρ++ys++fx))):=by simp [W0,St.map,g1]
       rw [Jw hxok]at this;exact this
     · rw [←hσ1]at g3;simp only [Names.add,Z6]at g3;rw [if_neg (by omega)]at g3;exact g3
   · rename_i ho;exfalso;cases hq:o - head.st.objs.length with
     |zero=>rw [hq]at g1;simp at g1;rw [←g1]at g2;simp [OV.map,OV.alive]at g2
     |succ q=>rw [hq]at g1;simp at g1
 have quiet:∀b,(O b∨b=l∨b=d∨mark b∈a.defers)→b < W.heap.size∧¬hold σ1 (W0 (ρ++ys++fx) str) {tmps:=bound,defers:=[]} b∧((E.re B).w0.heap.size≤b∨(E.re B).mine b):=by
   intro b hb;have nh:¬WY σ1 (W0 (ρ++ys++fx) str) b→¬hold σ1 (W0 (ρ++ys++fx) str) {tmps:=bound,defers:=[]} b:=fun h1 h2=>h2.elim h1 (by simp)
   have ncell:∀(o:Obj),W.heap[b]? =some o→holds o=false→¬WY σ1 (W0 (ρ++ys++fx) str) b:=by
     intro o ho hc ha;obtain⟨_,_,_,ob,hcells,hho⟩:=ZJ hin.fits (aliveStr b ha);rw [ho]at hcells;cases hcells;rw [hc]at hho;cases hho
   rcases hb with hb|rfl|rfl|hb
   · exact⟨(hcom.O b hb).2.2,nh fun h=>hin.apart b (aliveStr b h) hb,hin.mine b (.inl hb)⟩
   · exact⟨hlt,nh (ncell _ hl rfl),hin.mine b (.inr (.inl rfl))⟩
   · exact⟨hdt,nh (ncell _ hcom.hd rfl),hin.mine b (.inr (.inr rfl))⟩
   · obtain⟨g1,g2,g3⟩:=YU hin.fits hb;exact⟨(Array.getElem?_eq_some_iff.1 g1).1,nh (ncell _ g1 rfl),g3⟩
 rw [Wj]at h;have hk:=Z3J (n:=lvl+1) _ _ _ hlvl h;unfold Z1H at hk;rw [Wj,Wj,hstr]at hk;have hGr:Good (E.re B) ags:=hG;have wpA:=sA (E':=(E.re B).sub σ1 m (W0 (ρ++ys++fx) str) {tmps:=bound,defers:=[]} W (some l)) hI hon (hGr.sub_env hfr (some l)) (hfr.sub (some l)) hxA hk;refine wpIn_mono wpA ?_;intro e a1 w1 hp;cases e with
 |goto t=>exact hp.elim
 |panic ch=>exact hp.elim
 |outgrown=>exact hp.elim
 |exit i=>obtain⟨_,_,_,_,_,_,_,_,hf0,_⟩:=hp;simp [denR]at hf0
 |ret=>obtain⟨_,_,_,_,_,_,_,_,hf0,_⟩:=hp;simp [denR]at hf0
 |normal=>
 obtain⟨Ba,agsa,ρa,y,σa,ma,hToa,hGa,hka,hfa,hxa⟩:=hp;obtain⟨B2,hTo2,hG2,hf2,hs2⟩:=Z2J hfr hGr hToa hGa hfa;have q2:∀b,(O b∨b=l∨b=d∨mark b∈a.defers)→w1.heap[b]? =W.heap[b]?∧ma b=m b:=fun b hb=>by
   obtain⟨g1,g2,g3⟩:=quiet b hb;exact hs2.same b g1 g2 (.inl (Z2P hGr hfr g1 g3))
 have hl1:w1.heap[l]? =some (.loop (Yf fn a ps assign body d .ready none)):=by rw [(q2 l (.inr (.inl rfl))).1];exact hl
 have hml1:ma l=none:=by rw [(q2 l (.inr (.inl rfl))).2];exact hcom.ml
 refine⟨_,run_beginRound hl1 rfl,?_⟩;have hlb:(w1.putObj l (.loop {Yf fn a ps assign body d .ready none with state:=.busy})).heap[l]? =some (.loop (Yf fn a ps assign body d .busy none)):=World.putObj_heap_same (Array.getElem?_eq_some_iff.1 hl1).1;have hfb:Fits ((E.re B).re B2) σa ma (W0 ρa y.st) a1 (w1.putObj l (.loop {Yf fn a ps assign body d .ready none with state:=.busy})):=
   hf2.turn hl1 rfl hml1 (hs2.mine l hlt (hin.mine l (.inr (.inl rfl)))) (fun D hD e=>by
     subst e;have:=(YU hf2 hD).1;rw [hl1]at this;cases this)
 generalize hwb:w1.putObj l (.loop {Yf fn a ps assign body d .ready none with state:=.busy})=wb at *;have hwbsz:wb.heap.size=w1.heap.size:=by rw [←hwb];simp
 have hwbo:∀b,b≠l→wb.heap[b]? =w1.heap[b]?:=fun b hb=>by rw [←hwb];exact World.putObj_heap_other hb
 have wpB:=sB (E':=((E.re B).re B2).sub σa ma (W0 ρa y.st) a1 wb (some l)) hI hon (hG2.sub_env hfb (some l)) (hfb.sub (some l)) hxa hka;have fin:∀(xe:XExit) (a3:Act) (w3:World),Ends (((E.re B).re B2).sub σa ma (W0 ρa y.st) a1 wb (some l)) (fun ags' ρ' e' x'=>denR E.P F
       (fun ags' ρ' e xs=>denR E.P F Kd (Wp n0 lvl ks head e xs) ags' ρ'∧(∀l,l < lvl+1→ags'.inv l=ags.inv l)∧∃more,ρ'=ρ++ys++fx++more) (Z5k head.st.objs.length e' x') ags' ρ') xe a3 w3→
     ∃ B3 ags3 ρ3 x3 σ3 m3,w3.heap[l]? =some (.loop (Yf fn a ps assign body d .busy none))∧m.le m3∧(E.re B).To B3∧Good (E.re B3) ags3∧Fits (E.re B3) σ3 m3 (W0 ρ3 x3.st) a w3∧XOk ρ3 x3∧Z1f x3.st.objs=true∧
       denR E.P F Kd (Wp n0 lvl ks head xe x3) ags3 ρ3∧(∀l,l < lvl+1→ags3.inv l=ags.inv l)∧(∃more,ρ3=ρ++ys++fx++more)∧W.heap.size≤w3.heap.size∧w3.os=W.os∧w3.tape=W.tape∧w3.output=W.output∧W.drawn≤w3.drawn∧
       (∀b,(O b∨b=d∨mark b∈a.defers)→w3.heap[b]? =W.heap[b]?)∧(∀b,(O b∨b=l∨b=d∨mark b∈a.defers)→m3 b=m b∧(B3.w0.heap.size≤b∨B3.mine b))∧(∀b,WY σ3 (W0 ρ3 x3.st) b→¬O b):=by
   intro xe a3 w3 hp;obtain⟨Bb,agsb,ρb,z,σb,mb,hTob,hGb,hkb,hfb',hxb⟩:=hp;obtain⟨B3,hTo3,hG3,hf3,hs3⟩:=Z2J hfb hG2 hTob hGb hfb';have q3lt:∀b,(O b∨b=l∨b=d∨mark b∈a.defers)→b < wb.heap.size:=fun b hb=>by
     have:=(quiet b hb).1;have:=hs2.size;omega
   have q3nh:∀b,(O b∨b=l∨b=d∨mark b∈a.defers)→¬hold σa (W0 ρa y.st) a1 b:=fun b hb hh=>by
     obtain⟨g1,g2,_⟩:=quiet b hb;exact g2 (hs2.alive b g1 hh)
   have q3m:∀b,(O b∨b=l∨b=d∨mark b∈a.defers)→((E.re B).re B2).w0.heap.size≤b∨((E.re B).re B2).mine b:=fun b hb=>hs2.mine b (quiet b hb).1 (quiet b hb).2.2
   have q3:∀b,(O b∨b=l∨b=d∨mark b∈a.defers)→w3.heap[b]? =wb.heap[b]?∧mb b=ma b:=fun b hb=>hs3.same b (q3lt b hb) (q3nh b hb) (.inl (Z2P hG2 hfb (q3lt b hb) (q3m b hb)))
   have neq:∀b,(O b∨b=d∨mark b∈a.defers)→b≠l:=by
     rintro b hb rfl;rcases hb with hb|rfl|hb
     · have:=(hcom.O b hb).1;omega
     · have:=hcom.hd;rw [hl]at this;cases this
     · have:=(YU hin.fits hb).1;rw [hl]at this;cases this
   unfold Z5k at hkb;split at hkb
   · rename_i cs hcs;split at hkb
     · rename_i hns3;simp only [denR]at hkb;obtain⟨hkd,hinv,hmore⟩:=hkb;have hobj:=hf3.objs head.st.objs.length (.sav (cs.map (SV.map (denL ρb)))) (by simp [W0,St.map,hcs,OV.map]);have hnm:=hf3.sav head.st.objs.length (cs.map (SV.map (denL ρb))) (by simp [W0,St.map,hcs,OV.map]);have hnm':σb head.st.objs.length=some (.tuple a.tmps):=by rw [hnm];show some (Value.tuple E.sav)=_;rw [hsav]
       generalize hmcs:cs.map (SV.map (denL ρb))=mcs at hobj;have hfr3:Fits (E.re B3) σb mb (W0 ρb ⟨cs,z.st.objs⟩) a w3:=by
         cases hobj with
         |sav hs hsz3 hv3=>
         rw [hnm']at hs;simp only [Option.some.injEq,Value.tuple.injEq]at hs;subst hs;have:=hf3.frame (ts:=mcs) (a':=a) hsz3 hv3 (by
           obtain⟨Ds,d1,d2,d3⟩:=hin.fits.dfr;refine⟨Ds,d1,d2,fun D hD=>?_⟩;have hmD:mark D∈a.defers:=by rw [d1];exact List.mem_map_of_mem hD
           obtain⟨g1,g2,g3⟩:=d3 D hD;have hQ:O D∨D=l∨D=d∨mark D∈a.defers:=.inr (.inr (.inr hmD));have hne:=neq D (.inr (.inr hmD));refine⟨?_,?_,?_⟩
           · rw [(q3 D hQ).1,hwbo D hne,(q2 D hQ).1];exact g1
           · rw [(q3 D hQ).2,(q2 D hQ).2];exact g2
           · exact hs3.mine D (q3lt D hQ) (q3m D hQ))
         rw [←hmcs]at this;exact this
       have hfd:Fits (E.re B3) σb mb (W0 ρb ⟨cs,z.st.objs.set head.st.objs.length .dead⟩) a w3:=by
         rw [Ye (st:=⟨cs,z.st.objs⟩)];exact hfr3.kill head.st.objs.length
       have hkcs:∀c∈cs,SV.Ok ρb c:=by
         have:=hxb.all.objs _ (List.mem_of_getElem? hcs);cases this;assumption
       refine⟨B3,agsb,ρb,{z with st:= {tmps:=cs,objs:=z.st.objs.set head.st.objs.length .dead}},σb,mb,?_,Mem.le_trans hs2.le hs3.le,hTo2.trans hTo3,hG3,hfd,⟨⟨hkcs,?_⟩,hxb.nv⟩,hns3,hkd,hinv,hmore,?_,?_,?_,?_,?_,?_,?_,?_⟩
       · rw [(q3 l (.inr (.inl rfl))).1];exact hlb
       · intro o ho;rcases List.mem_or_eq_of_mem_set ho with ho|rfl
         · exact hxb.all.objs o ho
         · exact .dead
       · have:=hs2.size;have:=hs3.size;omega
       · rw [hs3.os, ←hwb];exact hs2.os
       · rw [hs3.tape, ←hwb];exact hs2.tape
       · rw [hs3.output, ←hwb];exact hs2.output
       · refine Nat.le_trans hs2.drawn (Nat.le_trans ?_ hs3.drawn);rw [←hwb];exact Nat.le_refl _
       · intro b hb;have hQ:O b∨b=l∨b=d∨mark b∈a.defers:=hb.elim .inl fun h=>.inr (.inr h)
         rw [(q3 b hQ).1,hwbo b (neq b hb),(q2 b hQ).1]
       · intro b hb;exact⟨by rw [(q3 b hb).2,(q2 b hb).2],hs3.mine b (q3lt b hb) (q3m b hb)⟩
       · intro b hb hO;have h1:WY σb (W0 ρb z.st) b:=by
           obtain⟨o,ov,g1,g2,g3⟩:=hb;rw [Ye (st:=⟨cs,z.st.objs⟩)]at g1;simp only at g1;rcases Y0 g1 with⟨_,rfl,_⟩|⟨_,g1⟩
           · simp [OV.map,OV.alive]at g2
           · exact⟨o,ov,g1,g2,g3⟩
         have hQ:O b∨b=l∨b=d∨mark b∈a.defers:=.inl hO;exact q3nh b hQ (hs3.alive b (q3lt b hQ) (.inl h1))
     · simp [denR]at hkb
   · simp [denR]at hkb
 refine wpIn_mono wpB ?_;intro e a3 w3 hp;have turn:∀ {B3:Base} {σ3:Names} {m3:Mem} {ρ3:List D} {x3:XS} {jump:Option Code},w3.heap[l]? =some (.loop (Yf fn a ps assign body d .busy none))→Fits (E.re B3) σ3 m3 (W0 ρ3 x3.st) a w3→
     (∀b,(O b∨b=l∨b=d∨mark b∈a.defers)→m3 b=m b∧(B3.w0.heap.size≤b∨B3.mine b))→
     (Instr.endRound l jump).run E.P w3=.ok (.bool jump.isNone) (w3.putObj l (.loop (Yf fn a ps assign body d (if jump.isNone then .ready else .done) jump)))∧
     Fits (E.re B3) σ3 m3 (W0 ρ3 x3.st) a (w3.putObj l (.loop (Yf fn a ps assign body d (if jump.isNone then .ready else .done) jump)))∧
     (w3.putObj l (.loop (Yf fn a ps assign body d (if jump.isNone then .ready else .done) jump))).heap[l]? =some (.loop (Yf fn a ps assign body d (if jump.isNone then .ready else .done) jump)):=by
   intro B3 σ3 m3 ρ3 x3 jump hb hf3 hm3;have hr:=run_endRound (P:=E.P) jump hb;refine⟨hr,hf3.turn hb rfl (by rw [(hm3 l (.inr (.inl rfl))).1];exact hcom.ml) (hm3 l (.inr (.inl rfl))).2 (fun D hD e=>?_),World.putObj_heap_same (Array.getElem?_eq_some_iff.1 hb).1⟩;subst e;have:=(YU hin.fits hD).1;rw [hl]at this;cases this
 have neq:∀b,(O b∨b=d∨mark b∈a.defers)→b≠l:=by
   rintro b hb rfl;rcases hb with hb|rfl|hb
   · have:=(hcom.O b hb).1;omega
   · have:=hcom.hd;rw [hl]at this;cases this
   · have:=(YU hin.fits hb).1;rw [hl]at this;cases this
 have leave:∀(xe:XExit) (jump:Code),((jump=.ret∧xe=.ret)∨∃id,jump=.exit id∧xe=.exit id)→Ends (((E.re B).re B2).sub σa ma (W0 ρa y.st) a1 wb (some l)) (fun ags' ρ' e' x'=>denR E.P F
       (fun ags' ρ' e xs=>denR E.P F Kd (Wp n0 lvl ks head e xs) ags' ρ'∧(∀l,l < lvl+1→ags'.inv l=ags.inv l)∧∃more,ρ'=ρ++ys++fx++more) (Z5k head.st.objs.length e' x') ags' ρ') xe a3 w3→
     ∃v w',(Instr.endRound l (some jump)).run E.P w3=.ok v w'∧∃b m',(Ending.returned v)=.returned (.bool b)∧RoundEnd E F Kd fn ps assign body a l d O m W ρ ks head (ags.inv lvl) m' w' b:=by
   intro xe jump hj hp;obtain⟨B3,ags3,ρ3,x3,σ3,m3,f1,f2,f3,f4,f5,f6,f7,f8,f9,f10,f11,f12,f13,f14,fdr,f15,f16,f17⟩:=fin xe a3 w3 hp;obtain⟨r1,r2,r3⟩:=turn (jump:=some jump) f1 f5 f16;refine⟨_,_,r1,false,m3,rfl,⟨f2,⟨fun b hb=>?_,?_,?_,?_⟩,r2.mem,by simpa using f11,f12,f13,f14,fdr,fun k hk hks=>?_,by simp,fun _=>⟨jump,xe,r3,hj,B3,ags3,ρ3,x3,σ3,⟨hin.to.trans f3,r2,?_,?_⟩,f4,f6,f7,?_⟩⟩⟩
   · have:=hcom.O b hb;exact⟨this.1,this.2.1,by simp;omega⟩
   · rw [(f16 l (.inr (.inl rfl))).1];exact hcom.ml
   · rw [(f16 d (.inr (.inr (.inl rfl)))).1];exact hcom.md
   · rw [World.putObj_heap_other (neq d (.inr (.inl rfl))),f15 d (.inr (.inl rfl))];exact hcom.hd
   · exact⟨by rw [World.putObj_heap_other (neq k (.inl hk)),f15 k (.inl hk)],(f16 k (.inl hk)).1⟩
   · exact f17
   · rintro b (hb|hb|hb)
     · exact(f16 b (.inl hb)).2
     · exact(f16 b (.inr (.inl hb))).2
     · exact(f16 b (.inr (.inr (.inl hb)))).2
   · rcases hj with⟨_,rfl⟩|⟨id,_,rfl⟩ <;> simpa [Wp,denR]using f8
 cases e with
 |goto t=>exact hp.elim
 |panic ch=>exact hp.elim
 |outgrown=>exact hp.elim
 |exit i=>exact leave (.exit i) (.exit i) (.inr ⟨i,rfl,rfl⟩) hp
 |ret=>exact leave .ret .ret (.inl ⟨rfl,rfl⟩) hp
 | normal=>
   obtain⟨B3,ags3,ρ3,x3,σ3,m3,f1,f2,f3,f4,f5,f6,f7,f8,f9,⟨more,f10⟩,f11,f12,f13,f14,fdr,f15,f16,f17⟩:=fin .norm a3 w3 hp;obtain⟨r1,r2,r3⟩:=turn (jump:=none) f1 f5 f16;generalize hw4:w3.putObj l (.loop (Yf fn a ps assign body d (if(none:Option Code).isNone then .ready else .done) none))=w4 at *;have hw4o:∀b,b≠l→w4.heap[b]? =w3.heap[b]?:=fun b hb=>by rw [←hw4];exact World.putObj_heap_other hb
   have hw4s:w4.heap.size=w3.heap.size:=by rw [←hw4];simp
   simp only [Wp]at f8;split at f8
   · rename_i ts hts;simp only [denR]at f8;rw [f9 lvl (by omega)]at f8;subst f10;have e3:ρ++ys++fx++more=ρ++(ys++fx++more):=by simp
     rw [e3]at f8 r2 f6 f17;obtain⟨⟨σ4,m4,g1,g2⟩,g3,_⟩:=Z4H (ρ0:=ρ) (more:=ys++fx++more) (r2.sub none) f6.all hn0 hts;obtain⟨B4,hTo4,hG4,hf4,hs4⟩:=Z2J r2 f4 (Env.to_self _) (f4.sub_env r2 none) g1;have nh4:∀b,(O b∨b=l∨b=d)→¬hold σ3 (W0 (ρ++(ys++fx++more)) x3.st) a b:=by
       rintro b hb (hh|hh)
       · rcases hb with hb|rfl|rfl
         · exact f17 b hh hb
         · obtain⟨_,_,_,ob,hc,hho⟩:=ZJ r2 hh;rw [r3]at hc;cases hc;cases hho
         · obtain⟨_,_,_,ob,hc,hho⟩:=ZJ r2 hh;rw [hw4o b (neq b (.inr (.inl rfl))),f15 b (.inr (.inl rfl)),hcom.hd]at hc;cases hc;cases hho
       · have h1:=hmk b hh;rcases hb with hb|rfl|rfl
         · have:=(hcom.O b hb).2.1;omega
         · have:=(YU hin.fits hh).1;rw [hl]at this;cases this
         · omega
     have lt4:∀b,(O b∨b=l∨b=d)→b < w4.heap.size:=fun b hb=>by
       have:b < W.heap.size:=by
         rcases hb with hb|rfl|rfl
         · exact(hcom.O b hb).2.2
         · exact hlt
         · exact hdt
       omega
     have m4q:∀b,(O b∨b=l∨b=d)→m4 b=m b∧(B4.w0.heap.size≤b∨B4.mine b):=fun b hb=>by
       have hQ:O b∨b=l∨b=d∨mark b∈a.defers:=hb.elim .inl fun h=>.inr (h.elim .inl fun h=>.inr (.inl h))
       obtain⟨k1,k2⟩:=f16 b hQ;have:=hs4.same b (lt4 b hb) (nh4 b hb) (.inl (Z2P f4 r2 (lt4 b hb) k2));exact⟨by rw [this.2];exact k1,hs4.mine b (lt4 b hb) k2⟩
     refine⟨_,_,r1,true,m4,rfl,⟨Mem.le_trans f2 g2,⟨fun b hb=>?_,?_,?_,?_⟩,hf4.mem,by omega,by rw [←hw4];exact f12,by rw [←hw4];exact f13,by rw [←hw4];exact f14,by rw [←hw4];exact fdr,fun k hk hks=>?_,
       fun _=>⟨r3,B4,σ4,ags3,ts.map (den (ρ++(ys++fx++more))),⟨(hin.to.trans f3).trans hTo4,hf4,?_,fun b hb=>(m4q b hb).2⟩,hG4,g3,f8⟩,by simp⟩⟩
     · have:=hcom.O b hb;exact⟨this.1,this.2.1,by omega⟩
     · rw [(m4q l (.inr (.inl rfl))).1];exact hcom.ml
     · rw [(m4q d (.inr (.inr rfl))).1];exact hcom.md
     · rw [hw4o d (neq d (.inr (.inl rfl))),f15 d (.inr (.inl rfl))];exact hcom.hd
     · exact⟨by rw [hw4o k (neq k (.inl hk)),f15 k (.inl hk)],(m4q k (.inl hk)).1⟩
     · intro b hb hO;exact nh4 b (.inl hO) (hs4.alive b (lt4 b (.inl hO)) (.inl hb))
   · simp [denR]at f8
end
theorem Z5i {P:Program} {w:World} {a:Act} {g:Operand} {l:Nat} {f:FuncId} {arr:Array Value} (hv:a.eval g=.func (.func f) #[] arr) (hcl:J2 P f=true):
   ∃d,(resolve a.eval (rangeCall g l) 0).run P w=.ok d w∧(invoke d.target d.args).run P w=.ok (.enter f (#[.func (.yield l) #[] #[]]++arr)) w:=by
 unfold J2 at hcl;split at hcl <;> try contradiction
 rename_i fn hfn;simp only [Bool.and_eq_true,Bool.not_eq_true',Option.isSome_iff_exists]at hcl;obtain⟨⟨body,hb⟩,hname⟩:=hcl;have h1:fn.name≠ "runtime.NumGoroutine" :=by simpa using hname
 have:=show(callFunc f (#[.func (.yield l) #[] #[]]++arr)).run P w=.ok (.enter f (#[.func (.yield l) #[] #[]]++arr)) w from by simp [callFunc,hfn,h1,hb]
 refine⟨⟨.fn (.func f) arr, #[.func (.yield l) #[] #[]]⟩,?_,?_⟩
 · simp only [resolve,hv];simp [Deferred.ofValue,Act.eval]
 · simp [invoke,this]
section
variable {E:Env} {F:Option Nat→List RV→Prop} {md:Mode}
theorem Zfj {g:Operand} {assign body:Code} {pk:List PK} {ps:Array Tmp} {Kd:Ags→List D→XExit→XS→Prop} {ags:Ags} {xs:XS} {ρ:List D} {σ:Names} {m:Mem} {a:Act} {w:World} {t:T}
   (sA:∀ {E':Env} {Kd:Ags→List D→XExit→XS→Prop} {ags:Ags} {xs:XS} {ρ:List D} {σ:Names} {m:Mem} {a:Act} {w:World},Z1z E' md→(E'.Y.on=false→E'.Y.exp=[])→Good E' ags→
     Fits E' σ m (W0 ρ xs.st) a w→XOk ρ xs→denR E'.P F Kd (sx E'.P md false assign xs) ags ρ→assign.wpIn (fen E'.r) 0 E'.P (Post E' Kd) a w)
   (sB:∀ {E':Env} {Kd:Ags→List D→XExit→XS→Prop} {ags:Ags} {xs:XS} {ρ:List D} {σ:Names} {m:Mem} {a:Act} {w:World},Z1z E' md→(E'.Y.on=false→E'.Y.exp=[])→Good E' ags→
     Fits E' σ m (W0 ρ xs.st) a w→XOk ρ xs→denR E'.P F Kd (sx E'.P md false body xs) ags ρ→body.wpIn (fen E'.r) 0 E'.P (Post E' Kd) a w)
   (hI:Z1z E md) (hr:E.r=none) (hon:E.Y.on=false→E.Y.exp=[]) (hY:Good E ags) (hf:Fits E σ m (W0 ρ xs.st) a w) (hx:XOk ρ xs) (hg:thaw xs.st.objs (look xs.st g)=.d ⟨t,.fn⟩)
   (h:denR E.P F Kd (Z9V (sx E.P md false assign) (sx E.P md false body) t ps.toList pk xs) ags ρ):(Code.rangeFunc g ps assign body).wpIn (fen E.r) 0 E.P (Post E Kd) a w:=by
 simp only [Z9V]at h;generalize hfh:Z1r (Z1H (sx E.P md false assign) (sx E.P md false body) ps.toList pk) xs 4 ((Z1H (sx E.P md false assign) (sx E.P md false body) ps.toList pk xs).norms)=hd at h;obtain⟨head,ks⟩:=hd;simp only at h;split at h
 · simp [denR]at h
 rename_i inits hini;split at h;rotate_left
 · simp [denR]at h
 rename_i hcond;obtain⟨hnv,hlvl,hpl,hpn,hns,hnh⟩:=hcond;simp only [denR]at h;obtain⟨zs,Inv,hit,hzs,hinv0,hround,hdone⟩:=h;obtain⟨rs1,ok1⟩:=Y5 hf hx.all (g:=none) (by simp) g;simp only [Y4]at rs1 ok1;rw [hg]at rs1 ok1;have lk:LOk ρ ⟨t,.fn⟩:=by cases ok1;assumption
 obtain⟨f,caps,arr,hden,hval,hasz,hcap⟩:=YQ rs1 lk;rw [hden]at hit;obtain⟨hcl,hit⟩:=hit;have hf0:Fits {E with sav:=a.tmps} σ m (W0 ρ xs.st) a w:=hf.resav hns {E with sav:=a.tmps} rfl rfl;have hfm:Fits {E with sav:=a.tmps} σ m (W0 (ρ++[]) xs.st) a w:=by simpa using hf0
 obtain⟨⟨σ1,m1,hf1,hle1⟩,hks,hxok⟩:=Z4H (ρ0:=ρ) (more:=[]) hfm (by simpa using hx.all) hx.nv hini;simp only [List.append_nil]at hf1 hks
 let d:=w.heap.size
 let l:=w.heap.size+1
 refine wpIn_rangeFunc fun fn _=>?_
 obtain⟨dd,hres,hinv⟩:=Z5i (P:=E.P) (w:=(w.alloc (.deferred (some []))).alloc (.loop (Yf fn a ps assign body d .ready none))) (l:=l) hval hcl;refine⟨l,[mark d],_,dd,_,f,_,_,?_,hres,fun _ _=>(by simp [fen,Fence.wide]),hinv,by simp [fen,Fence.wide],Z1w ?_⟩
 · rw [show(fen E.r).round=none from by rw [hr];rfl];exact run_enterLoop_outer _ _ _ _ _
 generalize hW1:(w.alloc (.deferred (some []))).alloc (.loop (Yf fn a ps assign body d .ready none))=W1;have hW1s:W1.heap.size=w.heap.size+2:=by rw [←hW1];simp
 have hW1l:W1.heap[l]? =some (.loop (Yf fn a ps assign body d .ready none)):=by
   rw [←hW1];have h1:(w.alloc (.deferred (some []))).heap.size=l:=by simp [l]
   rw [←h1];exact World.alloc_heap_new _ _
 have hW1d:W1.heap[d]? =some (.deferred (some [])):=by
   rw [←hW1,Go.heap_alloc_old _ _ (by simp [d])];exact World.alloc_heap_new _ _
 have hf2:Fits {E with sav:=a.tmps} σ1 m1 (W0 (ρ++inits.map (den ρ)) head.st) a W1:=by
   rw [←hW1];exact(hf1.world (Grown.alloc w _) (by simp)).world (Grown.alloc _ _) (by simp)
 have hfresh:∀b,w.heap.size≤b→m1 b=none:=fun b hb=>by
   cases h:m1 b with
   |none=>rfl
   | some o=>
     have:=hf1.mem b o h;have:=(Array.getElem?_eq_some_iff.1 this).1;omega
 have hmk:∀D,mark D∈a.defers→D < d:=fun D hD=>(Array.getElem?_eq_some_iff.1 (YU hf hD).1).1
 let J :Option Nat→(Nat→Prop)→Mem→World→Prop:=fun c O m W=>ItCom l d O m W∧MemOk m W∧match c with
   |some i=>W.heap[l]? =some (.loop (Yf fn a ps assign body d .ready none))∧∃B cc ys σ,ItIn {E with sav:=a.tmps} (ρ++ys) head.st a l d O m W σ B∧Good (({E with sav:=a.tmps}:Env).re B) (ags.wc cc)∧HasKs ks ys∧Inv i cc ys
   |none=>∃(jump:Code) (e:XExit),W.heap[l]? =some (.loop (Yf fn a ps assign body d .done (some jump)))∧((jump=.ret∧e=.ret)∨∃id,jump=.exit id∧e=.exit id)∧
       ∃B ags' ρ' xs' σ,ItIn {E with sav:=a.tmps} ρ' xs'.st a l d O m W σ B∧Good (({E with sav:=a.tmps}:Env).re B) ags'∧XOk ρ' xs'∧Z1f xs'.st.objs=true∧Kd ags' ρ' e xs'
 have hGs:∀ {B:Base} {ags1 ags2:Ags},ags2.lim=ags.lim→ags1.cnt=ags2.cnt→ags1.exp=ags2.exp→Good (({E with sav:=a.tmps}:Env).re B) ags1→Good (({E with sav:=a.tmps}:Env).re B) ags2:=fun h0 h1 h2 hG=>⟨hG.yok,fun ho=>by rw [←h1];exact hG.j ho,by rw [←h2];exact hG.exp,hG.sub,by rw [h0];exact hY.lim⟩
 have hYO:YOk E.P ⟨true,l,zs,J⟩:=by
   refine⟨?_,?_⟩
   · intro c O O' m m' W W' hJ h1 h2 h3 h4 h5 hdr h6 h7 h8 h9;obtain⟨hc,hm,hJ⟩:=hJ;have nl:¬O l:=fun hO=>by have:=(hc.O l hO).1;omega
     cases c with
     | some i=>
       obtain⟨hl,B,cc,ys,σ',hin,hG,hk,hi⟩:=hJ;have hll:=(Array.getElem?_eq_some_iff.1 hl).1;exact⟨hc.step hll h1 h2 h7 h9,h8,by rw [h1 l hll nl];exact hl,B,cc,ys,σ',hin.step hc hll hmk h1 h2 h3 h4 h5 hdr h6 h7 h8 h9,hG,hk,hi⟩
     | none=>
       obtain⟨jump,e,hl,hj,B,ags',ρ',xs',σ',hin,hG,hk,hi⟩:=hJ;have hll:=(Array.getElem?_eq_some_iff.1 hl).1;exact⟨hc.step hll h1 h2 h7 h9,h8,jump,e,by rw [h1 l hll nl];exact hl,hj,B,ags',ρ',xs',σ',hin.step hc hll hmk h1 h2 h3 h4 h5 hdr h6 h7 h8 h9,hG,hk,hi⟩
   · intro c x O m W vs hJ hm hxe hvs hrep;obtain⟨hc,_,hl,B,cc,ys,σ',hin,hG,hk,hi⟩:=hJ;obtain⟨fx,hpx,hfx⟩:=hzs x (List.mem_of_getElem? hxe);have hb:=hround c x fx cc ys hxe hpx hfx hk hi;have hG2:=hGs (ags1:=ags.wc cc) (ags2:=Jh (ags.wc cc) xs.nl fun c' zs=>Inv (c+1) c' zs) rfl rfl rfl hG;refine(ZbV (E:= {E with sav:=a.tmps}) (F:=F) (md:=md) (Kd:=Kd) (lvl:=xs.nl) (n0:=xs.nv) (fn:=fn) sA sB hI rfl hon hmk hl hc hin hG2 hx.nv hk hnv (hxok ys hk) hnh hpl (by simpa using hpn) hpx hfx hvs hrep hlvl hb).mono ?_;rintro e W' ⟨b,m',rfl,R⟩;refine⟨b,m',rfl,⟨R.com,R.mem,?_⟩,R.mem,R.le,R.same,R.size,R.os,R.tape,R.output,R.drawn⟩;cases b with
     | true=>
       obtain⟨r1,B',σ2,ags',ys',r2,r3,r4,r5⟩:=R.on rfl;refine⟨r1,B',ags'.cnt,ys',σ2,r2,hGs (ags1:=ags') rfl rfl (r3.exp.trans hG.exp.symm) r3,r4,?_⟩;simpa [Jh]using r5
     |false=>exact R.off rfl
 refine(hit l J W1 m1 arr (fun n O m W hJ=>by obtain⟨_,_,_,_,cc,ys,_,_,_,_,hi⟩:=hJ;exact⟨cc,ys,hi⟩) hYO ?_ hf2.mem hasz (fun i d v a b=>(hcap i d v a b).mono hle1)).mono ?_
 · exact⟨⟨fun b hb=>hb.elim,hfresh l (by omega),hfresh d (Nat.le_refl _),hW1d⟩,hf2.mem,hW1l,E.toBase,ags.cnt,_,σ1,⟨Env.to_self {E with sav:=a.tmps},hf2,fun b _ h=>h,fun b hb=>.inl (by
     have:=hf.grow;rcases hb with hb|rfl|rfl
     · exact hb.elim
     · show E.w0.heap.size≤w.heap.size+1;omega
     · exact this)⟩,hGs (ags1:=ags) rfl rfl rfl ⟨hY.yok,hY.j,hY.exp,hY.sub,hY.lim⟩,hks,hinv0⟩
 · rintro e w' ⟨⟨v,rfl⟩,O,m',c,hJ,hc⟩;obtain⟨hcom,hm',hJ⟩:=hJ;have back:∀ {B:Base} {ρ':List D} {xs':XS} {σ':Names} {s:LoopState} {pe:Option Code},s≠.busy→w'.heap[l]? =some (.loop (Yf fn a ps assign body d s pe))→ItIn {E with sav:=a.tmps} ρ' xs'.st a l d O m' w' σ' B→Z1f xs'.st.objs=true→
       (Instr.endLoop l).run E.P w'=.ok pe (w'.putObj l (.loop (Yf fn a ps assign body d .exhausted pe)))∧Fits (E.re B) σ' m' (W0 ρ' xs'.st) {a with defers:=[mark d]++a.defers} (w'.putObj l (.loop (Yf fn a ps assign body d .exhausted pe))):=by
     intro B ρ' xs' σ' s pe hs hl hin hn;refine⟨run_endLoop hl hs,?_⟩;have hld:d≠l:=by show w.heap.size≠w.heap.size+1;omega
     have ht:=hin.fits.turn (o':=.loop (Yf fn a ps assign body d .exhausted pe)) hl rfl hcom.ml (hin.mine l (.inr (.inl rfl))) (fun D hD e=>by
       have:=hmk D hD;subst e;have:w.heap.size+1 < w.heap.size:=this;omega)
     have hfr:=ht.frame (a':= {a with defers:=[mark d]++a.defers}) ht.sz ht.tm (by
       obtain⟨Ds,d1,d2,d3⟩:=ht.dfr;refine⟨d::Ds,by simp [d1],List.nodup_cons.2 ⟨fun hD=>?_,d2⟩,fun D hD=>?_⟩
       · have:=hmk d (by rw [d1];exact List.mem_map_of_mem hD);omega
       · rcases List.mem_cons.1 hD with rfl|hD
         · exact⟨by rw [World.putObj_heap_other hld];exact hcom.hd,hcom.md,hin.mine _ (.inr (.inr rfl))⟩
         · exact d3 D hD)
     exact Fits.resav (E:=({E with sav:=a.tmps}:Env).re B) hfr hn (E.re B) rfl rfl
   have toE:∀ {B:Base},({E with sav:=a.tmps}:Env).To B→E.To B:=fun h=>⟨h.off,h.size,h.os,h.tape,h.output,h.drawn,h.le,h.mine,h.own,h.keep⟩
   have goodE:∀ {B:Base} {ags:Ags},Good (({E with sav:=a.tmps}:Env).re B) ags→Good (E.re B) ags:=fun h=>⟨h.yok,h.j,h.exp,h.sub,h.lim⟩
   rcases hc with rfl|rfl
   · obtain⟨jump,e,hl,hj,B,ags',ρ',xs',σ',hin,hG,hx',hn',hK⟩:=hJ;obtain⟨q1,q2⟩:=back (by simp) hl hin hn';refine⟨_,_,q1,?_⟩;rcases hj with⟨rfl,rfl⟩|⟨id,rfl,rfl⟩
     · exact wpIn_ret ⟨B,ags',ρ',xs',σ',m',toE hin.to,goodE hG,hK,q2,hx'⟩
     · exact wpIn_exit ⟨B,ags',ρ',xs',σ',m',toE hin.to,goodE hG,hK,q2,hx'⟩
   · obtain⟨hl,B,cc,ys,σ',hin,hG,hk,hi⟩:=hJ;obtain⟨q1,q2⟩:=back (xs':=head) (by simp) hl hin hnh;refine⟨_,_,q1,?_⟩;exact⟨B,ags.wc cc,ρ++ys,head,σ',m',toE hin.to,goodE hG,hdone cc ys hk hi,q2,⟨hxok ys hk,by rw [List.length_append,hx.nv,hnv,hk.length]⟩⟩
end
theorem Z2Z {G:Fence} {n:Nat} {P:Program} {Q:Exit→Act→World→Prop} {a:Act} {w:World} {c:Code} (I:Nat→Act→World→Prop) (n₀:Nat) (h₀:I n₀ a w)
   (round:∀k a w,I k a w→c.wpIn G n P (Exit.then (fun a' w'=>∃n',n' < k∧I n' a' w') Q) a w):(Code.loop c).wpIn G n P Q a w:=by
 refine wpIn_loop (fun a w=>∃n,I n a w) (fun a w=>leastOf (fun n=>I n a w)) ⟨n₀,h₀⟩ ?_;intro a w hI;refine wpIn_mono (round _ a w (leastOf_spec hI).1) ?_;intro e a' w' hq;cases e with
 | normal=>
   obtain⟨n',hlt,hI'⟩:=hq;exact show(∃n,I n a' w')∧leastOf (fun n=>I n a' w') < leastOf (fun n=>I n a w)from⟨⟨n',hI'⟩,Nat.lt_of_le_of_lt ((leastOf_spec ⟨n',hI'⟩).2 n' hI') hlt⟩
 |exit id=>exact hq
 |goto l=>exact hq
 |ret=>exact hq
 |panic ch=>exact hq
 |outgrown=>exact hq
theorem Yx {P:Program} {b:Frame} {a:Act} {k:List Item} {cs:List Frame} {w:World} {c:Code}:step P (lone (b.atR a (.code (.scope c)::k)) cs w)=.next (lone (b.atR a (.code c::.inScope c::k)) cs w):=
 step_lone_go (by simp [stepG,stepG.exec,Frame.atR])
theorem Z5c {P:Program} {b:Frame} {a:Act} {k:List Item} {cs:List Frame} {w:World} {c:Code}:step P (lone (b.atR a (.inScope c::k)) cs w)=.next (lone (b.atR a k) cs w):=
 step_lone_go (by simp [stepG,stepG.exec,Frame.atR])
theorem Z8G {F:Fence} {n:Nat} {P:Program} {Q:Exit→Act→World→Prop} {a:Act} {w:World} {c:Code} (hQ:∀l a w,¬Q (.goto l) a w) (h:c.wpIn F n P Q a w):(Code.scope c).wpIn F n P Q a w:=by
 intro b k cs hro hb hr;have h0:(lone (b.atR a (.code (.scope c)::k)) cs w).fenced P F:=fenced_calm hb hr rfl;obtain⟨e,a₁,w₁,hq,harr⟩:=h b (.inScope c::k) cs hro hb hr;cases e with
 |normal=>exact⟨.normal,a₁,w₁,hq,.head h0 Yx (StepsIn.trans harr (.one (fenced_calm hb hr rfl) Z5c))⟩
 | exit id=>
   have hx:exitTo id (.inScope c::k)=exitTo id k:=by simp [exitTo]
   exact⟨_,a₁,w₁,hq,fun k' hk=>.head h0 Yx (harr.1 k' (by rw [hx];exact hk)),
     fun hr' hk=>let⟨k₁,h1,h2⟩:=harr.2 hr' (by rw [hx];exact hk);⟨k₁,h1,.head h0 Yx h2⟩⟩
 |goto l=>exact(hQ _ _ _ hq).elim
 |ret=>exact⟨_,a₁,w₁,hq,.of_steps (.one h0 Yx) harr⟩
 |panic ch=>exact⟨_,a₁,w₁,hq,.of_steps (.one h0 Yx) harr⟩
 |outgrown=>exact⟨_,a₁,w₁,hq,.of_steps (.one h0 Yx) harr⟩
section
variable {F:Option Nat→List RV→Prop} {md:Mode}
theorem sx_ok:∀(c:Code) {top:Bool} {E:Env} {Kd:Ags→List D→XExit→XS→Prop} {ags:Ags} {xs:XS} {ρ:List D} {σ:Names} {m:Mem} {a:Act} {w:World},Z1z E md→(top=true→E.r=none)→(E.Y.on=false→E.Y.exp=[])→Good E ags→
   Fits E σ m (W0 ρ xs.st) a w→XOk ρ xs→denR E.P F Kd (sx E.P md top c xs) ags ρ→c.wpIn (fen E.r) 0 E.P (Post E Kd) a w:=by
 intro c;induction c with
 |skip=>intro top E Kd ags xs ρ σ m a w hI ht hon hY hf hx h;exact wpIn_skip (.here hY hf hx h)
 | region id ops draw=>
   intro top E Kd ags xs ρ σ m a w hI ht hon hY hf hx h;simp only [sx]at h;unfold Zha at h;split at h
   · exact Z14 hI hon hY hf hx h
   split at h
   · rename_i a0 b0 l0 hnorms;generalize hg:Z9r xs.nv xs.nl a0 (b0::l0)=g at h;obtain⟨head,ks⟩:=g;simp only at h;split at h
     · rename_i hc;simp only [Bool.and_eq_true,beq_iff_eq]at hc;obtain⟨⟨_,hnv⟩,hlvl⟩:=hc;obtain⟨Inv,h1,h2⟩:=h;rw [Wj]at h1;have h1':=Z3J (n:=xs.nl+1) _ _ _ hlvl h1;refine wpIn_mono (Z14 (ags:=Jh ags xs.nl Inv) hI hon ⟨hY.yok,hY.j,hY.exp,hY.sub,hY.lim⟩ hf hx h1') ?_;intro e a2 w2 hp;cases e with
       | normal=>
         obtain⟨B2,ags',ρ',xs',σ'',m'',hB2,hY2,⟨hk,hag,more,rfl⟩,g2,g3⟩:=hp;simp only [Wp]at hk;split at hk
         · rename_i ts hts;simp only [denR]at hk;rw [hag xs.nl (by omega)]at hk;simp only [Jh,if_true]at hk;obtain⟨⟨σ3,m3,f3,_⟩,k3,k4⟩:=Z4H (ρ0:=ρ) (more:=more) g2 g3.all hx.nv hts;exact⟨B2,ags.wc ags'.cnt,_,head,σ3,m3,hB2,⟨hY2.yok,hY2.j,hY.exp,hY2.sub,hY.lim⟩,h2 _ _ k3 hk,f3,⟨k4 _ k3,by rw [List.length_append,hx.nv,hnv,k3.length]⟩⟩
         · simp [denR]at hk
       |exit i=>obtain⟨B2,ags',ρ',xs',σ'',m'',hB2,hY2,⟨hk,_⟩,g2,g3⟩:=hp;simp only [Wp]at hk;exact⟨B2,ags',ρ',xs',σ'',m'',hB2,⟨hY2.yok,hY2.j,hY2.exp,hY2.sub,hY2.lim⟩,hk,g2,g3⟩
       |ret=>obtain⟨B2,ags',ρ',xs',σ'',m'',hB2,hY2,⟨hk,_⟩,g2,g3⟩:=hp;simp only [Wp]at hk;exact⟨B2,ags',ρ',xs',σ'',m'',hB2,⟨hY2.yok,hY2.j,hY2.exp,hY2.sub,hY2.lim⟩,hk,g2,g3⟩
       |goto l=>exact hp
       |panic c=>exact hp
       |outgrown=>exact hp
     · exact Z14 hI hon hY hf hx h
   · exact Z14 hI hon hY hf hx h
 | seq x y ihx ihy=>
   intro top E Kd ags xs ρ σ m a w hI ht hon hY hf hx h;simp only [sx]at h;rw [Wj]at h;refine wpIn_seq (wpIn_mono (ihx hI ht hon hY hf hx h) ?_);intro e a' w' hp;rcases Z6m (k:=fun e xs'=>match e with| .norm=>sx E.P md top y xs'|e=>.leaf e xs') hp with⟨B,ags',ρ',xs',σ',m',rfl,hB,hY',h1,h2,h3⟩|⟨i,B,ags',ρ',xs',σ',m',rfl,hB,hY',h1,h2,h3⟩|⟨B,ags',ρ',xs',σ',m',rfl,hB,hY',h1,h2,h3⟩
   · exact wpIn_mono (ihy (E:=E.re B) hI ht hon hY' h2 h3 h1) fun e a w hp=>Post.re hB hp
   · exact⟨B,ags',ρ',xs',σ',m',hB,hY',h1,h2,h3⟩
   · exact⟨B,ags',ρ',xs',σ',m',hB,hY',h1,h2,h3⟩
 | cond c x y ihx ihy=>
   intro top E Kd ags xs ρ σ m a w hI ht hon hY hf hx h;simp only [sx]at h;split at h
   · rename_i t hl;have hlk:=look_ok hf hx.all c;rw [hl]at hlk;obtain⟨b,hb,hev⟩:=RS.bool hlk.1 (Jc hlk.2);obtain⟨Kd',h1,h2⟩:=Zck hx hb h;refine wpIn_cond hev ?_;cases b with
     |true=>exact wpIn_mono (ihx hI ht hon hY hf hx h1) h2
     |false=>exact wpIn_mono (ihy hI ht hon hY hf hx h1) h2
   · simp [denR]at h
 | block id c ih=>
   intro top E Kd ags xs ρ σ m a w hI ht hon hY hf hx h;simp only [sx]at h;rw [Wj]at h;refine wpIn_block (wpIn_mono (ih hI ht hon hY hf hx h) ?_);intro e a' w' hp;rcases Z6m (k:=fun e xs'=>match e with| .exit i=>if i=id then .leaf .norm xs' else .leaf (.exit i) xs'|e=>.leaf e xs') hp with⟨B,ags',ρ',xs',σ',m',rfl,hB,hY',h1,h2,h3⟩|⟨i,B,ags',ρ',xs',σ',m',rfl,hB,hY',h1,h2,h3⟩|⟨B,ags',ρ',xs',σ',m',rfl,hB,hY',h1,h2,h3⟩
   · exact⟨B,ags',ρ',xs',σ',m',hB,hY',h1,h2,h3⟩
   · simp only [Exit.inBlock];simp only at h1;split
     · rename_i he;rw [if_pos he]at h1;exact⟨B,ags',ρ',xs',σ',m',hB,hY',h1,h2,h3⟩
     · rename_i he;rw [if_neg he]at h1;exact⟨B,ags',ρ',xs',σ',m',hB,hY',h1,h2,h3⟩
   · exact⟨B,ags',ρ',xs',σ',m',hB,hY',h1,h2,h3⟩
 | loop c ih=>
   intro top E Kd ags xs ρ σ m a w hI ht hon hY hf hx h;simp only [sx,ZcU]at h;generalize hfh:Z1r (sx E.P md top c) xs 4 ((sx E.P md top c xs).norms)=hd at h;obtain⟨head,ks⟩:=hd;simp only [Z4i]at h;split at h
   · simp [denR]at h
   rename_i inits hini;split at h
   · rename_i hc;obtain⟨hnv,hlvl⟩:=hc;simp only [Option.getD_some,denR]at h;obtain⟨Inv,μ,hI0,hround⟩:=h;obtain⟨⟨σ1,m1,f1,_⟩,k1,k2⟩:=Z4H (ρ0:=ρ) (more:=[]) (by simpa using hf) (by simpa using hx.all) hx.nv hini;simp only [List.append_nil]at f1 k1;refine Z2Z (fun n a w=>∃B c ds σ m,E.To B∧Good (E.re B) (ags.wc c)∧HasKs ks ds∧Inv c ds∧μ c ds=n∧Fits (E.re B) σ m (W0 (ρ++ds) head.st) a w) (μ ags.cnt (inits.map (den ρ)))
       ⟨E.toBase,ags.cnt,_,σ1,m1,E.to_self,hY,k1,hI0,rfl,f1⟩ ?_
     rintro n a' w' ⟨B,c',ds,σ',m',hB,hYB,hks,hInv,rfl,hf'⟩;have hx':XOk (ρ++ds) head:=⟨k2 ds hks,by rw [List.length_append,hx.nv,hnv,hks.length]⟩
     have hr:=hround c' ds hks hInv;rw [Wj]at hr;have hr2:=Z3J (n:=xs.nl+1) _ _ _ hlvl hr;refine wpIn_mono (ih (E:=E.re B) hI ht hon (ags:=Jh (ags.wc c') xs.nl _) ⟨hYB.yok,hYB.j,hYB.exp,hYB.sub,hYB.lim⟩ hf' hx' hr2) ?_;intro e a2 w2 hp;cases e with
     | normal=>
       obtain⟨B2,ags',ρ',xs',σ'',m'',hB2,hY2,⟨hk,hag,more,rfl⟩,h2,h3⟩:=hp;simp only [Wp]at hk;split at hk
       · rename_i ts hts;simp only [denR]at hk;rw [hag xs.nl (by omega)]at hk;simp only [Jh,if_true]at hk;rw [List.append_assoc]at hk h2 h3;obtain⟨⟨σ3,m3,f3,_⟩,k3,_⟩:=Z4H (ρ0:=ρ) (more:=ds++more) h2 h3.all hx.nv hts;exact⟨_,hk.2,B2,ags'.cnt,_,σ3,m3,hB.trans hB2,⟨hY2.yok,hY2.j,hY.exp,hY2.sub,hY.lim⟩,k3,hk.1,rfl,f3⟩
       · simp [denR]at hk
     |exit i=>obtain⟨B2,ags',ρ',xs',σ'',m'',hB2,hY2,⟨hk,_⟩,h2,h3⟩:=hp;exact⟨B2,ags',ρ',xs',σ'',m'',hB.trans hB2,hY2,hk,h2,h3⟩
     |ret=>obtain⟨B2,ags',ρ',xs',σ'',m'',hB2,hY2,⟨hk,_⟩,h2,h3⟩:=hp;exact⟨B2,ags',ρ',xs',σ'',m'',hB.trans hB2,hY2,hk,h2,h3⟩
     |goto l=>exact hp
     |panic c=>exact hp
     |outgrown=>exact hp
   · simp [denR]at h
 | rangeFunc g ps assign body iha ihb=>
   intro top E Kd ags xs ρ σ m a w hI ht hon hY hf hx h;simp only [sx]at h;split at h
   · simp [denR]at h
   rename_i htop;have htop:top=true:=by simpa using htop
   split at h <;> try (simp [denR]at h;done)
   rename_i t pk hg hpk;exact Zfj (fun {E Kd ags xs ρ σ m a w} hI ho hY hf hx h=>iha (top:=false) hI (by simp) ho hY hf hx h) (fun {E Kd ags xs ρ σ m a w} hI ho hY hf hx h=>ihb (top:=false) hI (by simp) ho hY hf hx h) hI (ht htop) hon hY hf hx hg h
 |exit id=>intro top E Kd ags xs ρ σ m a w hI ht hon hY hf hx h;exact wpIn_exit (.here hY hf hx h)
 |ret=>intro top E Kd ags xs ρ σ m a w hI ht hon hY hf hx h;exact wpIn_ret (.here hY hf hx h)
 |scope c ih=>intro top E Kd ags xs ρ σ m a w hI ht hon hY hf hx h;exact Z8G (fun l a w hp=>hp) (ih hI ht hon hY hf hx h)
 |label l=>intro top E Kd ags xs ρ σ m a w hI ht hon hY hf hx h;exact wpIn_label (.here hY hf hx h)
 |_=>intro top E Kd ags xs ρ σ m a w hI ht hon hY hf hx h;simp [sx,denR]at h
end
section
variable {E:Env} {σ:Names} {m:Mem} {st:St D} {a:Act} {w:World}
theorem Fits.unmark (h:Fits E σ m st a w) {D:Nat} {ds:List Deferred} (hd:a.defers=mark D::ds):w.heap[D]? =some (.deferred (some []))∧Fits E σ m st {a with defers:=ds} (w.putObj D (.deferred none)):=by
 obtain⟨Ds,h1,h2,h3⟩:=h.dfr;rw [hd]at h1;cases Ds with
 |nil=>simp at h1
 | cons D' Ds=>
   simp only [List.map_cons,List.cons.injEq]at h1;obtain⟨hm,h1⟩:=h1;have:D=D':=by simpa [mark]using hm
   subst this;obtain⟨g1,g2,g3⟩:=h3 D List.mem_cons_self;rw [List.nodup_cons]at h2;have other:∀b o,w.heap[b]? =some o→o≠.deferred (some [])→b≠D:=by
     intro b o hb hne e;subst e;rw [g1]at hb;cases hb;exact hne rfl
   refine ⟨g1, { sz:=h.sz,tm:=h.tm,dfr:=⟨Ds,h1,h2.2,fun D' hD'=>?_⟩,yld:=h.yld,sav:=h.sav,mem:=fun b o hb=>?_,le:=h.le,objs:=fun o ov ho=>?_,sep:=h.sep,inj:=h.inj,dom:=h.dom
                 grow:=by simpa using h.grow,keep:=fun b hb hmb=>?_,old:=h.old,os:=h.os,tape:=h.tape,output:=h.output,drawn:=h.drawn}⟩
   · obtain⟨k1,k2,k3⟩:=h3 D' (List.mem_cons_of_mem _ hD');have hne:D'≠D:=fun e=>h2.1 (e▸hD')
     exact⟨by rw [World.putObj_heap_other hne];exact k1,k2,k3⟩
   · have hne:b≠D:=fun e=>by subst e;rw [g2]at hb;cases hb
     rw [World.putObj_heap_other hne];exact h.mem b o hb
   · refine(h.objs o ov ho).keep fun b ha hb=>?_
     obtain⟨ob,hc,hho⟩:=(h.objs o ov ho).cells ha hb;exact World.putObj_heap_other (other b _ hc (by rintro rfl;cases hho))
   · have hne:b≠D:=fun e=>by subst e;exact g3.elim (fun h=>by omega) hmb
     rw [World.putObj_heap_other hne];exact h.keep b hb hmb
theorem Z5E {fn:Func} {R:Ending→World→Prop} {tmps:Array Value} (hQ:∀a' w',a'.tmps=tmps→Fits E σ m st a' w'→∃v,(results fn tmps).run E.P w'=.ok v w'∧R (.returned v) w'):
   ∀(ds:List Deferred) {a:Act} {w:World},a.tmps=tmps→a.defers=ds→Fits E σ m st a w→LeavesInM Fence.wide 0 E.P fn tmps R ds .returning w
 | [],a,w,ht,hd,hf=>hQ a w ht hf
 | d ::ds,a,w,ht,hd,hf=>by
   obtain⟨Ds,h1,_⟩:=hf.dfr;rw [hd]at h1;cases Ds with
   |nil=>simp at h1
   | cons D Ds=>
     simp only [List.map_cons,List.cons.injEq]at h1;obtain⟨rfl,_⟩:=h1;obtain⟨g1,g2⟩:=hf.unmark hd;exact⟨by simp,.inl ⟨D,_,rfl,run_takeDeferred g1,Z5E (a:= {a with defers:=ds}) hQ ds ht rfl g2⟩⟩
end
theorem YOk.off (P:Program):YOk P YS.off:=⟨fun _ _ _ _ _ _ _ _ _ _ _ _ _ _ _ _ _ _=>trivial,fun c x _ _ _ _ _ _ h=>by simp [YS.off]at h⟩
theorem Z5R {P:Program} {f:FuncId} {fn:Func} {c:Code} {md:Mode} {E:Env} {F:Option Nat→List RV→Prop} {Kd:Ags→List D→XExit→XS→Prop} {ags:Ags} {xs:XS} {ρ:List D} {σ:Names} {m:Mem} {args:Array Value} {w:World} {R:Ending→World→Prop}
   (hP:E.P=P) (hI:Z1z E md) (hr:E.r=none) (hfn:P.funcs[f]? =some fn) (hbody:fn.body=some c) (hon:E.Y.on=false→E.Y.exp=[]) (hY:Good E ags)
   (hf:Fits E σ m (W0 ρ xs.st) {tmps:=args++Array.replicate (fn.ntmps - args.size) undef,defers:=[]} w) (hx:XOk ρ xs) (h:denR P F Kd (sx P md true c xs) ags ρ)
   (hQ:∀e,(e=.norm∨e=.ret)→∀B ags ρ xs σ m a w,E.To B→Good (E.re B) ags→Kd ags ρ e xs→Fits (E.re B) σ m (W0 ρ xs.st) a w→XOk ρ xs→∃v,(results fn a.tmps).run P w=.ok v w∧R (.returned v) w)
   (hE:∀i ags ρ xs,¬Kd ags ρ (.exit i) xs):Calls P f args w R:=by
 subst hP;have hw:=sx_ok (F:=F) (md:=md) c (top:=true) hI (fun _=>hr) hon hY hf hx h;rw [hr]at hw;refine callsIn_wide.1 (callsIn_of_wp_marks (F:=Fence.wide) (n:=0) hfn hbody trivial (wpIn_mono hw ?_));intro e a' w' hp;cases e with
 | normal=>
   obtain⟨B,ags',ρ',xs',σ',m',hB,hY',hK,hf',hx'⟩:=hp;exact Z5E (E:=E.re B) (fun a2 w2 ht hf2=>by rw [←ht];exact hQ .norm (.inl rfl) B ags' ρ' xs' σ' m' a2 w2 hB hY' hK hf2 hx') a'.defers rfl rfl hf'
 | ret=>
   obtain⟨B,ags',ρ',xs',σ',m',hB,hY',hK,hf',hx'⟩:=hp;exact Z5E (E:=E.re B) (fun a2 w2 ht hf2=>by rw [←ht];exact hQ .ret (.inr rfl) B ags' ρ' xs' σ' m' a2 w2 hB hY' hK hf2 hx') a'.defers rfl rfl hf'
 | exit i=>
   obtain⟨B,ags',ρ',xs',σ',m',hB,hY',hK,_⟩:=hp;exact absurd hK (hE i ags' ρ' xs')
 |goto l=>exact hp.elim
 |panic ch=>exact hp.elim
 |outgrown=>exact hp.elim
theorem Z0p:∀ {objs:List (OV TK)} {i:Nat} {cs:List (SV TK)},Ys objs=some (i,cs)→objs[i]? =some (.sav cs)
 | [],i,cs,h=>by simp [Ys]at h
 | ov::objs,i,cs,h=>by
   unfold Ys at h;split at h
   · cases ‹_::_=[]›
   · rename_i e;cases e;cases h;rfl
   · rename_i e;cases e;split at h <;> try contradiction
     rename_i j cs' hj;cases h;simpa using Z0p hj
theorem ZbO {P:Program} {md:Mode} (hI:ZcR P md) {f:FuncId} {F:Option Nat→List RV→Prop} {Kd:Ags→List D→XExit→XS→Prop} {E:Env} {ags:Ags} {xs:XS} {ρ:List D} {σ:Names} {m:Mem} {a:Act} {w:World} {o:Oper} {vs:List (SV TK)} {vals:List Value}
   (hP:E.P=P) (hoff:E.Y.on=false) (hexp:E.Y.exp=[]) (hY:Good E ags) (hf:Fits E σ m (W0 ρ xs.st) a w) (hx:XOk ρ xs) (hl:vals.length=vs.length) (hrv:∀(i:Nat) c v,vs[i]? =some c→vals[i]? =some v→RS σ m ρ c v) (hkv:∀c∈vs,SV.Ok ρ c)
   (h:denR P F Kd (ZeX P (sx P md true) f vs o xs) ags ρ):J2 P f=true∧Calls P f vals.toArray w fun e w'=>∃v,e=.returned v∧Res E Kd ags a o.dst v w':=by
 subst hP;unfold ZeX at h;split at h
 · simp [denR]at h
 rename_i hcl;have hcl:J2 E.P f=true:=by simpa using hcl
 refine⟨hcl,?_⟩;split at h
 · simp [denR]at h
 rename_i fn hfn;split at h
 · simp [denR]at h
 rename_i c hbody;simp only at h;obtain⟨k0,cs0,hk0,sv,hsv,hcs0,hkcs0⟩:∃k0 cs0,(Ys xs.st.objs).getD (xs.st.objs.length,[])=(k0,cs0)∧∃sv:Array Value,((Ys xs.st.objs).isSome=true→sv=E.sav)∧(sv.size=cs0.length∧∀(i:Nat) c v,cs0[i]? =some c→sv[i]? =some v→RS σ m ρ c v)∧∀c∈cs0,SV.Ok ρ c:=by
   cases hfs:Ys xs.st.objs with
   |none=>exact⟨_,_,rfl, #[],by simp,⟨rfl,by simp⟩,by simp⟩
   | some p=>
     obtain⟨k0,cs0⟩:=p;have hat:=Z0p hfs;have hro:=hf.objs k0 _ (show(W0 ρ xs.st).objs[k0]? =some (OV.map (denL ρ) (.sav cs0)) by simp [W0,St.map,hat]);have hko:=hx.all.objs _ (List.mem_of_getElem? hat);simp only [OV.map]at hro;generalize hm0:cs0.map (SV.map (denL ρ))=mcs at hro;cases hro with
     |sav hs hsz hv=>
     rename_i arr;have:=hf.sav k0 _ (show(W0 ρ xs.st).objs[k0]? =some (OV.sav (cs0.map (SV.map (denL ρ)))) by simp [W0,St.map,hat,OV.map]);rw [hs]at this;simp only [Option.some.injEq,Value.tuple.injEq]at this;refine⟨k0,cs0,rfl,arr,fun _=>this,⟨by rw [hsz, ←hm0];simp,fun i c v hc hu=>?_⟩,by cases hko;assumption⟩;exact hv i _ v (by rw [←hm0];simp [hc]) hu
 rw [hk0]at h;simp only at h;split at h
 · simp [denR]at h
 rename_i hns0;have hns0:Z1f (xs.st.objs.set k0 .dead)=true:=by simpa using hns0
 rw [Wj]at h
 let E1:Env:= {E with sav:=a.tmps++sv}
 have hlen0:a.tmps.size=xs.st.tmps.length:=by rw [hf.sz];simp [W0,St.map]
 have f1:Fits E1 σ m (W0 ρ ⟨xs.st.tmps,xs.st.objs.set k0 .dead⟩) a w:=by
   have:Fits E σ m (W0 ρ ⟨xs.st.tmps,xs.st.objs.set k0 .dead⟩) a w:=by rw [Ye];exact hf.kill k0
   exact this.resav hns0 E1 rfl rfl
 have hrep1:∀(i:Nat) c v,(xs.st.tmps++cs0)[i]? =some c→(a.tmps++sv)[i]? =some v→RS σ m ρ c v:=fun i c v hc hv=>by
   rw [List.getElem?_append]at hc;rw [Array.getElem?_append]at hv;split at hc
   · rename_i hlt;rw [if_pos (by omega)]at hv;exact hf.tm i _ v (by simp [W0,St.map,hc]) hv
   · rename_i hge;rw [if_neg (by omega),hlen0]at hv;exact hcs0.2 _ c v hc hv
 have hn1:(xs.st.objs.set k0 .dead).length=(W0 ρ ⟨xs.st.tmps,xs.st.objs.set k0 .dead⟩).objs.length:=by rw [Z6]
 have hle1:σ.le (σ.add (xs.st.objs.set k0 .dead).length (.tuple E1.sav)):=by rw [hn1];exact Names.le_add f1.dom (Nat.le_refl _) _
 have f2:Fits E1 (σ.add (xs.st.objs.set k0 .dead).length (.tuple E1.sav)) m (W0 ρ ⟨xs.st.tmps,xs.st.objs.set k0 .dead++[.sav (xs.st.tmps++cs0)]⟩) a w:=by
   rw [Zf (st:=⟨xs.st.tmps,xs.st.objs.set k0 .dead⟩),hn1];refine f1.newObj (ov:=OV.map (denL ρ) (.sav (xs.st.tmps++cs0))) ?_ (fun b hb=>by simp [blk]at hb) (by simp [OV.map]) (fun _ _=>rfl);simp only [OV.map];refine .sav (J1 _ _ _) (by simp [E1,hlen0,hcs0.1]) fun i c v hc hv=>?_
   simp only [List.getElem?_map,Option.map_eq_some_iff]at hc;obtain⟨s,hs,rfl⟩:=hc;exact(hrep1 i s v hs hv).mono (by rw [←hn1];exact hle1) (Mem.le_refl m)
 generalize hσ1:σ.add (xs.st.objs.set k0 .dead).length (.tuple E1.sav)=σ1 at f2 hle1;have f3:Fits E1 σ1 m (W0 ρ ⟨vs++List.replicate (fn.ntmps - vs.length) .any,xs.st.objs.set k0 .dead++[.sav (xs.st.tmps++cs0)]⟩) {tmps:=vals.toArray++Array.replicate (fn.ntmps - vals.toArray.size) undef,defers:=[]} w:=by
   refine f2.frame (a':= {tmps:=vals.toArray++Array.replicate (fn.ntmps - vals.toArray.size) undef,defers:=[]}) (ts:=(vs++List.replicate (fn.ntmps - vs.length) SV.any).map (SV.map (denL ρ))) (by simp [hl]) (fun i s v hs hv=>?_) (Marks.nil _ _ _);simp only [List.getElem?_map,Option.map_eq_some_iff]at hs;obtain⟨s',hs',rfl⟩:=hs;rw [List.getElem?_append]at hs';split at hs'
   · rename_i hlt;refine(hrv i s' v hs' ?_).mono hle1 (Mem.le_refl m);rw [Array.getElem?_append,if_pos (by simp;omega)]at hv;simpa using hv
   · have:=List.mem_of_getElem? hs';rw [List.eq_of_mem_replicate this];exact .any
 have G1:Good E1 ags:=⟨hY.yok,hY.j,hY.exp,hY.sub,hY.lim⟩
 have hxc:XOk ρ {st:= {tmps:=vs++List.replicate (fn.ntmps - vs.length) .any,objs:=xs.st.objs.set k0 .dead++[.sav (xs.st.tmps++cs0)]},nv:=xs.nv,nl:=xs.nl}:=by
   refine⟨⟨fun s hs=>?_,fun ob hob=>?_⟩,hx.nv⟩
   · rcases List.mem_append.1 hs with hs|hs
     · exact hkv s hs
     · rw [List.eq_of_mem_replicate hs];exact .any
   · rcases List.mem_append.1 hob with hob|hob
     · rcases List.mem_or_eq_of_mem_set hob with hob|rfl
       · exact hx.all.objs ob hob
       · exact .dead
     · simp at hob;subst hob;refine .sav fun c hc=>?_
       rcases List.mem_append.1 hc with hc|hc
       · exact hx.all.tmps c hc
       · exact hkcs0 c hc
 generalize hac:({tmps:=vals.toArray++Array.replicate (fn.ntmps - vals.toArray.size) undef,defers:=[]}:Act)=ac at f3;have hacd:ac.defers=[]:=by rw [←hac]
 refine Z5R (E:=E1.sub σ1 m (W0 ρ ⟨vs++List.replicate (fn.ntmps - vs.length) .any,xs.st.objs.set k0 .dead++[.sav (xs.st.tmps++cs0)]⟩) ac w none) (md:=md) (ags:=ags) (F:=F) rfl (.inr ⟨hoff,hexp,hI⟩) rfl hfn hbody (fun _=>hexp) (G1.sub_env f3 none) (by rw [hac];exact f3.sub none) hxc h ?_ (fun i ags ρ xs hk=>by simp [denR]at hk);intro e he B ags' ρ' y σ' m' a2 w2 hTo hG2 hK hf2 hx2;obtain⟨B2,hTo2,hG3,f4,S⟩:=Z2J f3 G1 hTo hG2 hf2;have hB2:B2=E1.toBase:=hTo2.off hoff;subst hB2;have f4:Fits E1 σ' m' (W0 ρ' y.st) a2 w2:=f4;have hK':denR E.P F Kd (match Ys y.st.objs,Z0E E.P y.st fn.results.toList with
         | some (k,cs),some us=>if Z1f (y.st.objs.set k .dead)then
             .leaf .norm {y with st:= {tmps:=putT (cs.take xs.st.tmps.length) o.dst (Wm us),objs:=y.st.objs.set k .dead++if(Ys xs.st.objs).isSome then [.sav (cs.drop xs.st.tmps.length)]else []}}
           else .fail "inline a frame"
         |_,_=>.fail "inline the results") ags' ρ':=by
   rcases he with rfl|rfl <;> exact hK
 split at hK';rotate_left
 · simp [denR]at hK'
 rename_i k cs us hfk hus;split at hK';rotate_left
 · simp [denR]at hK'
 rename_i hns;simp only [denR]at hK';obtain⟨vals2,r1,l2,r2,k2⟩:=Z1L f4 hx2.all hus;refine⟨_,Z3d r1,_,rfl,?_⟩;have hat:=Z0p hfk;have hko:=hx2.all.objs _ (List.mem_of_getElem? hat);have kcs:∀c∈cs,SV.Ok ρ' c:=by cases hko;assumption
 have hcs:E1.sav.size=cs.length∧∀(i:Nat) c v,cs[i]? =some c→E1.sav[i]? =some v→RS σ' m' ρ' c v:=by
   have hro:=f4.objs k _ (show(W0 ρ' y.st).objs[k]? =some (OV.map (denL ρ') (.sav cs)) by simp [W0,St.map,hat]);have hs1:=f4.sav k _ (show(W0 ρ' y.st).objs[k]? =some (OV.sav (cs.map (SV.map (denL ρ')))) by simp [W0,St.map,hat,OV.map]);simp only [OV.map]at hro;generalize hm0:cs.map (SV.map (denL ρ'))=mcs at hro;cases hro with
   |sav hs hsz hv=>
   rw [hs]at hs1;simp only [Option.some.injEq,Value.tuple.injEq]at hs1;subst hs1;exact⟨by rw [hsz, ←hm0];simp,fun i c v hc hu=>hv i _ v (by rw [←hm0];simp [hc]) hu⟩
 have hsz1:E1.sav.size=xs.st.tmps.length+cs0.length:=by simp [E1,hlen0,hcs0.1]
 have hn2:(cs.take xs.st.tmps.length).length=xs.st.tmps.length:=by
   rw [List.length_take];have:=hcs.1;omega
 have f5 :Fits E1 σ' m' (W0 ρ' ⟨cs.take xs.st.tmps.length,y.st.objs.set k .dead⟩) a w2:=by
   have fk:Fits E1 σ' m' (W0 ρ' ⟨y.st.tmps,y.st.objs.set k .dead⟩) a2 w2:=by rw [Ye];exact f4.kill k
   refine fk.frame (ts:=(cs.take xs.st.tmps.length).map (SV.map (denL ρ'))) (by rw [List.length_map,hn2,hlen0]) (fun i s v hs hv=>?_) ?_
   · simp only [List.getElem?_map,Option.map_eq_some_iff]at hs;obtain⟨s',hs',rfl⟩:=hs;rw [List.getElem?_take]at hs';split at hs'
     · rename_i hlt;exact hcs.2 i s' v hs' (by simp only [E1];rw [Array.getElem?_append,if_pos (by omega)];exact hv)
     · cases hs'
   · obtain⟨Ds,d1,d2,d3⟩:=hf.dfr;refine⟨Ds,d1,d2,fun D hD=>?_⟩;obtain⟨g1,g2,g3⟩:=d3 D hD;have hlt:=(Array.getElem?_eq_some_iff.1 g1).1;have hnh:¬hold σ1 (W0 ρ ⟨vs++List.replicate (fn.ntmps - vs.length) .any,xs.st.objs.set k0 .dead++[.sav (xs.st.tmps++cs0)]⟩) ac D:=by
       rintro(hh|hh)
       · obtain⟨_,_,_,ob,hob,hho⟩:=ZJ f3 hh;rw [g1]at hob;cases hob;cases hho
       · rw [hacd]at hh;cases hh
     obtain⟨s1,s2⟩:=S.same D hlt hnh (.inr hoff);exact⟨by rw [s1];exact g1,by rw [s2];exact g2,g3⟩
 have f6:Fits E σ' m' (W0 ρ' ⟨cs.take xs.st.tmps.length,y.st.objs.set k .dead⟩) a w2:=f5.resav hns E rfl rfl;have kset:∀ob∈y.st.objs.set k .dead,OV.Ok ρ' ob:=fun ob hob=>by
   rcases List.mem_or_eq_of_mem_set hob with hob|rfl
   · exact hx2.all.objs ob hob
   · exact .dead
 have ktk:∀c∈cs.take xs.st.tmps.length,SV.Ok ρ' c:=fun c hc=>kcs c (List.mem_of_mem_take hc)
 have hGE:Good E ags→Good E ags':=fun _=>⟨hY.yok,fun h=>(by rw [hoff]at h;cases h),hG3.exp,hY.sub,hG3.lim⟩
 cases hh:(Ys xs.st.objs).isSome with
 | false=>
   rw [hh]at hK';simp only [Bool.false_eq_true,if_false,List.append_nil]at hK';refine⟨ags',ρ',_,σ',m',hGE,hK',?_,?_,hx2.nv⟩
   · simp only;rw [Zd (st:=⟨cs.take xs.st.tmps.length,y.st.objs.set k .dead⟩)];exact f6.put o.dst (Z0n l2.symm r2)
   · exact St.Ok.putT (st:=⟨cs.take xs.st.tmps.length,y.st.objs.set k .dead⟩) ⟨ktk,kset⟩ o.dst (Yy k2) kset
 | true=>
   rw [hh]at hK';simp only [if_true]at hK';have hsv':=hsv hh;have hn3:(y.st.objs.set k .dead).length=(W0 ρ' ⟨cs.take xs.st.tmps.length,y.st.objs.set k .dead⟩).objs.length:=by rw [Z6]
   have hle3:σ'.le (σ'.add (y.st.objs.set k .dead).length (.tuple E.sav)):=by rw [hn3];exact Names.le_add f6.dom (Nat.le_refl _) _
   have f7:Fits E (σ'.add (y.st.objs.set k .dead).length (.tuple E.sav)) m' (W0 ρ' ⟨cs.take xs.st.tmps.length,y.st.objs.set k .dead++[.sav (cs.drop xs.st.tmps.length)]⟩) a w2:=by
     rw [Zf (st:=⟨cs.take xs.st.tmps.length,y.st.objs.set k .dead⟩),hn3];refine f6.newObj (ov:=OV.map (denL ρ') (.sav (cs.drop xs.st.tmps.length))) ?_ (fun b hb=>by simp [blk]at hb) (by simp [OV.map]) (fun _ _=>rfl);simp only [OV.map];refine .sav (J1 _ _ _) (by have:=hcs.1;rw [←hsv'];simp only [List.length_map,List.length_drop];rw [hcs0.1];omega) fun i c v hc hv=>?_
     simp only [List.getElem?_map,Option.map_eq_some_iff]at hc;obtain⟨s,hs,rfl⟩:=hc;rw [List.getElem?_drop]at hs;refine(hcs.2 _ s v hs ?_).mono (by rw [←hn3];exact hle3) (Mem.le_refl m');simp only [E1];rw [Array.getElem?_append,if_neg (by omega),hlen0,Nat.add_sub_cancel_left,hsv'];exact hv
   have kset2:∀ob∈y.st.objs.set k .dead++[OV.sav (cs.drop xs.st.tmps.length)],OV.Ok ρ' ob:=fun ob hob=>by
     rcases List.mem_append.1 hob with hob|hob
     · exact kset ob hob
     · simp at hob;subst hob;exact .sav fun c hc=>kcs c (List.mem_of_mem_drop hc)
   refine⟨ags',ρ',_,σ'.add (y.st.objs.set k .dead).length (.tuple E.sav),m',hGE,hK',?_,?_,hx2.nv⟩
   · simp only;rw [Zd (st:=⟨cs.take xs.st.tmps.length,y.st.objs.set k .dead++[.sav (cs.drop xs.st.tmps.length)]⟩)];exact f7.put o.dst (Z0n l2.symm fun i v u h1 h2=>(r2 i v u h1 h2).mono hle3 (Mem.le_refl m'))
   · exact St.Ok.putT (st:=⟨cs.take xs.st.tmps.length,y.st.objs.set k .dead++[.sav (cs.drop xs.st.tmps.length)]⟩) ⟨ktk,kset2⟩ o.dst (Yy k2) kset2
theorem Zbf {P:Program} {md:Mode}:∀n,ZcR P (md.deep P n)
 |0=>fun f g h=>by simp [Mode.deep]at h
 | n+1=>fun f g h=>by
   simp only [Mode.deep]at h;split at h <;> try contradiction
   cases h;intro F Kd E ags xs ρ σ m a w o vs vals hP hoff hexp hY hf hx hl hrv hkv hR;exact ZbO (Zbf n) hP hoff hexp hY hf hx hl hrv hkv hR
theorem Zbg {E:Env} {md:Mode} (n:Nat) (h1:E.Y.on=false) (h2:E.Y.exp=[]):Z1z E (md.deep E.P n):=.inr ⟨h1,h2,Zbf n⟩
theorem fn_ok (P:Program) (md:Mode) (f:FuncId) (pk:List PK) (hcl:J2 P f=true):Contract P f (ZgQ P md f pk):=by
 refine⟨hcl,?_⟩;rintro args K ⟨ρ,hρ,hks,hR⟩ htyped w m vs hmem hsz hv;unfold sxFn at hR;split at hR
 case isFalse=>simp [denR]at hR
 rename_i hplain;unfold Z8S at hR;split at hR
 · simp [denR]at hR
 rename_i fn hfn;split at hR
 · simp [denR]at hR
 rename_i c hbody;simp only at hR;rw [Wj]at hR;obtain⟨l,r,o⟩:=JO (σ:=fun _=>none) (m:=m) (ρ0:=[]) (more:=[]) (vs:=vs.toList) (n:=0) (o:=0) hplain hρ hks rfl (by simpa using hsz) (fun i d v h1 h2=>hv i d v h1 (by simpa using h2));simp only [List.nil_append,List.append_nil]at r o;have hl:(Z2 0 0 pk).length=vs.size:=by simpa using l
 have hob:W6 0 pk=[]:=by
   have:∀(pk:List PK) (n:Nat),pk.all PK.plain=true→W6 n pk=[]:=by
     intro pk;induction pk with
     |nil=>intro n _;rfl
     | cons k pk ih=>
       intro n hp;cases k with
       |own ks=>simp [PK.plain]at hp
       |box ks=>simp [PK.plain]at hp
       |any=>simp only [W6];exact ih _ (by simpa [PK.plain]using hp)
       |cell k=>simp only [W6];exact ih _ (by simpa [PK.plain]using hp)
       |agg k=>simp only [W6];exact ih _ (by simpa [PK.plain]using hp)
   exact this pk 0 hplain
 rw [hob]at hR;simp only [Bool.false_eq_true,if_false,List.append_nil]at hR
 let E:Env:= {w0:=w,m0:=m,mine:=fun _=>False,own:=fun _=>False,P:=P,r:=none,sav:= #[],Y:=.off}
 have hf :Fits E (fun _=>none) m (W0 ρ ⟨Z2 0 0 pk++List.replicate (fn.ntmps - (Z2 0 0 pk).length) .any,[]⟩) {tmps:=vs++Array.replicate (fn.ntmps - vs.size) undef,defers:=[]} w:=
   { sz:=by simp [W0,St.map,hl]
     tm:=fun i s v hs hv=>by
       simp only [W0,St.map,List.getElem?_map,Option.map_eq_some_iff]at hs;obtain⟨s',hs',rfl⟩:=hs;rw [List.getElem?_append]at hs';split at hs'
       · rename_i hlt;refine r i s' v hs' ?_;rw [Array.getElem?_append,if_pos (by omega)]at hv;simpa using hv
       · have:=List.mem_of_getElem? hs';rw [List.eq_of_mem_replicate this];exact .any
     dfr:=Marks.nil _ _ _,yld:=by simp [W0,St.map],sav:=by simp [W0,St.map],mem:=hmem,le:=Mem.le_refl m
     objs:=by simp [W0,St.map]
     sep:=by simp [W0,St.map]
     inj:=by simp [W0,St.map]
     dom:=by simp
     grow:=Nat.le_refl _,keep:=fun _ _ _=>rfl,old:=fun _ _ _=>rfl,os:=rfl,tape:=rfl,output:=rfl,drawn:=Nat.le_refl _}
 have hx:XOk ρ {st:= {tmps:=Z2 0 0 pk++List.replicate (fn.ntmps - (Z2 0 0 pk).length) .any,objs:=[]},nv:=(Y1 pk).length,nl:=0}:=by
   refine⟨⟨fun s hs=>?_,by simp⟩,hks.length⟩;rcases List.mem_append.1 hs with hs|hs
   · exact o s hs
   · rw [List.eq_of_mem_replicate hs];exact .any
 refine Z5R (E:=E) rfl (Zbg md.dep rfl rfl) rfl hfn hbody (fun _=>rfl) ⟨YOk.off P,fun _=>trivial,rfl,fun _ h=>h.elim,fun _ _ _ _ _=>trivial⟩ hf hx hR ?_ (fun i ags ρ xs hk=>by simp [denR]at hk);intro e he B ags ρ' xs' σ' m' a' w' hB hY' hK hf' hx';have hB':B=E.toBase:=hB.off rfl;subst hB';have hK':denR P (fun _ rs=>K rs) (fun _ _ _ _=>False) (match JZ P (Z50 P (md.own.contains f) xs'.st fn.results.toList fn.resultTypes.toList) fn.results.toList fn.resultTypes.toList [] []with|some rs=>.ret rs|none=>.fail "the results") ags ρ':=by
   rcases he with rfl|rfl <;> exact hK
 split at hK'
 · rename_i rs hrs;obtain⟨σ2,_,hf2,hx2⟩:=Z3R (E:=E) (own:=md.own.contains f) fn.results.toList fn.resultTypes.toList hf' hx'.all;obtain⟨us,m2,h1,h2⟩:=Z2a (E:=E) (ext:=[]) hf2 hx2 hrs rfl (by simp) (by simp);have hrep:=h2.rep;rw [List.append_nil]at hrep;refine⟨_,h1,_,_,m2,hK',?_,rfl,⟨us,rfl,?_⟩,h2.le,h2.mem,fun b hb=>h2.old b hb (fun h=>h),⟨⟨hf'.os,hf'.tape,hf'.output,hf'.grow,fun k hk=>hf'.keep k hk (fun h=>h)⟩,hf'.drawn⟩⟩
   · intro rk hrk;refine h2.typed rk ?_;simpa [Zs,hfn]using hrk
   · exact⟨hrep.len,fun i r u a b=>by
       have:=hrep.rep i r u a b;cases this with
       |d h=>exact .d h
       |none=>exact .none
       |any=>exact .any
       |box hB hm hb hsz hv=>exact .box (hB.resolve_right (fun h=>h)) hm hb hsz hv
       |own hB hm hb h0 hc hcc hcap hsz he hv=>exact .own (hB.resolve_right (fun h=>h)) hm hb h0 hc hcc hcap hsz he hv,hrep.sep⟩
 · simp [denR]at hK'
theorem Zft {lim:Nat→Prop} {P:Program} {md:Mode} {f:FuncId} {pk:List PK} {caps ρ:List D} {zs:List (List D)} (hcl:J2 P f=true) (hρ:Jr pk caps=some ρ) (hks:HasKs (Y1 pk) ρ)
   (hR:denR P (fun c _=>c=none∨c=some zs.length) (fun _ _ _ _=>False) (Z9W P md f pk) ⟨fun _ _ _=>False,zs,some 0,lim⟩ ρ):IterL P (.clo f caps) zs lim:=by
 refine⟨hcl,?_⟩;intro l J w m arr hlim hYO hJ hmem hsz hv;unfold Z9W at hR;split at hR
 · simp [denR]at hR
 rename_i fn hfn;split at hR
 · simp [denR]at hR
 rename_i c hbody;simp only at hR;split at hR
 · simp [denR]at hR
 rename_i hcond;simp only [Bool.or_eq_true,Bool.not_eq_true',not_or,Bool.not_eq_false]at hcond;obtain⟨hplain,hres⟩:=hcond;rw [Wj]at hR
 let E:Env:= {w0:=w,m0:=m,mine:=fun _=>False,own:=fun _=>False,P:=P,r:=none,sav:= #[],Y:=⟨true,l,zs,J⟩}
 let σ0:Names:=fun o=>if o=0 then some (.func (.yield l) #[] #[])else none
 obtain⟨l1,r,o⟩:=JO (σ:=σ0) (m:=m) (ρ0:=[]) (more:=[]) (vs:=arr.toList) (n:=0) (o:=0) hplain hρ hks rfl (by simpa using hsz) (fun i d v h1 h2=>hv i d v h1 (by simpa using h2));simp only [List.nil_append,List.append_nil]at r o;have hl:(Z2 0 0 pk).length=arr.size:=by simpa using l1
 have hf : Fits E σ0 m (W0 ρ ⟨.own 0::Z2 0 0 pk++List.replicate (fn.ntmps - (SV.own 0::Z2 0 0 pk).length) .any,[.yld]⟩) {tmps:=(#[.func (.yield l) #[] #[]]++arr)++Array.replicate (fn.ntmps - (#[Value.func (.yield l) #[] #[]]++arr).size) undef,defers:=[]} w:=
   { sz := by simp [W0,St.map,hl];omega
     tm := fun i s v hs hv=>by
       simp only [W0,St.map,List.getElem?_map,Option.map_eq_some_iff]at hs;obtain⟨s',hs',rfl⟩:=hs;cases i with
       | zero=>
         simp at hs';subst hs';rw [Array.getElem?_append_left (by simp;omega),Array.getElem?_append_left (by simp)]at hv;simp at hv;subst hv;exact .own rfl
       | succ i=>
         simp only [List.cons_append,List.getElem?_cons_succ]at hs';rw [List.getElem?_append]at hs';split at hs'
         · rename_i hlt;refine r i s' v hs' ?_;rw [Array.getElem?_append,if_pos (by simp;omega),Array.getElem?_append,if_neg (by simp)]at hv;simpa using hv
         · have:=List.mem_of_getElem? hs';rw [List.eq_of_mem_replicate this];exact .any
     dfr:=Marks.nil _ _ _
     yld:=fun o ho=>by
       cases o with
       |zero=>rfl
       |succ o=>simp [W0,St.map]at ho
     sav:=fun o cs ho=>by cases o <;> simp [W0,St.map,OV.map]at ho
     mem:=hmem,le:=Mem.le_refl m
     objs:=fun o ov ho=>by
       cases o with
       |zero=>simp [W0,St.map,OV.map]at ho;subst ho;exact .yld rfl
       |succ o=>simp [W0,St.map]at ho
     sep:=fun o ov b ho ha=>by
       cases o with
       |zero=>simp [W0,St.map,OV.map]at ho;subst ho;simp [OV.alive]at ha
       |succ o=>simp [W0,St.map]at ho
     inj:=fun o o' ov ov' b ho _ ha=>by
       cases o with
       |zero=>simp [W0,St.map,OV.map]at ho;subst ho;simp [OV.alive]at ha
       |succ o=>simp [W0,St.map]at ho
     dom:=fun o v h=>by
       simp only [σ0]at h;split at h
       · rename_i e;subst e;simp [W0,St.map]
       · cases h
     grow:=Nat.le_refl _,keep:=fun _ _ _=>rfl,old:=fun _ _ _=>rfl,os:=rfl,tape:=rfl,output:=rfl,drawn:=Nat.le_refl _}
 have hx:XOk ρ {st:= {tmps:=.own 0::Z2 0 0 pk++List.replicate (fn.ntmps - (SV.own 0::Z2 0 0 pk).length) .any,objs:=[.yld]},nv:=(Y1 pk).length,nl:=0}:=by
   refine⟨⟨fun s hs=>?_,fun o ho=>by simp at ho;subst ho;exact .yld⟩,hks.length⟩;rcases List.mem_append.1 hs with hs|hs
   · rcases List.mem_cons.1 hs with rfl|hs
     · exact .own
     · exact o s hs
   · rw [List.eq_of_mem_replicate hs];exact .any
 refine Z5R (E:=E) rfl (.inl fun _=>rfl) rfl hfn hbody (fun h=>by cases h) ⟨hYO,fun _=>hJ,rfl,fun _ h=>h.elim,hlim⟩ hf hx hR ?_ (fun i ags ρ xs hk=>by simp [denR]at hk);intro e he B ags ρ' xs' σ' m' a' w' hB hY' hK hf' hx';have hK':ags.cnt=none∨ags.cnt=some zs.length:=by
   rcases he with rfl|rfl <;> simpa [denR]using hK
 have hJ':=hY'.J rfl hf';have hre:fn.results= #[]:=by simpa using hres
 exact⟨.tuple #[],by simp [results,hre,go_sem],⟨_,rfl⟩,_,m',ags.cnt,hJ',hK'⟩
section
variable {E:Env} {ρ:List D} {σ:Names} {ts:List (SV TK)} {a:Act} {w:World}
theorem JE {σ:Names} {m:Mem} {w:World}:∀ {pk:List PK} {args:List RV} {ρ0 ρ more:List D} {vs:List Value} {n o:Nat},Wc pk args=some ρ→HasKs (Y1 pk) ρ→ρ0.length=n→vs.length=args.length→
   (∀(i:Nat) r v,args[i]? =some r→vs[i]? =some v→RepR m w (fun _=>True) r v)→(∀(i:Nat) v,(W5 args vs)[i]? =some v→σ (o+i)=some v)→
   (Z2 n o pk).length=vs.length∧(∀(i:Nat) s v,(Z2 n o pk)[i]? =some s→vs[i]? =some v→RS σ m (ρ0++ρ++more) s v)∧(∀s∈Z2 n o pk,SV.Ok (ρ0++ρ++more) s)∧
   (W6 n pk).length=(W5 args vs).length∧(Ya pk).length=(W5 args vs).length∧∀(i:Nat) ov,(W6 n pk)[i]? =some ov→OV.Ok (ρ0++ρ++more) ov∧((∃e x,ov=.arr e x)∨∃cs,ov=.box cs)∧
     (∀b,(σ (o+i)).bind blk=some b→m b=none)∧RepO σ m w (o+i) (ov.map (denL (ρ0++ρ++more)))
 | [],[],ρ0,ρ,more,vs,n,o,h,hk,hn,hl,hr,hs=>by
   cases vs with
   |nil=>exact⟨rfl,by simp [Z2],by simp [Z2],rfl,rfl,by simp [W6]⟩
   |cons v vs=>simp at hl
 | [],_::_,_,_,_,_,_,_,h,_,_,_,_,_=>by simp [Wc]at h
 | .cell k::pk,[],_,_,_,_,_,_,h,_,_,_,_,_=>by simp [Wc]at h
 | .agg k::pk,[],_,_,_,_,_,_,h,_,_,_,_,_=>by simp [Wc]at h
 | .own k::pk,[],_,_,_,_,_,_,h,_,_,_,_,_=>by simp [Wc]at h
 | .box k::pk,[],_,_,_,_,_,_,h,_,_,_,_,_=>by simp [Wc]at h
 | .any::pk,[],_,_,_,_,_,_,h,_,_,_,_,_=>by simp [Wc]at h
 | .any::pk,r::args,ρ0,ρ,more,vs,n,o,h,hk,hn,hl,hr,hs=>by
   cases vs with
   |nil=>simp at hl
   |cons v vs=>
   cases r with
   |own e xs=>simp [Wc]at h
   |box cs=>simp [Wc]at h
   |any=>simp [Wc]at h
   |d  d=>
   simp only [Wc]at h;have hkk:Y1 (.any::pk)=Y1 pk:=rfl;rw [hkk]at hk;obtain⟨l,r,oo,l2,l3,ro⟩:=JE (σ:=σ) (w:=w) (ρ0:=ρ0) (more:=more) (vs:=vs) (n:=n) (o:=o) h hk hn (by simpa using hl) (fun i d v h1 h2=>hr (i+1) d v (by simpa using h1) (by simpa using h2)) (by simpa [W5]using hs);refine⟨by simp [Z2,PK.kinds,l],?_,?_,by simpa [W6,W5,PK.kinds]using l2,by simpa [Ya,W5]using l3,by simpa [W6,PK.kinds]using ro⟩
   · intro i s u hs' hu;cases i with
     |zero=>simp [Z2,Zm]at hs' hu;subst hs' hu;exact .any
     |succ i=>exact r i s u (by simpa [Z2,PK.kinds]using hs') (by simpa using hu)
   · intro s hs';simp only [Z2,Zm,List.mem_cons]at hs';rcases hs' with rfl|hs'
     · exact .any
     · exact oo s (by simpa [PK.kinds]using hs')
 | .cell k::pk,r::args,ρ0,ρ,more,vs,n,o,h,hk,hn,hl,hr,hs=>by
   cases vs with
   |nil=>simp at hl
   |cons v vs=>
   cases r with
   |own e xs=>simp [Wc]at h
   |box cs=>simp [Wc]at h
   |any=>simp [Wc]at h
   |d d=>
   simp only [Wc,Option.map_eq_some_iff]at h;obtain⟨ρ',h',rfl⟩:=h;have hkk:Y1 (.cell k::pk)=k::Y1 pk:=rfl;rw [hkk]at hk;simp only [HasKs]at hk;obtain⟨l,r,oo,l2,l3,ro⟩:=JE (σ:=σ) (w:=w) (ρ0:=ρ0++[d]) (more:=more) (vs:=vs) (n:=n+1) (o:=o) h' hk.2 (by simp [hn]) (by simpa using hl) (fun i d v h1 h2=>hr (i+1) d v (by simpa using h1) (by simpa using h2)) (by simpa [W5]using hs);have hvar:(ρ0++d::ρ'++more)[n]? =some d:=by rw [←hn];simp
   have e:ρ0++[d]++ρ'++more=ρ0++d::ρ'++more:=by simp
   rw [e]at r oo ro;refine⟨by simp [Z2,PK.kinds,l],?_,?_,by simpa [W6,W5,PK.kinds]using l2,by simpa [Ya,W5]using l3,by simpa [W6,PK.kinds]using ro⟩
   · intro i s u hs' hu;cases i with
     | zero=>
       simp [Z2,Zm]at hs' hu;subst hs' hu;refine .d ?_;rw [Zx hvar];have:=hr 0 _ _ rfl rfl;cases this;assumption
     |succ i=>exact r i s u (by simpa [Z2,PK.kinds]using hs') (by simpa using hu)
   · intro s hs';simp only [Z2,Zm,List.mem_cons]at hs';rcases hs' with rfl|hs'
     · exact .d (.var hvar hk.1)
     · exact oo s (by simpa [PK.kinds]using hs')
 | .agg ks::pk,r::args,ρ0,ρ,more,vs,n,o,h,hk,hn,hl,hr,hs=>by
   cases vs with
   |nil=>simp at hl
   |cons v vs=>
   cases r with
   |own e xs=>simp [Wc]at h
   |box cs=>simp [Wc]at h
   |any=>simp [Wc]at h
   |d d=>
   cases d <;> simp only [Wc]at h <;> try (cases h;done)
   rename_i cs;split at h <;> try contradiction
   rename_i hlen;simp only [Option.map_eq_some_iff]at h;obtain⟨ρ',h',rfl⟩:=h;have hkk:Y1 (.agg ks::pk)=ks++Y1 pk:=rfl;rw [hkk]at hk;obtain⟨k1,k2⟩:=HasKs.unappend hlen hk;obtain⟨l,r,oo,l2,l3,ro⟩:=JE (σ:=σ) (w:=w) (ρ0:=ρ0++cs) (more:=more) (vs:=vs) (n:=n+ks.length) (o:=o) h' k2 (by simp [hn,hlen]) (by simpa using hl) (fun i d v h1 h2=>hr (i+1) d v (by simpa using h1) (by simpa using h2)) (by simpa [W5]using hs);have e:ρ0++cs++ρ'++more=ρ0++(cs++ρ')++more:=by simp
   rw [e]at r oo ro;have hV:Vars (ρ0++(cs++ρ')++more) n cs:=by
     intro i d hd;have hlt:=(List.getElem?_eq_some_iff.1 hd).1;rw [List.append_assoc,List.getElem?_append_right (by omega), ←hn,Nat.add_sub_cancel_left,List.append_assoc,List.getElem?_append_left hlt];exact hd
   obtain⟨c1,c2,c3⟩:=Jm hV k1;refine⟨by simp [Z2,PK.kinds,l],?_,?_,by simpa [W6,W5,PK.kinds]using l2,by simpa [Ya,W5]using l3,by simpa [W6,PK.kinds]using ro⟩
   · intro i s u hs' hu;cases i with
     | zero=>
       simp [Z2,Zm]at hs' hu;subst hs' hu;have hd:=hr 0 _ _ rfl rfl;cases hd with
       |d hd=>
       cases hd with
       |agg _ arr hsz hvv=>
       simp only [RS,SV.map,SV.mapL_eq,List.map_map];refine .agg (by simp [hsz,c1]) fun i c v hc hu=>?_
       simp only [List.getElem?_map,Option.map_eq_some_iff]at hc;obtain⟨y,hy,rfl⟩:=hc;have hlt:i < cs.length:=by rw [←c1];exact(List.getElem?_eq_some_iff.1 hy).1
       refine .d ?_;rw [c3 i y _ hy (List.getElem?_eq_getElem hlt)];exact hvv i _ v (List.getElem?_eq_getElem hlt) hu
     |succ i=>exact r i s u (by simpa [Z2,PK.kinds]using hs') (by simpa using hu)
   · intro s hs';simp only [Z2,Zm,List.mem_cons]at hs';rcases hs' with rfl|hs'
     · exact .agg fun c hc=>by obtain⟨y,hy,rfl⟩:=List.mem_map.1 hc;exact .d (c2 y hy)
     · exact oo s (by simpa [PK.kinds]using hs')
 | .own ks::pk,r::args,ρ0,ρ,more,vs,n,o,h,hk,hn,hl,hr,hs=>by
   cases vs with
   |nil=>simp at hl
   |cons v vs=>
   cases r with
   |d d=>simp [Wc]at h
   |any=>simp [Wc]at h
   |box cs=>simp [Wc]at h
   |own e xs=>
   simp only [Wc]at h;split at h <;> try contradiction
   rename_i he;simp only [Option.map_eq_some_iff]at h;obtain⟨ρ',h',rfl⟩:=h;have hkk:Y1 (.own ks::pk)=.slice ks::Y1 pk:=rfl;rw [hkk]at hk;simp only [HasKs]at hk;have hσ:σ o=some v:=by have:=hs 0 v (by simp [W5]);simpa using this
   obtain⟨l,r,oo,l2,l3,ro⟩:=JE (σ:=σ) (w:=w) (ρ0:=ρ0++[.slice xs]) (more:=more) (vs:=vs) (n:=n+1) (o:=o+1) h' hk.2 (by simp [hn]) (by simpa using hl) (fun i d v h1 h2=>hr (i+1) d v (by simpa using h1) (by simpa using h2))
     (fun i v hv=>by have:=hs (i+1) v (by simpa [W5]using hv);rw [←this];congr 1;omega)
   have hvar:(ρ0++.slice xs::ρ'++more)[n]? =some (.slice xs):=by rw [←hn];simp
   have e1:ρ0++[.slice xs]++ρ'++more=ρ0++.slice xs::ρ'++more:=by simp
   rw [e1]at r oo ro;have hr0:=hr 0 _ _ rfl rfl;refine⟨by simp [Z2,l],?_,?_,by simp [W6,W5,l2],by simp [Ya,W5,l3],?_⟩
   · intro i s u hs' hu;cases i with
     |zero=>simp [Z2,Zm]at hs' hu;subst hs' hu;exact .own hσ
     |succ i=>exact r i s u (by simpa [Z2]using hs') (by simpa using hu)
   · intro s hs';simp only [Z2,Zm,List.mem_cons]at hs';rcases hs' with rfl|hs'
     · exact .own
     · exact oo s hs'
   · intro i ov hov;cases i with
     | zero=>
       simp [W6]at hov;subst hov;have hden:denL (ρ0++.slice xs::ρ'++more) ⟨.var n,.slice ks⟩=.slice xs:=Zx hvar;refine⟨.arr (.var hvar hk.1),.inl ⟨_,_,rfl⟩,?_,?_⟩
       · intro b hb;rw [Nat.add_zero,hσ,Option.bind_some]at hb;cases hr0 with
         |none=>simp [Zn]at hb
         |own hB hm hb' h0=>rw [Z9 h0]at hb;cases hb;exact hm
       · simp only [OV.map,hden,Nat.add_zero];cases hr0 with
         |none=>rw [←he];exact .none hσ
         |own hB hm hb' h0 hc hcc hcap hsz hee hvv=>subst he;exact .arr hσ hb' h0 hc hcc hcap hsz hee hvv
     | succ i=>
       have:=ro i ov (by simpa [W6]using hov);rw [show o+(i+1)=o+1+i by omega];exact this
 | .box ks::pk,r::args,ρ0,ρ,more,vs,n,o,h,hk,hn,hl,hr,hs=>by
   cases vs with
   |nil=>simp at hl
   |cons v vs=>
   cases r with
   |d d=>simp [Wc]at h
   |any=>simp [Wc]at h
   |own e xs=>simp [Wc]at h
   |box cs=>
   simp only [Wc]at h;split at h <;> try contradiction
   rename_i hlen;simp only [Option.map_eq_some_iff]at h;obtain⟨ρ',h',rfl⟩:=h;have hkk:Y1 (.box ks::pk)=ks++Y1 pk:=rfl;rw [hkk]at hk;obtain⟨k1,k2⟩:=HasKs.unappend hlen hk;have hσ:σ o=some v:=by have:=hs 0 v (by simp [W5]);simpa using this
   obtain⟨l,r,oo,l2,l3,ro⟩:=JE (σ:=σ) (w:=w) (ρ0:=ρ0++cs) (more:=more) (vs:=vs) (n:=n+ks.length) (o:=o+1) h' k2 (by simp [hn,hlen]) (by simpa using hl) (fun i d v h1 h2=>hr (i+1) d v (by simpa using h1) (by simpa using h2))
     (fun i v hv=>by have:=hs (i+1) v (by simpa [W5]using hv);rw [←this];congr 1;omega)
   have e:ρ0++cs++ρ'++more=ρ0++(cs++ρ')++more:=by simp
   rw [e]at r oo ro;have hV:Vars (ρ0++(cs++ρ')++more) n cs:=by
     intro i d hd;have hlt:=(List.getElem?_eq_some_iff.1 hd).1;rw [List.append_assoc,List.getElem?_append_right (by omega), ←hn,Nat.add_sub_cancel_left,List.append_assoc,List.getElem?_append_left hlt];exact hd
   obtain⟨c1,c2,c3⟩:=Jm hV k1;have hr0:=hr 0 _ _ rfl rfl;refine⟨by simp [Z2,l],?_,?_,by simp [W6,W5,l2],by simp [Ya,W5,l3],?_⟩
   · intro i s u hs' hu;cases i with
     | zero=>
       simp [Z2,Zm]at hs' hu;subst hs' hu;cases hr0 with
       |box hB hm hb hsz hvv=>exact .ptr hσ
     |succ i=>exact r i s u (by simpa [Z2]using hs') (by simpa using hu)
   · intro s hs';simp only [Z2,Zm,List.mem_cons]at hs';rcases hs' with rfl|hs'
     · exact .ptr
     · exact oo s hs'
   · intro i ov hov;cases i with
     | zero=>
       simp [W6]at hov;subst hov;cases hr0 with
       |box hB hm hb hsz hvv=>
       refine⟨.box fun c hc=>by obtain⟨y,hy,rfl⟩:=List.mem_map.1 hc;exact .d (c2 y hy),.inr ⟨_,rfl⟩,?_,?_⟩
       · intro b hb';rw [Nat.add_zero,hσ]at hb';simp [blk]at hb';subst hb';exact hm
       · simp only [OV.map,List.map_map,Nat.add_zero];refine .box hσ hb (by simp [hsz,c1]) fun i c v hc hu=>?_
         simp only [List.getElem?_map,Option.map_eq_some_iff]at hc;obtain⟨y,hy,rfl⟩:=hc;have hlt:i < cs.length:=by rw [←c1];exact(List.getElem?_eq_some_iff.1 hy).1
         refine .d ?_;rw [c3 i y _ hy (List.getElem?_eq_getElem hlt)];exact hvv i _ v (List.getElem?_eq_getElem hlt) hu
     | succ i=>
       have:=ro i ov (by simpa [W6]using hov);rw [show o+(i+1)=o+1+i by omega];exact this
theorem WA:∀ {pk:List PK} {k n i q:Nat},(Zp k (Ya pk))[i]? =some (.ptr q 0)→∃cs,(W6 n pk)[i]? =some (.box cs)
 | [],k,n,i,q,h=>by simp [Ya,Zp]at h
 | .cell _::pk,k,n,i,q,h=>WA (pk:=pk) (by simpa [Ya]using h)
 | .agg _::pk,k,n,i,q,h=>WA (pk:=pk) (by simpa [Ya]using h)
 | .any::pk,k,n,i,q,h=>WA (pk:=pk) (by simpa [Ya]using h)
 | .own ks::pk,k,n,0,q,h=>by simp [Ya,Zp]at h
 | .own ks::pk,k,n,i+1,q,h=>by
   obtain⟨cs,h⟩:=WA (pk:=pk) (n:=n+1) (k:=k+1) (i:=i) (q:=q) (by simpa [Ya,Zp]using h);exact⟨cs,by simpa [W6]using h⟩
 | .box ks::pk,k,n,0,q,h=>⟨_,by simp [W6];rfl⟩
 | .box ks::pk,k,n,i+1,q,h=>by
   obtain⟨cs,h⟩:=WA (pk:=pk) (n:=n+ks.length) (k:=k+1) (i:=i) (q:=q) (by simpa [Ya,Zp]using h);exact⟨cs,by simpa [W6]using h⟩
theorem Z64:∀ {is:List Nat} {objs objs':List (OV TK)} {m:Mem},Fits E σ m (W0 ρ ⟨ts,objs⟩) a w→(∀o∈objs,OV.Ok ρ o)→Z4k objs is=some objs'→
   ∃m',m.le m'∧Fits E σ m' (W0 ρ ⟨ts,objs'⟩) a w∧∀o∈objs',OV.Ok ρ o
 | [],objs,objs',m,hf,hok,h=>by simp [Z4k]at h;subst h;exact⟨m,Mem.le_refl m,hf,hok⟩
 | i ::is,objs,objs',m,hf,hok,h=>by
   simp only [Z4k]at h;split at h <;> try contradiction
   rename_i cs hcs;split at h <;> try contradiction
   rename_i xs objs1 hfr;split at h <;> try contradiction
   rename_i cs1 hcs1;have hobj:=hf.objs i _ (show(W0 ρ ⟨ts,objs⟩).objs[i]? =some (OV.map (denL ρ) (.box cs)) by simp [W0,St.map,hcs]);simp only [OV.map]at hobj;cases hobj with
   |box hs hb hsz hv=>
   rename_i b arr t;have hok0:∀c∈cs,SV.Ok ρ c:=by
     have:=hok _ (List.mem_of_getElem? hcs);cases this with
     |box hh=>exact hh
   obtain⟨m1,f1,l1,k1,r1⟩:=Zu (fun {objs v x objs' m val}=>Zw 6) (vals:=arr.toList) hf hok hfr
     (fun i c v hc hu=>hv i (c.map (denL ρ)) v (by simp [hc]) (by simpa using hu)) (by simpa using hsz) hok0
   have hset:Fits E σ m1 (W0 ρ ⟨ts,objs1.set i (.box (xs.map .d))⟩) a w:=by
     have hF:=f1.fits;have ho1:(W0 ρ ⟨ts,objs1⟩).objs[i]? =some (OV.map (denL ρ) (.box cs1)):=by simp [W0,St.map,hcs1]
     rw [Ye (st:=⟨ts,objs1⟩)];refine hF.update (b:=b) ho1 rfl (by rw [hs];rfl) ⟨rfl,rfl,rfl,Nat.le_refl _,fun _ _ _=>rfl,Nat.le_refl _⟩ ?_ (.inl rfl);simp only [OV.map,List.map_map];refine .box hs hb (by simp [hsz,l1]) fun j c v hc hu=>?_
     simp only [List.getElem?_map,Option.map_eq_some_iff]at hc;obtain⟨y,hy,rfl⟩:=hc;exact .d (r1 j y v hy (by simpa using hu))
   obtain⟨m2,le2,f2,k2⟩:=Z64 hset (fun q hq=>by
     rcases List.mem_or_eq_of_mem_set hq with hq|rfl
     · exact f1.ok q hq
     · exact .box fun c hc=>by obtain⟨y,hy,rfl⟩:=List.mem_map.1 hc;exact .d (k1 y hy)) h
   exact⟨m2,Mem.le_trans f1.le le2,f2,k2⟩
end
def ZeW (P:Program) (md:Mode) (f:FuncId) (pk:List PK) (upd:Bool):SpecX:=fun args K=>
 ∃ρ,Wc pk args=some ρ∧HasKs (Y1 pk) ρ∧denR P (fun _ rs=>K rs) (fun _ _ _ _=>False) (Z8S P md f pk upd) .none ρ
theorem Zd7 (P:Program) (md:Mode) (f:FuncId) (pk:List PK) (upd:Bool) (hcl:J2 P f=true):ContractX P f pk upd (ZeW P md f pk upd):=by
 refine⟨hcl,?_⟩;rintro args K ⟨ρ,hρ,hks,hR⟩ _ w m vs hmem hreps;unfold Z8S at hR;split at hR
 · simp [denR]at hR
 rename_i fn hfn;split at hR
 · simp [denR]at hR
 rename_i c hbody;simp only at hR;rw [Wj]at hR
 let ovs:=W5 args vs
 let σ0:Names:=fun o=>(ovs++if upd then [Value.tuple ovs.toArray]else [])[o]?
 have hσv:∀(i:Nat) v,ovs[i]? =some v→σ0 i=some v:=fun i v hv=>by
   show(ovs++_)[i]? =some v;rw [List.getElem?_append_left (List.getElem?_eq_some_iff.1 hv).1];exact hv
 obtain⟨l,r,o,l2,l3,ro⟩:=JE (σ:=σ0) (m:=m) (w:=w) (ρ0:=[]) (more:=[]) (vs:=vs) (n:=0) (o:=0) hρ hks rfl hreps.len hreps.rep (fun i v hv=>by rw [Nat.zero_add];exact hσv i v hv);simp only [List.nil_append,List.append_nil,Nat.zero_add]at r o ro
 let E:Env:= {w0:=w,m0:=m,mine:=Zi args vs,own:=Zi args vs,P:=P,r:=none,sav:=ovs.toArray,Y:=.off}
 have hlt:∀b,Zi args vs b→b < w.heap.size:=by
   rintro b ⟨i,r,v,h1,h2,h3,h4⟩;have:=hreps.rep i r v h1 h2;cases this with
   |d=>cases h3
   |any=>cases h3
   |none=>simp [Zn]at h4
   |box hB hm hb=>simp [blk]at h4;subst h4;exact(Array.getElem?_eq_some_iff.1 hb).1
   |own hB hm hb h0=>rw [Z9 h0]at h4;cases h4;exact(Array.getElem?_eq_some_iff.1 hb).1
 let objs0:List (OV TK):=W6 0 pk++if upd then [.sav (Zp 0 (Ya pk))]else []
 have hback:∀(i:Nat) c v,(Zp 0 (Ya pk))[i]? =some c→ovs[i]? =some v→RepS σ0 m (c.map (denL ρ)) v:=by
   intro i c v hc hv;have hs:=hσv i v hv;rcases Z22 hc with rfl|rfl
   · simp only [SV.map,Nat.zero_add];exact .own hs
   · obtain⟨cs,hcs⟩:=WA (n:=0) hc;obtain⟨_,_,_,h3⟩:=ro i _ hcs;simp only [OV.map]at h3;cases h3 with
     | box hs'=>
       rw [hs']at hs;cases hs;simp only [SV.map,Nat.zero_add];exact .ptr hs'
 have hob:∀(i:Nat) ov,(objs0.map (OV.map (denL ρ)))[i]? =some ov→(((∃e x,ov=.arr e x)∨∃cs,ov=.box cs)∧RepO σ0 m w i ov∧(∀b,(σ0 i).bind blk=some b→m b=none))∨
     (∃cs,ov=.sav cs∧σ0 i=some (.tuple ovs.toArray)∧RepO σ0 m w i ov):=by
   intro i ov h;simp only [List.getElem?_map,Option.map_eq_some_iff]at h;obtain⟨ov',h,rfl⟩:=h;rw [List.getElem?_append]at h;split at h
   · obtain⟨_,h1,h2,h3⟩:=ro i ov' h;refine .inl ⟨?_,h3,h2⟩;rcases h1 with⟨e,x,rfl⟩|⟨cs,rfl⟩
     · exact .inl ⟨e,_,rfl⟩
     · exact .inr ⟨_,rfl⟩
   · rename_i hi;cases hu:upd with
     |false=>rw [hu]at h;simp at h
     | true=>
       rw [hu]at h;simp only [if_true]at h;have hz:i - (W6 0 pk).length=0:=by
         have:=(List.getElem?_eq_some_iff.1 h).1;simp at this;exact this
       rw [hz]at h;simp at h;subst h;have hi':i=ovs.length:=by rw [l2]at hi hz;show i=(W5 args vs).length;omega
       have hs:σ0 i=some (.tuple ovs.toArray):=by
         show(ovs++_)[i]? =_;rw [hu,List.getElem?_append_right (by omega),hi'];simp
       refine .inr ⟨_,rfl,hs,?_⟩;refine .sav hs (by rw [List.size_toArray,List.length_map,Z3X,l3]) fun j c v hc hv=>?_
       simp only [List.getElem?_map,Option.map_eq_some_iff]at hc;obtain⟨c',hc',rfl⟩:=hc;exact hback j c' v hc' (by simpa using hv)
 have hσ0:∀(i b:Nat),(σ0 i).bind blk=some b→∃v,ovs[i]? =some v∧blk v=some b:=by
   intro i b hb;obtain⟨v,hv,hb⟩:=Option.bind_eq_some_iff.1 hb;have hv:(ovs++if upd then [Value.tuple ovs.toArray]else [])[i]? =some v:=hv;rw [List.getElem?_append]at hv;split at hv
   · exact⟨v,hv,hb⟩
   · cases upd with
     |false=>simp at hv
     | true=>
       have:=List.mem_of_getElem? hv;simp at this;subst this;simp [blk]at hb
 have hOB:∀(i b:Nat),(σ0 i).bind blk=some b→Zi args vs b:=by
   intro i b hb;obtain⟨v,hv,hb⟩:=hσ0 i b hb;exact(Jy hreps.len.symm).2 ⟨v,List.mem_of_getElem? hv,hb⟩
 have hinj :∀(i j b:Nat),(σ0 i).bind blk=some b→(σ0 j).bind blk=some b→i=j:=by
   intro i j b h1 h2;obtain⟨v,hv,hb⟩:=hσ0 i b h1;obtain⟨v',hv',hb'⟩:=hσ0 j b h2;have key:∀ {args:List RV} {vs:List Value},(∀(i j:Nat) r r' u u' b,i≠j→args[i]? =some r→args[j]? =some r'→vs[i]? =some u→vs[j]? =some u'→r.isOwn=true→r'.isOwn=true→blk u=some b→blk u'≠some b)→
       vs.length=args.length→∀ {i j:Nat} {v v':Value} {b:Nat},(W5 args vs)[i]? =some v→(W5 args vs)[j]? =some v'→blk v=some b→blk v'=some b→i=j:=by
     intro args;induction args with
     |nil=>intro vs _ _ i j v v' b h;cases vs <;> simp [W5]at h
     | cons r args ih=>
       intro vs hs hl i j v v' b h1 h2 h3 h4;cases vs with
       |nil=>simp at hl
       |cons u vs=>
       have hs':∀(i j:Nat) r r' u u' b,i≠j→args[i]? =some r→args[j]? =some r'→vs[i]? =some u→vs[j]? =some u'→r.isOwn=true→r'.isOwn=true→blk u=some b→blk u'≠some b:=
         fun i j r r' u u' b hne a1 a2 a3 a4=>hs (i+1) (j+1) r r' u u' b (by omega) (by simpa using a1) (by simpa using a2) (by simpa using a3) (by simpa using a4)
       have hl':vs.length=args.length:=by simpa using hl
       cases ho:r.isOwn with
       |false=>cases r <;> first|(cases ho;done)|exact ih hs' hl' (by simpa [W5]using h1) (by simpa [W5]using h2) h3 h4
       | true=>
         rw [Z3m ho]at h1 h2;have far:∀ {k:Nat} {y:Value},(W5 args vs)[k]? =some y→blk y=some b→blk u=some b→False:=by
           intro k y hk hy hu;have:Zi args vs b:=(Jy hl'.symm).2 ⟨y,List.mem_of_getElem? hk,hy⟩;obtain⟨q,r',v',a1,a2,a3,a4⟩:=this;exact hs 0 (q+1) _ r' u v' b (by omega) rfl (by simpa using a1) rfl (by simpa using a2) ho a3 hu a4
         cases i with
         | zero=>
           cases j with
           |zero=>rfl
           |succ j=>simp at h1;subst h1;exact(far (by simpa using h2) h4 h3).elim
         | succ i=>
           cases j with
           |zero=>simp at h2;subst h2;exact(far (by simpa using h1) h3 h4).elim
           |succ j=>exact congrArg (· +1) (ih (i:=i) (j:=j) hs' hl' (by simpa using h1) (by simpa using h2) h3 h4)
   exact key hreps.sep hreps.len hv hv' hb hb'
 have hl:(Z2 0 0 pk).length=vs.toArray.size:=by simpa using l
 have hf :Fits E σ0 m (W0 ρ ⟨Z2 0 0 pk++List.replicate (fn.ntmps - (Z2 0 0 pk).length) .any,objs0⟩) {tmps:=vs.toArray++Array.replicate (fn.ntmps - vs.toArray.size) undef,defers:=[]} w:=
   { sz:=by simp [W0,St.map,l]
     tm:=fun i s v hs hv=>by
       simp only [W0,St.map,List.getElem?_map,Option.map_eq_some_iff]at hs;obtain⟨s',hs',rfl⟩:=hs;rw [List.getElem?_append]at hs';split at hs'
       · rename_i hlt;refine r i s' v hs' ?_;rw [Array.getElem?_append,if_pos (by rw [←hl];exact hlt)]at hv;simpa using hv
       · have:=List.mem_of_getElem? hs';rw [List.eq_of_mem_replicate this];exact .any
     dfr:=Marks.nil _ _ _
     yld:=fun i h=>by
       rcases hob i _ h with⟨⟨e,x,he⟩|⟨cs,he⟩,_⟩|⟨cs,he,_⟩ <;> cases he
     sav:=fun i cs h=>by
       rcases hob i _ h with⟨⟨e,x,he⟩|⟨cs,he⟩,_⟩|⟨cs,he,hs,_⟩
       · cases he
       · cases he
       · exact hs
     mem:=hmem,le:=Mem.le_refl m
     objs:=fun i ov h=>by
       rcases hob i _ h with⟨_,h2,_⟩|⟨cs,_,_,h2⟩ <;> exact h2
     sep:=fun i ov b h ha hb=>by
       rcases hob i _ h with⟨_,_,h3⟩|⟨cs,rfl,_,_⟩
       · exact⟨h3 b hb,.inr (hOB i b hb)⟩
       · simp [OV.alive]at ha
     inj:=fun i j ov ov' b _ _ _ _ h1 h2=>hinj i j b h1 h2
     dom:=fun i v h=>by
       have:=(List.getElem?_eq_some_iff.1 h).1;simp only [W0,St.map,List.length_map];show i < (W6 0 pk++_).length;rw [List.length_append,l2];rw [List.length_append]at this;cases upd <;> simpa using this
     grow:=Nat.le_refl _,keep:=fun _ _ _=>rfl,old:=fun _ _ _=>rfl,os:=rfl,tape:=rfl,output:=rfl,drawn:=Nat.le_refl _}
 have hx :XOk ρ {st:= {tmps:=Z2 0 0 pk++List.replicate (fn.ntmps - (Z2 0 0 pk).length) .any,objs:=objs0},nv:=(Y1 pk).length,nl:=0}:=by
   refine⟨⟨fun s hs=>?_,fun ov h=>?_⟩,hks.length⟩
   · rcases List.mem_append.1 hs with hs|hs
     · exact o s hs
     · rw [List.eq_of_mem_replicate hs];exact .any
   · rcases List.mem_append.1 h with h|h
     · obtain⟨i,hi⟩:=List.mem_iff_getElem?.1 h;exact(ro i ov hi).1
     · cases upd with
       |false=>simp at h
       | true=>
         simp at h;subst h;refine .sav fun c hc=>?_
         obtain⟨j,hj⟩:=List.mem_iff_getElem?.1 hc;rcases Z22 hj with rfl|rfl
         · exact .own
         · exact .ptr
 refine Z5R (E:=E) rfl (Zbg md.dep rfl rfl) rfl hfn hbody (fun _=>rfl) ⟨YOk.off P,fun _=>trivial,rfl,fun b h=>⟨h,hlt b h⟩,fun _ _ _ _ _=>trivial⟩ hf hx hR ?_ (fun i ags ρ xs hk=>by simp [denR]at hk);intro e he B ags ρ' xs' σ' m' a' w' hB hY' hK hf' hx';have hB':B=E.toBase:=hB.off rfl;subst hB';have hK':denR P (fun _ rs=>K rs) (fun _ _ _ _=>False) (match(if upd then Ys xs'.st.objs else some (0,[]))with
         |none=>.fail "the frame"
         |some (_,cs)=>match Z4k xs'.st.objs (Z3V cs)with
         |none=>.fail "the boxes"
         |some objs=>match JZ P (Z50 P (md.own.contains f) ⟨xs'.st.tmps,objs⟩ fn.results.toList fn.resultTypes.toList) fn.results.toList fn.resultTypes.toList cs (if upd then Ya pk else [])with|some rs=>.ret rs|none=>.fail "the results") ags ρ':=by
   rcases he with rfl|rfl <;> exact hK
 split at hK'
 · simp [denR]at hK'
 rename_i q cs hcs;split at hK'
 · simp [denR]at hK'
 rename_i objs hset;split at hK'
 · rename_i rs hrs;have hx0:=hx'.all;obtain⟨ext,x1,x2,x3,x4⟩:∃ext:List Value,ext.length=cs.length∧(∀(i:Nat) c v,cs[i]? =some c→ext[i]? =some v→RS σ' m' ρ' c v)∧(∀c∈cs,SV.Ok ρ' c)∧ext=if upd then W5 args vs else []:=by
     cases hu:upd with
     | false=>
       rw [hu]at hcs;cases hcs;exact⟨[],rfl,by simp,by simp,rfl⟩
     | true=>
       rw [hu]at hcs;have hq:=Z0p hcs;have hqd:(W0 ρ' xs'.st).objs[q]? =some (OV.map (denL ρ') (.sav cs)):=by simp [W0,St.map,hq]
       have h1:=hf'.objs q _ hqd;have h2:=hf'.sav q _ hqd;simp only [OV.map]at h1;cases h1 with
       |sav hs hsz hv=>
       rename_i arr;rw [h2]at hs;have hs:ovs.toArray=arr:=by
         have:some (Value.tuple ovs.toArray)=some (.tuple arr):=hs;simpa using this
       subst hs;refine⟨ovs,by simpa using hsz,fun i c v hc hv'=>hv i (c.map (denL ρ')) v (by simp [hc]) (by simpa using hv'),?_,rfl⟩;have:=hx0.objs _ (List.mem_of_getElem? hq);cases this with
       |sav hh=>exact hh
   obtain⟨m1,le1,hf1,hx1⟩:=Z64 (ts:=xs'.st.tmps) hf' hx0.objs hset;obtain⟨σ2,le2,hf2,hx2⟩:=Z3R (E:=E) (own:=md.own.contains f) fn.results.toList fn.resultTypes.toList (st:=⟨xs'.st.tmps,objs⟩) hf1 ⟨hx0.tmps,hx1⟩;obtain⟨us,m2,h1,h2⟩:=Z2a (E:=E) (ext:=ext) hf2 hx2 hrs x1 (fun i c v hc hv=>(x2 i c v hc hv).mono le2 le1) x3;refine⟨_,h1,_,us,_,m2,hK',?_,rfl,rfl,by rw [←x4];exact h2.rep,h2.le,h2.mem,fun b hb=>h2.old b hb,⟨hf'.os,hf'.tape,hf'.output,hf'.drawn,hf'.grow,fun b hb=>hf'.keep b hb⟩⟩;intro rk hrk;refine h2.typed rk ?_;simpa [Zs,hfn]using hrk
 · simp [denR]at hK'
def T.isB:T→Bool
 | .bool _=>true
 | .o1 .not _=>true
 | .o2 .lt _ _| .o2 .le _ _| .o2 .gt _ _| .o2 .ge _ _| .o2 .eq _ _| .o2 .ne _ _| .o2 .band _ _| .o2 .bor _ _=>true
 | .ite _ a b=>a.isB&&b.isB
 |_=>false
theorem T.isB_ok {ρ:List D}:∀ {t:T},t.isB=true→∃b,den ρ t=.bool b:=by
 intro t;induction t with
 |bool b=>intro _;exact⟨b,rfl⟩
 | o1 o a _=>
   intro h;cases o <;> simp [T.isB]at h
   simp only [den];cases den ρ a <;> exact⟨_,rfl⟩
 | o2 o a b _ _=>
   intro h;simp only [den];cases o <;> simp [T.isB]at h <;> cases den ρ a <;> cases den ρ b <;> exact⟨_,rfl⟩
 | ite c a b _ iha ihb=>
   intro h;simp only [T.isB,Bool.and_eq_true]at h;obtain⟨x,hx⟩:=iha h.1;obtain⟨y,hy⟩:=ihb h.2;simp only [den,hx,hy];cases den ρ c <;> try exact⟨_,rfl⟩
   rename_i b;cases b <;> exact⟨_,rfl⟩
 |_=>intro h;simp [T.isB]at h
def T.pcs:Bool→T→List T
 |true,.ite c x (.bool false)=>.ite c x (.bool false)::(c.pcs true++x.pcs true)
 |true,.o2 .band a b=>.o2 .band a b::(a.pcs true++b.pcs true)
 |true,.o1 .not a=>.o1 .not a::a.pcs false
 |false,.ite c (.bool true) y=>.o1 .not (.ite c (.bool true) y)::((if c.isB then c.pcs false else [])++y.pcs false)
 |false,.o2 .bor a b=>.o1 .not (.o2 .bor a b)::(if a.isB&&b.isB then a.pcs false++b.pcs false else [])
 |false,.o1 .not a=>.o1 .not (.o1 .not a)::(if a.isB then a.pcs true else [])
 |true,t=>[t]
 |false,t=>[.o1 .not t]
theorem T.pcs_ok {ρ:List D}:∀ {t:T} {b:Bool},den ρ t=.bool b→∀s∈t.pcs b,den ρ s=.bool true:=by
 intro t;have base:∀ {t:T} {b:Bool},den ρ t=.bool b→(∀s∈(if b then [t]else [.o1 .not t]),den ρ s=.bool true):=by
   intro t b h s hs;cases b with
   |true=>simp at hs;subst hs;exact h
   |false=>simp at hs;subst hs;simp [den,h,O1.eval]
 induction t with
 | ite c x y ihc ihx ihy=>
   intro b h;cases b with
   | true=>
     by_cases hy:y=.bool false
     · subst hy;simp only [T.pcs,List.mem_cons,List.mem_append];have h0:=h;simp only [den]at h;have hc:den ρ c=.bool true:=by
         cases hc:den ρ c with
         | bool b=>cases b with
           |true=>rfl
           |false=>rw [hc]at h;cases h
         |_=>rw [hc]at h;cases h
       rw [hc]at h;rintro s (rfl|hs|hs)
       · exact h0
       · exact ihc hc s hs
       · exact ihx h s hs
     · have:(T.ite c x y).pcs true=[.ite c x y]:=by
         unfold T.pcs;split <;> simp_all
       rw [this];simpa using h
   | false =>
     by_cases hx:x=.bool true
     · subst hx;simp only [T.pcs,List.mem_cons,List.mem_append];have h0:=h;simp only [den]at h;rintro s (rfl|hs|hs)
       · show O1.eval .not (den ρ (.ite c (.bool true) y))=_;rw [show den ρ (.ite c (.bool true) y)=_ from h0];rfl
       · split at hs
         · rename_i hB;obtain⟨v,hv⟩:=T.isB_ok (ρ:=ρ) hB;have:v=false:=by
             cases v with
             |false=>rfl
             |true=>rw [hv]at h;cases h
           subst this;exact ihc hv s hs
         · cases hs
       · refine ihy ?_ s hs;cases hc:den ρ c with
         | bool b=>cases b with
           |true=>rw [hc]at h;cases h
           |false=>rw [hc]at h;exact h
         |_=>rw [hc]at h;exact h
     · have:(T.ite c x y).pcs false=[.o1 .not (.ite c x y)]:=by
         unfold T.pcs;split <;> simp_all
       rw [this];exact base h
 | o1 o a ih=>
   intro b h;by_cases ho:o=.not
   · subst ho;cases b with
     | true=>
       simp only [T.pcs,List.mem_cons];rintro s (rfl|hs)
       · exact h
       · refine ih ?_ s hs;simp only [den]at h;cases ha:den ρ a with
         | bool v=>rw [ha]at h;cases v with
           |true=>cases h
           |false=>rfl
         |_=>rw [ha]at h;cases h
     | false=>
       simp only [T.pcs,List.mem_cons];rintro s (rfl|hs)
       · show O1.eval .not (den ρ (.o1 .not a))=_;rw [h];rfl
       · split at hs
         · rename_i hB;obtain⟨v,hv⟩:=T.isB_ok (ρ:=ρ) hB;refine ih ?_ s hs;simp only [den,hv,O1.eval]at h;cases v with
           |true=>exact hv
           |false=>cases h
         · cases hs
   · have:∀b,(T.o1 o a).pcs b=if b then [.o1 o a]else [.o1 .not (.o1 o a)]:=by
       intro b;cases b <;> cases o <;> first|(exact absurd rfl ho)|rfl
     rw [this];exact base h
 | o2 o x y ihx ihy=>
   intro b h;by_cases hs:(o=.band∧b=true)∨(o=.bor∧b=false)
   · rcases hs with⟨rfl,rfl⟩|⟨rfl,rfl⟩
     · simp only [T.pcs,List.mem_cons,List.mem_append];have h0:=h;simp only [den]at h;have:den ρ x=.bool true∧den ρ y=.bool true:=by
         cases hx:den ρ x <;> cases hy:den ρ y <;> rw [hx,hy]at h <;> simp [O2.eval]at h ⊢
         exact h
       rintro s (rfl|hs|hs)
       · exact h0
       · exact ihx this.1 s hs
       · exact ihy this.2 s hs
     · simp only [T.pcs,List.mem_cons];have h0:=h;simp only [den]at h;rintro s (rfl|hs)
       · show O1.eval .not (den ρ (.o2 .bor x y))=_;rw [h0];rfl
       · split at hs
         · rename_i hB;simp only [Bool.and_eq_true]at hB;obtain⟨v,hv⟩:=T.isB_ok (ρ:=ρ) hB.1;obtain⟨u,hu⟩:=T.isB_ok (ρ:=ρ) hB.2;rw [hv,hu]at h;simp [O2.eval]at h;obtain⟨rfl,rfl⟩:=h;rcases List.mem_append.1 hs with hs|hs
           · exact ihx hv s hs
           · exact ihy hu s hs
         · cases hs
   · have:(T.o2 o x y).pcs b=if b then [.o2 o x y]else [.o1 .not (.o2 o x y)]:=by
       cases b <;> cases o <;> first|rfl|(exact absurd (by simp) hs)
     rw [this];exact base h
 | _=>
   intro b h;cases b
   · exact base h
   · exact base h
structure Kn where
 n:Nat
 ts:List T
def Kn.Ok (k:Kn) (ρ:List D):Prop:=ρ.length=k.n∧∀t∈k.ts,den ρ t=.bool true∧t.under k.n=true
def Kn.has (k:Kn) (t:T):Bool:=k.ts.any (T.beq t)
def Kn.add (k:Kn) (b:Bool) (t:T):Kn:= {k with ts:=(t.pcs b).filter (T.under k.n)++k.ts}
theorem Kn.has_ok {k:Kn} {ρ:List D} (h:k.Ok ρ) {t:T} (ht:k.has t=true):den ρ t=.bool true:=by
 obtain⟨s,hs,he⟩:=List.any_eq_true.1 ht;rw [T.eq_of_beq he];exact(h.2 s hs).1
theorem Kn.Ok.add_ok {k:Kn} {ρ:List D} (h:k.Ok ρ) {b:Bool} {t:T} (ht:den ρ t=.bool b):(k.add b t).Ok ρ:=by
 refine⟨h.1,fun s hs=>?_⟩;rcases List.mem_append.1 hs with hs|hs
 · exact⟨T.pcs_ok ht s (List.mem_filter.1 hs).1,(List.mem_filter.1 hs).2⟩
 · exact h.2 s hs
def Kn.more (k:Kn) (m:Nat):Kn:= {k with n:=k.n+m}
theorem T.under_mono {n m:Nat} (h:n≤m):∀ {t:T},t.under n=true→t.under m=true:=by
 intro t;induction t <;> simp_all [T.under] <;> omega
theorem Kn.Ok.more_ok {k:Kn} {ρ:List D} (h:k.Ok ρ) {m:Nat} {ds:List D} (hd:ds.length=m):(k.more m).Ok (ρ++ds):=by
 refine⟨by simp [h.1,hd,Kn.more],fun t ht=>?_⟩;obtain⟨h1,h2⟩:=h.2 t ht;exact⟨by rw [T.under_ok (by rw [h.1];exact h2)];exact h1,T.under_mono (by simp [Kn.more]) h2⟩
def T.triv:T→Bool
 | .o2 .le (.int _ a) (.int _ b)=>decide (a≤b)
 | .o2 .lt (.int _ a) (.int _ b)=>decide (a < b)
 | .o2 .le (.int _ 0) (.o1 .len _)=>true
 | .o2 .le (.o1 .len a) (.o1 .len b)=>T.beq a b
 | .o2 .eq (.int _ a) (.int _ b)=>decide (a=b)
 | .bool true=>true
 |_=>false
theorem T.triv_ok {ρ:List D} {t:T} (h:t.triv=true):den ρ t=.bool true:=by
 unfold T.triv at h;split at h
 · simp only [den,O2.eval];simpa using h
 · simp only [den,O2.eval];simpa using h
 · rename_i a;simp only [den];cases den ρ a <;> simp [O1.eval,O2.eval]
 · rename_i a b;rw [T.eq_of_beq h];simp only [den];cases den ρ b <;> simp [O1.eval,O2.eval]
 · simp only [den,O2.eval,D.eqb];simpa using h
 · rfl
 · cases h
def Kn.fin (k:Kn) (t:T):T:=if t.triv||k.has t then .bool true else if k.has (.o1 .not t)&&t.isB then .bool false else t
theorem Kn.fin_ok {k:Kn} {ρ:List D} (h:k.Ok ρ) {t:T}:den ρ (k.fin t)=den ρ t:=by
 unfold Kn.fin;split
 · rename_i ht;simp only [Bool.or_eq_true]at ht;rcases ht with ht|ht
   · rw [T.triv_ok ht];rfl
   · rw [Kn.has_ok h ht];rfl
 · split
   · rename_i ht;simp only [Bool.and_eq_true]at ht;have h1:=Kn.has_ok h ht.1;obtain⟨v,hv⟩:=T.isB_ok (ρ:=ρ) ht.2;simp only [den,hv,O1.eval]at h1;cases v with
     |true=>cases h1
     |false=>rw [hv];rfl
   · rfl
def Kn.red (k:Kn):T→T
 | .ite c a b=>match k.red c with
   | .bool true=>k.red a
   | .bool false=>k.red b
   | c'=>
     let a':=(k.add true c').red a
     let b':=(if c'.isB then k.add false c' else k).red b
     if T.beq a' b' then a' else k.fin (.ite c' a' b')
 | .o1 o a=>k.fin (.o1 o (k.red a))
 | .o2 o a b=>k.fin (.o2 o (k.red a) (k.red b))
 | .idx s i j kk=>.idx (k.red s) (k.red i) j kk
 | .lcons a b=>.lcons (k.red a) (k.red b)
 | .push a b=>.push (k.red a) (k.red b)
 | .upd s i j e=>.upd (k.red s) (k.red i) j (k.red e)
 | .sub s a b=>.sub (k.red s) (k.red a) (k.red b)
 | .rep a b=>.rep (k.red a) (k.red b)
 | .sel a b kk=>.sel (k.red a) (k.red b) kk
 | .clo f e=>.clo f (k.red e)
 | .ptr e=>.ptr (k.red e)
 | .fld p j kk=>.fld (k.red p) j kk
 | .padd p j=>.padd (k.red p) j
 | .var i=>k.fin (.var i)
 |t=>t
open Classical in
theorem Kn.red_ok {ρ:List D}:∀ {t:T} {k:Kn},k.Ok ρ→den ρ (k.red t)=den ρ t:=by
 intro t;induction t with
 | ite c a b ihc iha ihb=>
   intro k h;have hc:=ihc h;simp only [Kn.red];split
   · rename_i e;rw [e]at hc;simp only [den]at hc ⊢;rw [←hc,iha h];rfl
   · rename_i e;rw [e]at hc;simp only [den]at hc ⊢;rw [←hc,ihb h];rfl
   · have ha:den ρ c=.bool true→den ρ ((k.add true (k.red c)).red a)=den ρ a:=fun e=>iha (h.add_ok (by rw [hc];exact e))
     have hb:den ρ c≠.bool true→den ρ ((if(k.red c).isB then k.add false (k.red c)else k).red b)=den ρ b:=fun e=>by
       refine ihb ?_;split
       · rename_i hB;obtain⟨v,hv⟩:=T.isB_ok (ρ:=ρ) hB;refine h.add_ok ?_;cases v with
         |true=>rw [hc]at hv;exact absurd hv e
         |false=>exact hv
       · exact h
     have hcond:∀x y:D,D.cond (den ρ c) x y=if den ρ c=.bool true then x else y:=by
       intro x y;cases den ρ c with
       |bool v=>cases v <;> simp [D.cond]
       |_=>simp [D.cond]
     generalize (if(k.red c).isB then k.add false (k.red c)else k).red b=b' at hb;generalize (k.add true (k.red c)).red a=a' at ha;by_cases hq:T.beq a' b'=true
     · rw [if_pos hq];have hq:=T.eq_of_beq hq;simp only [den,hcond];split
       · rename_i e;exact ha e
       · rename_i e;rw [hq];exact hb e
     · rw [if_neg hq,Kn.fin_ok h];simp only [den,hc,hcond];split
       · rename_i e;exact ha e
       · rename_i e;exact hb e
 |o1 o a ih=>intro k h;simp only [Kn.red];rw [Kn.fin_ok h];simp only [den,ih h]
 |o2 o a b iha ihb=>intro k h;simp only [Kn.red];rw [Kn.fin_ok h];simp only [den,iha h,ihb h]
 |var i=>intro k h;simp only [Kn.red];rw [Kn.fin_ok h]
 |_=>intro k h;simp_all [Kn.red,den]
def RT.red (k:Kn):RT→RT
 | .d t=>.d (k.red t)
 | .own e t=>.own e (k.red t)
 | .box t=>.box (k.red t)
theorem RT.red_ok {k:Kn} {ρ:List D} (h:k.Ok ρ) (r:RT):RT.den ρ (r.red k)=RT.den ρ r:=by
 cases r <;> simp only [RT.red,RT.den,Kn.red_ok h]
def Fv.red (k:Kn):Fv→Fv
 | .fn f=>.fn f
 | .val t=>.val (k.red t)
def R.opt (k:Kn):R→R
 | .fail s=>.fail s
 | .need t r=>match k.red t with
   | .bool true=>r.opt k
   |t'=>.need t' (r.opt (k.add true t'))
 | .fact t r=>match k.red t with
   | .bool true=>r.opt k
   |t'=>.fact t' (r.opt (k.add true t'))
 | .ite t a b=>match k.red t with
   | .bool true=>a.opt k
   | .bool false=>b.opt k
   |t'=>.ite t' (a.opt (k.add true t')) (b.opt (k.add false t'))
 | .lets ts r=>.lets (ts.map k.red) (r.opt (k.more ts.length))
 | .call none f args res r=>.call none (f.red k) (args.map k.red) res (r.opt (k.more (RK.all res).length))
 | .call (some c) f args res r=>match k.red c with
   | .bool true=>.call none (f.red k) (args.map k.red) res (r.opt (k.more (RK.all res).length))
   |c'=>.call (some c') (f.red (k.add true c')) (args.map (k.add true c').red) res (r.opt (k.more (RK.all res).length))
 | .loop l i ks b=>.loop l (i.map k.red) ks (b.opt (k.more ks.length))
 | .again l ts=>.again l (ts.map k.red)
 | .leaf e xs=>.leaf e xs
 | .ret rs=>.ret (rs.map (RT.red k))
 | .callX u f args res r=>.callX u f (args.map (RT.red k)) res (r.opt (k.more (RK.all res).length))
 | .yield args r=>.yield (args.map k.red) (r.opt (k.more 1))
 | .guess t r=>.guess (k.red t) (r.opt (k.more 1))
 | .mix f sz sh r=>.mix f sz sh (r.opt k)
 | .iter l t i ks pk b d=>.iter l (k.red t) (i.map k.red) ks pk (b.opt (k.more (ks.length+(Y1 pk).length))) (d.opt (k.more ks.length))
 | .join l ks b c=>.join l ks (b.opt k) (c.opt (k.more ks.length))
theorem Z0L {k:Kn} {ρ:List D} (h:k.Ok ρ) (ts:List T):(ts.map k.red).map (den ρ)=ts.map (den ρ):=by
 rw [List.map_map];exact List.map_congr_left fun t _=>Kn.red_ok h
theorem Z6E {k:Kn} {ρ:List D} (h:k.Ok ρ) (rs:List RT):(rs.map (RT.red k)).map (RT.den ρ)=rs.map (RT.den ρ):=by
 rw [List.map_map];exact List.map_congr_left fun t _=>RT.red_ok h t
theorem Z0i {P:Program} {k:Kn} {ρ:List D} (h:k.Ok ρ) {f:Fv} {args:List T} {res:List RK} {J J':List D→Prop} (hJ:∀rs,rs.length=(RK.all res).length→J rs→J' rs) (hc:JL P ρ (f.red k) (args.map k.red) res J):JL P ρ f args res J':=by
 cases f with
 | fn f=>
   obtain⟨s,h1,h2⟩:=hc;rw [Z0L h]at h2;exact⟨s.up,h1.up,_,h2,fun rvs ⟨rs,g1,g2⟩=>⟨rs,g1,hJ rs ((RV.all_len g1).2) g2⟩⟩
 | val t=>
   obtain⟨s,h1,h2⟩:=hc;rw [Z0L h]at h2;rw [Kn.red_ok h]at h1;refine⟨s.up,?_,_,h2,fun rvs ⟨rs,g1,g2,g3⟩=>⟨rs,g1,g2,hJ rs ((RV.all_len g1).2) g3⟩⟩;simp only [FvC]at h1 ⊢;split at h1
   · obtain⟨h0,s',hs',hc⟩:=h1;refine⟨h0,s'.up,hs'.up,?_⟩;rintro as_ K ⟨K0,h3,h4⟩;obtain⟨g1,g2⟩:=hc _ _ h3;exact⟨⟨K0,g1,h4⟩,g2⟩
   · exact h1
theorem Z8l {P:Program} {F:Option Nat→List RV→Prop} {K:Ags→List D→XExit→XS→Prop}:∀(r:R) {k:Kn} {ags:Ags} {ρ:List D},k.Ok ρ→denR P F K (r.opt k) ags ρ→denR P F K r ags ρ:=by
 intro r;induction r with
 |fail=>intro k ags ρ hk h;exact h
 | need t r ih=>
   intro k ags ρ hk h;simp only [R.opt]at h;have hr:=Kn.red_ok (t:=t) hk;split at h
   · rename_i hc;rw [hc]at hr;exact⟨hr.symm,ih hk h⟩
   · exact And.intro (by rw [←hr];exact h.1) (ih (hk.add_ok h.1) h.2)
 | fact t r ih=>
   intro k ags ρ hk h;simp only [R.opt]at h;have hr:=Kn.red_ok (t:=t) hk;split at h
   · intro _;exact ih hk h
   · intro ht;rw [←hr]at ht;exact ih (hk.add_ok ht) (h ht)
 | ite t a b iha ihb=>
   intro k ags ρ hk h;simp only [R.opt]at h;have hr:=Kn.red_ok (t:=t) hk;split at h
   · rename_i hc;rw [hc]at hr;exact And.intro (fun _=>iha hk h) (fun(hf:den ρ t=.bool false)=>by rw [←hr]at hf;cases hf)
   · rename_i hc;rw [hc]at hr;exact⟨fun(hf:den ρ t=.bool true)=>(by rw [←hr]at hf;cases hf),fun _=>ihb hk h⟩
   · refine⟨fun ht=>?_,fun ht=>?_⟩
     · rw [←hr]at ht;exact iha (hk.add_ok ht) (h.1 ht)
     · rw [←hr]at ht;exact ihb (hk.add_ok ht) (h.2 ht)
 | lets ts r ih=>
   intro k ags ρ hk h;simp only [R.opt,denR]at h;rw [Z0L hk]at h;exact ih (hk.more_ok (by simp)) h
 | call g f args res r ih=>
   intro k ags ρ hk h;cases g with
   | none=>
     simp only [R.opt,denR]at h;exact Z0i hk (fun rs hl h=>ih (hk.more_ok hl) h) h
   | some c=>
     simp only [R.opt]at h;have hr:=Kn.red_ok (t:=c) hk;split at h
     · rename_i hc;rw [hc]at hr;simp only [denR]at h ⊢;refine⟨fun rs=>denR P F K r ags (ρ++rs),fun _=>Z0i hk (fun rs hl h=>ih (hk.more_ok hl) h) h,fun(hf:den ρ c=.bool false)=>(by rw [←hr]at hf;cases hf),fun rs _ h=>h⟩
     · simp only [denR]at h ⊢;obtain⟨J,h1,h2,h3⟩:=h;refine⟨J,fun ht=>?_,fun hf=>?_,fun rs hks hj=>ih (hk.more_ok hks.length) (h3 rs hks hj)⟩
       · rw [←hr]at ht;exact Z0i (hk.add_ok ht) (fun _ _ h=>h) (h1 ht)
       · rw [←hr]at hf;exact h2 hf
 | loop l inits ks b ih=>
   intro k ags ρ hk h;simp only [R.opt,denR]at h ⊢;rw [Z0L hk]at h;obtain⟨Inv,μ,h1,h2⟩:=h;exact⟨Inv,μ,h1,fun c xs a a'=>ih (hk.more_ok a.length) (h2 c xs a a')⟩
 | again l ts=>
   intro k ags ρ hk h;simp only [R.opt,denR]at h ⊢;rw [Z0L hk]at h;exact h
 |leaf e xs=>intro k ags ρ hk h;exact h
 | ret rs=>
   intro k ags ρ hk h;simp only [R.opt,denR]at h ⊢;rw [Z6E hk]at h;exact h
 | callX u f args res r ih=>
   intro k ags ρ hk h;simp only [R.opt,denR]at h ⊢;rw [Z6E hk]at h;obtain⟨pk,s,h1,ht,hu,h2⟩:=h;exact⟨pk,s.up,h1.up,ht,hu,_,h2,fun rvs ⟨rs,g1,g2⟩=>⟨rs,g1,ih (hk.more_ok ((RV.all_len g1).2)) g2⟩⟩
 | yield args r ih=>
   intro k ags ρ hk h;simp only [R.opt,denR]at h ⊢;rw [Z0L hk]at h;obtain⟨c,h1,h2,h3⟩:=h;exact⟨c,h1,h2,fun b hb=>ih (hk.more_ok rfl) (h3 b hb)⟩
 |mix f sz sh r ih=>intro k ags ρ hk h;exact⟨h.1,ih hk h.2⟩
 | guess t r ih=>
   intro k ags ρ hk h b hb;simp only [R.opt,denR]at h;rw [Kn.red_ok hk]at h;exact ih (hk.more_ok rfl) (h b hb)
 | iter l t i ks pk b d ihb ihd=>
   intro k ags ρ hk h;simp only [R.opt,denR]at h ⊢;rw [Z0L hk,Kn.red_ok hk]at h;obtain⟨xs,Inv,h1,h2,h3,h4,h5⟩:=h;refine⟨xs,Inv,h1,h2,h3,fun i x fx c ys a1 a2 a3 a4 a5=>?_,fun c ys a1 a2=>ihd (hk.more_ok a1.length) (h5 c ys a1 a2)⟩;have:=h4 i x fx c ys a1 a2 a3 a4 a5;rw [List.append_assoc]at this ⊢;exact ihb (hk.more_ok (by simp [a3.length,a4.length])) this
 | join l ks b c ihb ihc=>
   intro k ags ρ hk h;simp only [R.opt,denR]at h ⊢;obtain⟨Inv,h1,h2⟩:=h;exact⟨Inv,ihb hk h1,fun c xs a1 a2=>ihc (hk.more_ok a1.length) (h2 c xs a1 a2)⟩
def fnO (P:Program) (md:Mode) (f:FuncId) (pk:List PK):R:=(sxFn P md f pk).opt ⟨(Y1 pk).length,[]⟩
def fnXO (P:Program) (md:Mode) (f:FuncId) (pk:List PK):R:=(Z8S P md f pk false).opt ⟨(Y1 pk).length,[]⟩
def fnUO (P:Program) (md:Mode) (f:FuncId) (pk:List PK):R:=(Z8S P md f pk true).opt ⟨(Y1 pk).length,[]⟩
def Zcv (P:Program) (md:Mode) (f:FuncId) (pk:List PK):R:=(Z9W P md f pk).opt ⟨(Y1 pk).length,[]⟩
def noK:Ags→List D→XExit→XS→Prop:=fun _ _ _ _=>False
inductive Small:D→Prop
 |int {k:IntKind} {n:Int}:Small (.int k n)
 |bool {b:Bool}:Small (.bool b)
 |str {s:List UInt8} (h:s.length≤cap):Small (.str s)
 |slice {xs:List (List D)} (h:xs.length≤cap) (he:∀x∈xs,∀d∈x,Small d):Small (.slice xs)
 |clo {f:FuncId} {cs:List D} (h:∀d∈cs,Small d):Small (.clo f cs)
 |agg {cs:List D} (h:∀d∈cs,Small d):Small (.agg cs)
 |ptr {cs:List D} (h:∀d∈cs,Small d):Small (.ptr cs)
 |mp {xs:List (List D)}:Small (.mp xs)
theorem Small.str_iff {s:List UInt8}:Small (.str s)↔s.length≤140737488355328:=⟨fun h=>by cases h;assumption,fun h=>.str h⟩
theorem RepD.small {m:Mem} {d:D} {v:Value} (h:RepD m d v):Small d:=by
 have at_:∀ {l:List D} {n:Nat} {arr:Array Value},n+l.length≤arr.size→(∀(j:Nat) d v,l[j]? =some d→arr[n+j]? =some v→Small d)→∀d∈l,Small d:=by
   intro l n arr hn hv d hd;obtain⟨j,hj⟩:=List.mem_iff_getElem?.1 hd;have hlt:=(List.getElem?_eq_some_iff.1 hj).1;exact hv j d _ hj (Array.getElem?_eq_getElem (by omega))
 induction h with
 |int=>exact .int
 |bool=>exact .bool
 |str s h=>exact .str h
 |empty=>exact .slice (by simp) (by simp)
 | slice xs b off arr t fz e c hc hcap hm he hsz _ ih=>
   refine .slice hcap fun x hx=>?_
   obtain⟨i,hi⟩:=List.mem_iff_getElem?.1 hx;have hlt:=(List.getElem?_eq_some_iff.1 hi).1;have hxl:=he x hx;refine at_ (n:=off+i * e) (arr:=arr) ?_ (fun j d v h1 h2=>ih i j x d v hi h1 (by rw [←h2]));have:(i+1) * e≤xs.length * e:=Nat.mul_le_mul_right _ hlt;rw [Nat.add_mul,Nat.one_mul]at this;omega
 |clo f caps arr hsz _ ih=>exact .clo (at_ (n:=0) (arr:=arr) (by omega) fun j d v h1 h2=>ih j d v h1 (by simpa using h2))
 |agg cs arr hsz _ ih=>exact .agg (at_ (n:=0) (arr:=arr) (by omega) fun j d v h1 h2=>ih j d v h1 (by simpa using h2))
 |ptr cs b off arr t fz hm hsz _ ih=>exact .ptr (at_ (n:=off) (arr:=arr) hsz ih)
 |mp=>exact .mp
theorem Contract.weaken_small {P:Program} {f:FuncId} {s s':Spec} (h:Contract P f s) (hs:∀args K,Zr P f args→(∀d∈args,Small d)→s' args K→s args K):Contract P f s':=
 ⟨h.1,fun args K h' ht w m vs hm hsz hv=>h.2 args K (hs args K ht (fun d hd=>by
   obtain⟨i,hi⟩:=List.mem_iff_getElem?.1 hd;have hlt:=(List.getElem?_eq_some_iff.1 hi).1;exact(hv i d _ hi (Array.getElem?_eq_getElem (by omega))).small) h') ht w m vs hm hsz hv⟩
theorem Contract.of {P:Program} {md:Mode} {f:FuncId} {pk:List PK} {s:Spec} {t:R} (hcl:J2 P f=true) (ht:fnO P md f pk=t)
   (h:∀args K,s args K→(∀d∈args,Small d)→∃ρ,Jr pk args=some ρ∧HasKs (Y1 pk) ρ∧denR P (fun _ rs=>K rs) noK t .none ρ):Contract P f s:=by
 refine(fn_ok P md f pk hcl).weaken_small fun args K _ hsm hs=>?_
 obtain⟨ρ,h1,h2,h3⟩:=h args K hs hsm;rw [←ht]at h3;exact⟨ρ,h1,h2,Z8l _ ⟨h2.length,by simp⟩ h3⟩
theorem ContractX.of {P:Program} {md:Mode} {f:FuncId} {pk:List PK} {s:SpecX} {t:R} (hcl:J2 P f=true) (ht:fnXO P md f pk=t)
   (h:∀args K,s args K→∃ρ,Wc pk args=some ρ∧HasKs (Y1 pk) ρ∧denR P (fun _ rs=>K rs) noK t .none ρ):ContractX P f pk false s:=by
 refine⟨hcl,fun args K hs=>(Zd7 P md f pk false hcl).2 args K ?_⟩;obtain⟨ρ,h1,h2,h3⟩:=h args K hs;rw [←ht]at h3;exact⟨ρ,h1,h2,Z8l _ ⟨h2.length,by simp⟩ h3⟩
theorem ContractX.ofU {P:Program} {md:Mode} {f:FuncId} {pk:List PK} {s:SpecX} {t:R} (hcl:J2 P f=true) (ht:fnUO P md f pk=t)
   (h:∀args K,s args K→∃ρ,Wc pk args=some ρ∧HasKs (Y1 pk) ρ∧denR P (fun _ rs=>K rs) noK t .none ρ):ContractX P f pk true s:=by
 refine⟨hcl,fun args K hs=>(Zd7 P md f pk true hcl).2 args K ?_⟩;obtain⟨ρ,h1,h2,h3⟩:=h args K hs;rw [←ht]at h3;exact⟨ρ,h1,h2,Z8l _ ⟨h2.length,by simp⟩ h3⟩
theorem IterL.of {lim:Nat→Prop} {P:Program} {md:Mode} {f:FuncId} {pk:List PK} {caps ρ:List D} {zs:List (List D)} {t:R} (hcl:J2 P f=true) (ht:Zcv P md f pk=t) (hρ:Jr pk caps=some ρ) (hks:HasKs (Y1 pk) ρ)
   (h:denR P (fun c _=>c=none∨c=some zs.length) noK t ⟨fun _ _ _=>False,zs,some 0,lim⟩ ρ):IterL P (.clo f caps) zs lim:=by
 rw [←ht]at h;exact Zft hcl hρ hks (Z8l _ ⟨hks.length,by simp⟩ h)
theorem IterC.of {P:Program} {md:Mode} {f:FuncId} {pk:List PK} {caps ρ:List D} {zs:List (List D)} {t:R} (hcl:J2 P f=true) (ht:Zcv P md f pk=t) (hρ:Jr pk caps=some ρ) (hks:HasKs (Y1 pk) ρ)
   (h:denR P (fun c _=>c=none∨c=some zs.length) noK t ⟨fun _ _ _=>False,zs,some 0,fun _=>True⟩ ρ):IterC P (.clo f caps) zs:=IterL.of hcl ht hρ hks h
end Go.Sx
