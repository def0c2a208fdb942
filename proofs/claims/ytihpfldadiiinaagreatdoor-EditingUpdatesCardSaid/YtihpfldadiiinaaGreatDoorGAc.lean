/-
 Part 3 of the proof: the executor over the kit's code with its soundness, or contracts of functions.
-/
import Derived.Test.YtihpfldadiiinaaGreatDoorGAb
import Derived.StillTail
set_option linter.unusedSimpArgs false
set_option linter.unusedVariables false
set_option linter.unusedSectionVars false
set_option linter.defProp false
set_option maxRecDepth 100000
namespace Go.Sx
open Go Go.RowKit
section
variable {E:Env} {ρ:List D} {σ:Names} {m:Mem} {a:Act} {w:World}
theorem Z7Z {st:St TK} (hf:Fits E σ m (W0 ρ st) a w) (hok:st.Ok ρ) {g gr:Option T} {sc:Bool} (hg:∀c,g=some c→den ρ c=.bool true) {args:List Operand} {ts:List TK} {objs:List (OV TK)}
   (h:ZcP gr sc st.objs (args.map fun x=>thaw st.objs (Y4 g (look st x)))=some (ts,objs)):
   ∃m',FrOk E ρ σ st.tmps a w m objs st.objs.length m'∧ts.length=args.length∧(∀x∈ts,LOk ρ x)∧(∀(i:Nat) x v,ts[i]? =some x→(args.map a.eval)[i]? =some v→RepD m' (denL ρ x) v):=by
 have hfr:Zj (freeze 6) st.objs (args.map fun x=>thaw st.objs (Y4 g (look st x)))=some (ts,objs):=by
   simp only [ZcP]at h;split at h
   · split at h <;> try contradiction
     rename_i p h1;cases h;exact(YV (fun {v x o'}=>Z1U 6) h1).2 _
   · exact h
 obtain⟨m',f1,l1,k1,r1⟩:=Zu (E:=E) (ρ:=ρ) (σ:=σ) (ts:=st.tmps) (a:=a) (w:=w) (fun {objs v x objs' m val}=>Zw 6) (vals:=args.map a.eval) (by exact hf) hok.objs hfr
   (fun i c v hc hv=>by
     simp only [List.getElem?_map,Option.map_eq_some_iff]at hc hv;obtain⟨x,hx,rfl⟩:=hc;obtain⟨y,hy,rfl⟩:=hv;rw [hx]at hy;cases hy;exact(Y5 hf hok hg x).1) (by simp) (by
     intro c hc;obtain⟨x,_,rfl⟩:=List.mem_map.1 hc;exact(Y5 hf hok hg x).2)
 exact⟨m',f1,by simpa using l1,k1,r1⟩
theorem MemOk.of_le {m m':Mem} {w:World} (h:MemOk m' w) (hle:m.le m'):MemOk m w:=fun b o hb=>h b o (hle b o hb)
theorem Z1K {P:Program} {m m':Mem} {w:World} {B:Nat→Prop}:∀ {rk:List RK} {rvs:List RV} {ds:List D},WS rk=true→RV.all rk rvs=some ds→HasKs (RK.all rk) ds→
   ∀(i:Nat) r u,rvs[i]? =some r→RepR m w B r u→RepR m' w B r u
 | [],[],_,_,_,_,i,r,u,h,_=>by simp at h
 | [],_::_,_,_,h,_,_,_,_,_,_=>by simp [RV.all]at h
 |_::_,[],_,_,h,_,_,_,_,_,_=>by simp [RV.all]at h
 | k ::rk,v::vs,ds,hs,h,hk,i,r,u,hi,hr=>by
   simp only [RV.all]at h;split at h <;> try contradiction
   rename_i x y h1 h2;cases h;cases k with
   |box ks=>simp [WS]at hs
   | cell k=>
     simp only [WS,Bool.and_eq_true]at hs;have hx:x.length=1:=by
       cases v <;> simp [RV.cells]at h1 <;> subst h1 <;> rfl
     have hkk:RK.all (.cell k::rk)=[k]++RK.all rk:=rfl;rw [hkk]at hk;obtain⟨k1,k2⟩:=HasKs.unappend (by simpa using hx) hk;cases i with
     |succ i=>exact Z1K (P:=P) hs.2 h2 k2 i r u (by simpa using hi) hr
     | zero=>
       simp at hi;subst hi;cases v with
       |any=>simp [RV.cells]at h1
       |box cs=>simp [RV.cells]at h1
       | own e xs=>
         simp [RV.cells]at h1;subst h1;simp only [HasKs]at k1;have:=k1.1;cases k <;> simp [K.scalar,HasK]at hs this
       | d z=>
         simp [RV.cells]at h1;subst h1;simp only [HasKs]at k1;have hz:=k1.1;cases hr with
         |d hr=>
         refine .d ?_;cases hr with
         |int k n=>exact .int k n
         |bool b=>exact .bool b
         |str s h=>exact .str s h
         |_=>cases k <;> simp [K.scalar,HasK]at hs hz
   |agg ks=>simp [WS]at hs
   |own ks=>simp [WS]at hs
   | any=>
     have hx:x=[]∧v=.any:=by cases v <;> simp [RV.cells]at h1 <;> exact⟨by simp [h1],rfl⟩
     obtain⟨rfl,rfl⟩:=hx;cases i with
     |succ i=>exact Z1K (P:=P) (by simpa [WS]using hs) h2 (by simpa [RK.all,RK.kinds]using hk) i r u (by simpa using hi) hr
     |zero=>simp at hi;subst hi;exact .any
theorem Fits.lent {st':St TK} (h:Fits E σ m (W0 ρ st') a w) {w':World} {m':Mem} (hB:BelowD w.heap.size w w') (hle:m.le m') (hmem:MemOk m' w'):Fits E σ m (W0 ρ st') a w':=
 h.called hB (Mem.le_refl m) (hmem.of_le hle) (fun _ _=>rfl)
theorem ZfE {F:Option Nat→List RV→Prop} {Kd:Ags→List D→XExit→XS→Prop} {ags:Ags} {md:Mode} {xs:XS} {o:Oper} {c:Call} {fv:Operand} {g gr:Option T} {ops:Array Oper}
   (ho:o.op=.call c) (hc:c.callee=.value fv) (hf:Fits E σ m (W0 ρ xs.st) a w) (hx:XOk ρ xs) (hG:GOk ρ ops o a g gr)
   (hX:∀f pk upd vs,gr=none→vs=c.args.toList.map (fun x=>thaw xs.st.objs (Y4 g (look xs.st x)))→thaw xs.st.objs (Y4 g (look xs.st fv))=.d ⟨.fn f,.fn⟩→
     denR E.P F Kd (Z9y E.P md xs o vs f pk upd) ags ρ→WJ E ops o a w (Res E Kd ags a o.dst))
   (hX2:∀f q pk upd vs,gr=none→vs=c.args.toList.map (fun x=>thaw xs.st.objs (Y4 g (look xs.st x)))→thaw xs.st.objs (Y4 g (look xs.st fv))=.bnd f q→
     denR E.P F Kd (Z9y E.P md xs o (.ptr q 0::vs) f pk upd) ags ρ→WJ E ops o a w (Res E Kd ags a o.dst))
   (h:denR E.P F Kd (Z9X E.P md g gr xs o fv c.args.toList) ags ρ):WJ E ops o a w (Res E Kd ags a o.dst):=by
 simp only [Z9X]at h;split at h
 · simp [denR]at h
 · rename_i f0 q0 hw0;split at h
   · rename_i f pk upd hfind;split at h
     · simp [denR]at h
     rename_i hgr;have hgr:gr=none:=by cases gr with|none=>rfl|some _=>simp at hgr
     have:=List.find?_some hfind;simp only [beq_iff_eq]at this;subst this;exact hX2 _ _ _ _ _ hgr rfl hw0 h
   · simp [denR]at h
 split at h
 · rename_i f pk upd hfind;split at h
   · simp [denR]at h
   rename_i hgr;have hgr:gr=none:=by cases gr with|none=>rfl|some _=>simp at hgr
   split at hfind <;> try contradiction
   rename_i f' hfl;have:=List.find?_some hfind;simp only [beq_iff_eq]at this;subst this;exact hX _ _ _ _ hgr rfl hfl h
 split at h
 · simp [denR]at h
 rename_i ts objs' hfr;have main:∀ {fid:FuncId} {caps:List D} {rk:List RK} {fvv:Fv} {args:List T} {J:List D→Prop},(∀c,g=some c→den ρ c=.bool true)→
     (∀v,a.eval fv=v→∃arr,v=.func (.func fid) #[] arr∧arr.size=caps.length∧∀(i:Nat) d u,caps[i]? =some d→arr[i]? =some u→RepD m d u)→
     JL E.P ρ fvv args rk J→((fvv=.fn fid∧J2 E.P fid=true∧args.map (den ρ)=(ts.map (·.t)).map (den ρ)++caps∧YR E.P fid ts=true∧∃own,Z8 E.P own (Zs E.P fid)=some rk)∨(∃t,fvv=.val t∧den ρ t=.clo fid caps∧args=ts.map (·.t)))→
     (∃own,Z8 E.P own (JD E.P o.type)=some rk)→
     (∀ds,HasKs (RK.all rk) ds→J ds→Kd ags (ρ++ds) .norm {xs with st:= {tmps:=putT xs.st.tmps o.dst (Z26 gr (Wm (Ja rk xs.nv (if JU E.P o then xs.st.objs else objs')).1)),objs:=(Ja rk xs.nv (if JU E.P o then xs.st.objs else objs')).2.2},nv:=(Ja rk xs.nv (if JU E.P o then xs.st.objs else objs')).2.1})→
     (∀c,gr=some c→LOk ρ ⟨c,.bool⟩∧den ρ c=.bool true)→
     ∀(a':Act) (K:Act→World→Prop) (Q:Exit→Act→World→Prop),execOp a'.eval o=execOp a.eval o→(∀v w',Res E Kd ags a o.dst v w'→K (a'.put o.dst v) w')→o.wpIn (fen E.r) 0 E.P a' w K Q:=by
   intro fid caps rk fvv args J hgt hval hsays hfv hty hcont hgrt a' K Q heq hK;obtain⟨arr,hev,hasz,hcr⟩:=hval _ rfl;obtain⟨m1,f1,l1,k1,r1⟩:=Z7Z hf hx.all hgt hfr;obtain⟨hcl,s,KK,hcon,hs,htyped,hKK⟩:=Z7U hsays k1 hfv;have l1:ts.length=c.args.size:=by simpa using l1
   have hrun:=Z2L (P:=E.P) (w:=w) ho hc hev hcl;rw [←heq]at hrun;refine Wo hrun (by simp) ?_;rw [Oper.uponIn_enter];refine⟨by simp [fen,Fence.wide],Z1w ?_⟩;have hcall:=hcon.2 _ _ hs htyped w m1 (c.args.map a.eval++arr) f1.fits.mem (by simp [hasz,l1]) (by
     intro i d v hd hv;rw [List.getElem?_append]at hd;rw [Array.getElem?_append]at hv;simp only [List.length_map,Array.size_map]at hd hv;split at hd
     · rename_i hlt;rw [if_pos (by omega)]at hv;simp only [List.getElem?_map,Option.map_eq_some_iff]at hd;obtain⟨x,hx',rfl⟩:=hd;exact r1 i x v hx' (by simpa using hv)
     · rename_i hge;rw [if_neg (by omega)]at hv;rw [l1]at hd;exact(hcr _ d v hd hv).mono f1.le)
   refine hcall.mono ?_;rintro e w' ⟨rvs,v,m2,hKr,hrt,rfl,⟨us,hv,hreps⟩,hle,hmem,hold,hbel⟩;obtain⟨ds,hds,hks,hJ⟩:=hKK rvs hKr hrt;simp only;have hst:∃m3,Fits E σ m3 (W0 ρ ⟨xs.st.tmps,if JU E.P o then xs.st.objs else objs'⟩) a w'∧(∀ob∈(if JU E.P o then xs.st.objs else objs'),OV.Ok ρ ob)∧(∀(i:Nat) r u,rvs[i]? =some r→us[i]? =some u→RepR m3 w' (fun b=>w.heap.size≤b) r u)∧
       ∀(o':Nat) ov b,(if JU E.P o then xs.st.objs else objs')[o']? =some ov→ov.alive=true→(σ o').bind blk=some b→b < w.heap.size:=by
     cases hl:JU E.P o with
     | true=>
       simp only [if_true];refine⟨m,hf.lent hbel (Mem.le_trans f1.le hle) hmem,hx.all.objs,?_,?_⟩
       · unfold JU at hl;obtain⟨own,hty⟩:=hty;obtain⟨rk0,q1,q2,q3⟩:=YK hty;rw [q1]at hl;intro i r u h1 h2;exact Z1K (P:=E.P) hl (q3 _ _ hds) (by rw [q2];exact hks) i r u h1 (hreps.rep i r u h1 h2)
       · intro o' ov b hov hal hbb;exact(hf.objs o' (ov.map (denL ρ)) (by simp [W0,St.map,hov])).lt (by cases ov <;> first|rfl|(simp [OV.alive]at hal)) hbb
     | false=>
       simp only [Bool.false_eq_true,if_false];refine⟨m2,f1.fits.called hbel hle hmem hold,f1.ok,hreps.rep,?_⟩;intro o' ov b hov hal hbb;exact(f1.fits.objs o' (ov.map (denL ρ)) (by simp [W0,St.map,hov])).lt (by cases ov <;> first|rfl|(simp [OV.alive]at hal)) hbb
   obtain⟨m3,hf2,hok2,hrep3,hlt3⟩:=hst;generalize hobjs:(if JU E.P o then xs.st.objs else objs')=objs at *;have hok2':St.Ok ρ ⟨xs.st.tmps,objs⟩:=⟨hx.all.tmps,hok2⟩
   have hf3:Fits E σ m3 (W0 (ρ++ds) ⟨xs.st.tmps,objs⟩) a w':=by rw [Jw hok2'];exact hf2
   have hnv:xs.nv=ρ.length:=hx.nv.symm;generalize hres:Ja rk xs.nv objs=res at hcont;obtain⟨vs,n',objs2⟩:=res;have hcont':=hcont ds hks hJ;simp only at hcont';obtain⟨hn',σ',m',R⟩:=WB (us:=us) hres hds hks (by rw [hnv];exact Vars.self ρ ds) hf3 (fun o ho=>(hok2 o ho).ext ds) hreps.len hrep3 (fun b hb=>.inl (Nat.le_trans hf.grow hb))
     (by
       intro i r u b hi hu how hb o' ov hov hal hbb;have hlt:=hlt3 o' ov b hov hal hbb;have hrr:=hrep3 i r u hi hu;cases hrr with
       |d=>cases how
       |any=>cases how
       |none=>simp [Zn]at hb
       |own hB _ _ h0c=>rw [Z9 h0c]at hb;cases hb;exact absurd hlt (Nat.not_lt.2 hB)
       |box hB=>simp [blk]at hb;subst hb;exact absurd hlt (Nat.not_lt.2 hB))
     hreps.sep
   have hlen:ρ.length+ds.length=n':=by rw [hn',hks.length,hnv]
   have hrs:RS σ' m' (ρ++ds) (Wm vs) v:=by
     have hvl:vs.length=us.length:=R.len;rw [hv];unfold Wm Z2A;split
     · rename_i v1;have h1:us.toArray.size=1:=by simpa using hvl.symm
       rw [dif_pos h1];exact R.rs 0 _ _ rfl (by simp [h1])
     · rename_i hne;have h1:us.toArray.size≠1:=by
         intro h1;have h1':us.length=1:=by simpa using h1
         rw [h1']at hvl
         match vs,hvl with
         | [x],_=>exact hne x rfl
       rw [dif_neg h1];simp only [RS,SV.map,SV.mapL_eq];refine .tup (by simp [hvl]) fun i c u hc' hu=>?_
       simp only [List.getElem?_map,Option.map_eq_some_iff]at hc';obtain⟨c',hc'',rfl⟩:=hc';exact R.rs i c' u hc'' (by simpa using hu)
   have hrs2:RS σ' m' (ρ++ds) (Z26 gr (Wm vs)) v∧SV.Ok (ρ++ds) (Z26 gr (Wm vs)):=by
     have hpk:=Yy R.all;cases hgr:gr with
     |none=>exact⟨hrs,hpk⟩
     | some c=>
       obtain⟨q1,q2⟩:=hgrt c hgr;have q2':den (ρ++ds) c=.bool true:=by rw [q1.2 ds];exact q2
       exact⟨.grd (fun _=>hrs) (fun h=>absurd q2' (by simpa [denL]using h)),.grd (q1.ext ds) hpk.stb fun _=>hpk⟩
   refine hK v w' ⟨ags,ρ++ds,_,σ',m',id,hcont',?_,?_,?_⟩
   · simp only;rw [Zd];exact R.fits.put o.dst hrs2.1
   · exact(St.Ok.putT (st:=⟨xs.st.tmps,objs2⟩) ⟨fun v hv=>(hx.all.tmps v hv).ext ds,R.objs⟩ o.dst hrs2.2 R.objs)
   · simp only [List.length_append];exact hlen
 have skip:∀ {rk:List RK} {J:List D→Prop} {c0:T},gr=some c0→den ρ c0=.bool false→Yh rk=true→J (Go.Sx.K.zeros (RK.all rk))→
     (∀ds,HasKs (RK.all rk) ds→J ds→Kd ags (ρ++ds) .norm {xs with st:= {tmps:=putT xs.st.tmps o.dst (Z26 gr (Wm (Ja rk xs.nv (if JU E.P o then xs.st.objs else objs')).1)),objs:=(Ja rk xs.nv (if JU E.P o then xs.st.objs else objs')).2.2},nv:=(Ja rk xs.nv (if JU E.P o then xs.st.objs else objs')).2.1})→
     Res E Kd ags a o.dst undef w:=by
   intro rk J c0 hgc hcf hgd hJ hcont;have hz:=HasKs.zeros (RK.all rk);have hcont':=hcont _ hz hJ;have hobj:(if JU E.P o then xs.st.objs else objs')=xs.st.objs:=by
     have hgs:=hG.both c0 hgc;cases hl:JU E.P o with
     |true=>rfl
     | false=>
       simp only [Bool.false_eq_true,if_false];have hfr':=hfr;simp only [ZcP,hgc,hl,Option.isSome_some,Bool.not_false,Bool.and_self,if_true]at hfr';generalize Z0P 6 [] _=q at hfr';cases q with
       |none=>cases hfr'
       |some p=>cases hfr';rfl
   rw [hobj]at hcont';rw [ZL hgd]at hcont';obtain⟨p1,p2⟩:=WK (n:=xs.nv) (objs:=xs.st.objs) hgd hz (by rw [←hx.nv];exact Vars.self ρ _);have hL:=(hG.ss c0 hgc).1;have hsv:RS σ m (ρ++Go.Sx.K.zeros (RK.all rk)) (Z26 gr (Wm (Ja rk xs.nv xs.st.objs).1)) undef∧SV.Ok (ρ++Go.Sx.K.zeros (RK.all rk)) (Z26 gr (Wm (Ja rk xs.nv xs.st.objs).1)):=by
     rw [hgc];have hcf':den (ρ++Go.Sx.K.zeros (RK.all rk)) c0=.bool false:=by rw [hL.2];exact hcf
     exact⟨.grd (fun h=>by simp [denL,hcf']at h) (fun _=>rfl),.grd (hL.ext _) (Yy p1).stb fun _=>Yy p1⟩
   refine⟨ags,_,_,σ,m,id,hcont',?_,?_,?_⟩
   · simp only;rw [Zd];have:W0 (ρ++Go.Sx.K.zeros (RK.all rk)) ⟨xs.st.tmps,xs.st.objs⟩=W0 ρ xs.st:=Jw hx.all _;rw [this];exact hf.put o.dst hsv.1
   · exact(hx.all.ext _).putT o.dst hsv.2 (fun o ho=>(hx.all.objs o ho).ext _)
   · simp only [List.length_append];rw [p2,hx.nv]
 have fin:∀ {own:Bool} {fvv:Fv} {extra:List T},
     ((∀c,g=some c→den ρ c=.bool true)→∃(fid:FuncId) (caps:List D),(∀v,a.eval fv=v→∃arr,v=.func (.func fid) #[] arr∧arr.size=caps.length∧∀(i:Nat) d u,caps[i]? =some d→arr[i]? =some u→RepD m d u)∧
       ∀rk,Z8 E.P own (JD E.P o.type)=some rk→((fvv=.fn fid∧J2 E.P fid=true∧(ts.map (·.t)++extra).map (den ρ)=(ts.map (·.t)).map (den ρ)++caps∧YR E.P fid ts=true∧∃own,Z8 E.P own (Zs E.P fid)=some rk)∨(∃t,fvv=.val t∧den ρ t=.clo fid caps∧ts.map (·.t)++extra=ts.map (·.t))))→
     denR E.P F Kd (Zbu E.P gr xs o (if JU E.P o then xs.st.objs else objs') ts own fvv extra) ags ρ→WJ E ops o a w (Res E Kd ags a o.dst):=by
   intro own fvv extra hval hR;simp only [Zbu]at hR;split at hR
   · simp [denR]at hR
   rename_i rk hrk;split at hR
   · simp [denR]at hR
   rename_i hgd;have hgd':gr.isSome=true→Yh rk=true:=by
     intro hs;simp only [hs,Bool.true_and,Bool.not_eq_true',Bool.not_eq_false]at hgd;simpa using hgd
   intro a' K Q hw heq hK;rw [hw];cases hg0:gr with
   | none=>
     simp only [hg0,denR]at hR;have hwt:=hG.nn hg0;rw [hwt];simp only [if_true];obtain⟨fid,caps,hv1,hv2⟩:=hval (hG.known hwt);refine main (J:=fun rs=>Kd ags (ρ++rs) .norm {xs with st:= {tmps:=putT xs.st.tmps o.dst (Z26 gr (Wm (Ja rk xs.nv (if JU E.P o then xs.st.objs else objs')).1)),objs:=(Ja rk xs.nv (if JU E.P o then xs.st.objs else objs')).2.2},nv:=(Ja rk xs.nv (if JU E.P o then xs.st.objs else objs')).2.1})
       (hG.known hwt) hv1 ?_ (hv2 rk hrk) ⟨own,hrk⟩ (fun ds _ h=>h) (by rw [hg0];simp) a' K Q heq hK
     rw [hg0];exact hR
   | some c0=>
     simp only [hg0,denR]at hR;obtain⟨J,hJ1,hJ2,hJ3⟩:=hR;obtain⟨hL,hwant⟩:=hG.ss c0 hg0;cases hb:Region.wanted o (yielded ops a.tmps)with
     | true=>
       rw [hb]at hwant;simp only [if_true];obtain⟨fid,caps,hv1,hv2⟩:=hval (hG.known hb);refine main (J:=J) (hG.known hb) hv1 (hJ1 hwant) (hv2 rk hrk) ⟨own,hrk⟩ (fun ds h1 h2=>by rw [hg0];exact hJ3 ds h1 h2) (by rw [hg0];intro c hc;cases hc;exact⟨hL,hwant⟩) a' K Q heq hK
     | false=>
       rw [hb]at hwant;simp only [Bool.false_eq_true,if_false];refine hK undef w (skip (J:=J) hg0 hwant (hgd' (by rw [hg0];rfl)) (hJ2 hwant) (fun ds h1 h2=>by rw [hg0];exact hJ3 ds h1 h2))
 have hL:∀x,(∀c,g=some c→den ρ c=.bool true)→RS σ m ρ (thaw xs.st.objs (Y4 g (look xs.st x))) (a.eval x)∧SV.Ok ρ (thaw xs.st.objs (Y4 g (look xs.st x))):=fun x hgt=>Y5 hf hx.all hgt x
 split at h
 · rename_i f hfl;split at h
   · rename_i hcl;simp only [Bool.and_eq_true]at hcl;obtain⟨⟨hcl,ham⟩,hst⟩:=hcl;have hst:=JJ hst;refine fin (fun hgt=>⟨f,[],fun v hv=>?_,fun rk hrk=>.inl ⟨rfl,hcl,by simp,ham,_,by rw [←hst];exact hrk⟩⟩) h;have:=hL fv hgt;rw [hfl,hv]at this;obtain⟨f',caps,arr,h1,h2,h3,h4⟩:=YQ this.1 (Jc this.2);simp only [den]at h1;cases h1;exact⟨arr,h2,h3,h4⟩
   · simp [denR]at h
 · rename_i f e hfl;split at h
   · rename_i hcl;simp only [Bool.and_eq_true]at hcl;obtain⟨⟨hcl,ham⟩,hst⟩:=hcl;have hst:=JJ hst;split at h
     · rename_i caps hcaps;refine fin (fun hgt=>⟨f,caps.map (den ρ),fun v hv=>?_,fun rk hrk=>.inl ⟨rfl,hcl,by simp,ham,_,by rw [←hst];exact hrk⟩⟩) h;have:=hL fv hgt;rw [hfl,hv]at this;obtain⟨f',caps',arr,h1,h2,h3,h4⟩:=YQ this.1 (Jc this.2);simp only [den,T.toList_ok hcaps]at h1;cases h1;exact⟨arr,h2,h3,h4⟩
     · simp [denR]at h
   · simp [denR]at h
 · rename_i t _ _ hfl;refine fin (fvv:=.val t) (fun hgt=>?_) h;have hb:=hL fv hgt;rw [hfl]at hb;obtain⟨f',caps',arr,h1,h2,h3,h4⟩:=YQ hb.1 (Jc hb.2);exact⟨f',caps',fun v hv=>⟨arr,by rw [←hv];exact h2,h3,h4⟩,fun rk hrk=>.inr ⟨t,rfl,h1,by simp⟩⟩
 · simp [denR]at h
end
section
variable {E:Env} {ρ:List D} {σ:Names} {a:Act} {w:World} {ts:List (SV TK)}
theorem Jy:∀ {rs:List RV} {vs:List Value} {b:Nat},rs.length=vs.length→(Zi rs vs b↔∃v∈W5 rs vs,blk v=some b)
 | [],[],b,_=>by simp [Zi,W5]
 | [],_::_,_,h=>by simp at h
 |_::_,[],_,h=>by simp at h
 | r ::rs,v::vs,b,h=>by
   have ih:=Jy (rs:=rs) (vs:=vs) (b:=b) (by simpa using h);have e:Zi (r::rs) (v::vs) b↔(r.isOwn=true∧blk v=some b)∨Zi rs vs b:=by
     constructor
     · rintro⟨i,r',v',h1,h2,h3,h4⟩;cases i with
       |zero=>simp at h1 h2;subst h1 h2;exact .inl ⟨h3,h4⟩
       |succ i=>exact .inr ⟨i,r',v',by simpa using h1,by simpa using h2,h3,h4⟩
     · rintro(⟨h3,h4⟩|⟨i,r',v',h1,h2,h3,h4⟩)
       · exact⟨0,r,v,rfl,rfl,h3,h4⟩
       · exact⟨i+1,r',v',by simpa using h1,by simpa using h2,h3,h4⟩
   rw [e,ih];cases r with
   |d x=>simp [W5,RV.isOwn]
   |any=>simp [W5,RV.isOwn]
   |box cs=>simp [W5,RV.isOwn]
   |own e xs=>simp [W5,RV.isOwn]
structure ArgX (E:Env) (ρ:List D) (σ:Names) (ts:List (SV TK)) (a:Act) (w:World) (m:Mem) (pk:List PK) (vals:List Value) (rs:List RT) (is:List Nat) (objs':List (OV TK)) (n:Nat) (m':Mem):Prop where
 fr:FrOk E ρ σ ts a w m objs' n m'
 reps:RepRs m' w (fun _=>True) (rs.map (RT.den ρ)) vals
 nd:is.Nodup
 arr:∀o∈is,∃ov,objs'[o]? =some ov∧ov.alive=true
 names:is.map σ=(W5 (rs.map (RT.den ρ)) vals).map some
 len:is.length=(Ya pk).length
theorem ArgX.cons_d {m m1 m':Mem} {pk:List PK} {vals:List Value} {rs:List RT} {is:List Nat} {objs1 objs':List (OV TK)} {n:Nat} {k:PK} {t:T} {val:Value} (hf1:FrOk E ρ σ ts a w m objs1 n m1) (hrep:RepD m1 (den ρ t) val)
   (hk:Ya (k::pk)=Ya pk) (h:ArgX E ρ σ ts a w m1 pk vals rs is objs' objs1.length m'):ArgX E ρ σ ts a w m (k::pk) (val::vals) (.d t::rs) is objs' n m' where
 fr:=⟨Mem.le_trans hf1.le h.fr.le,h.fr.fits,h.fr.ok,by rw [h.fr.len,hf1.len]⟩
 reps:=⟨by simp [h.reps.len],fun i r u hr hu=>by
     cases i with
     |zero=>simp [RT.den]at hr hu;subst hr hu;exact .d (hrep.mono h.fr.le)
     |succ i=>exact h.reps.rep i r u (by simpa using hr) (by simpa using hu),
   fun i j r r' u u' b hne hr hr' hu hu' ho ho' hb=>by
     cases i with
     |zero=>simp [RT.den]at hr;subst hr;cases ho
     | succ i=>
       cases j with
       |zero=>simp [RT.den]at hr';subst hr';cases ho'
       |succ j=>exact h.reps.sep i j r r' u u' b (by omega) (by simpa using hr) (by simpa using hr') (by simpa using hu) (by simpa using hu') ho ho' hb⟩
 nd:=h.nd
 arr:=h.arr
 names:=by simpa [RT.den,W5]using h.names
 len:=by rw [hk];exact h.len
theorem Z3m {r:RV} {rs:List RV} {v:Value} {vs:List Value} (h:r.isOwn=true):W5 (r::rs) (v::vs)=v::W5 rs vs:=by
 cases r <;> simp [RV.isOwn]at h <;> rfl
theorem ArgX.cons_own {m m1 m':Mem} {pk:List PK} {vals:List Value} {rs:List RT} {is:List Nat} {objs1 objs':List (OV TK)} {n:Nat} {k:PK} {r:RT} {val:Value} {o:Nat} {ov:OV TK} (hf1:FrOk E ρ σ ts a w m objs1 n m1)
   (A:ArgX E ρ σ ts a w m1 pk vals rs is objs' objs1.length m') (hown:(RT.den ρ r).isOwn=true) (hrep:RepR m' w (fun _=>True) (RT.den ρ r) val) (hox:objs'[o]? =some ov) (ha:ov.alive=true)
   (hσ:σ o=some val) (hno:o∉is) (hk:(Ya (k::pk)).length=(Ya pk).length+1):ArgX E ρ σ ts a w m (k::pk) (val::vals) (r::rs) (o::is) objs' n m':=by
 have hF:=A.fr.fits;have hal:(W0 ρ ⟨ts,objs'⟩).objs[o]? =some (ov.map (denL ρ)):=by simp [W0,St.map,hox]
 have haD:∀ {ov:OV TK},ov.alive=true→(ov.map (denL ρ)).alive=true:=by
   intro ov h;cases ov <;> first|rfl|(simp [OV.alive]at h)
 have hblk:∀(j:Nat) r u b,(rs.map (RT.den ρ))[j]? =some r→vals[j]? =some u→r.isOwn=true→blk val=some b→blk u≠some b:=by
   intro j r u b h1 h2 h3 h4 h5;have:Zi (rs.map (RT.den ρ)) vals b:=⟨j,r,u,h1,h2,h3,h5⟩
   rw [Jy (by rw [A.reps.len])]at this;obtain⟨v',hv',hb'⟩:=this;have hm:some v'∈is.map σ:=by rw [A.names];exact List.mem_map_of_mem hv'
   obtain⟨o2,ho2,hs2⟩:=List.mem_map.1 hm;obtain⟨ov2,hx2,ha2⟩:=A.arr o2 ho2;have hal2:(W0 ρ ⟨ts,objs'⟩).objs[o2]? =some (ov2.map (denL ρ)):=by simp [W0,St.map,hx2]
   have:=hF.inj o o2 _ _ b hal hal2 (haD ha) (haD ha2) (by rw [hσ];exact h4) (by rw [hs2];exact hb');exact hno (this▸ho2)
 refine⟨⟨Mem.le_trans hf1.le A.fr.le,A.fr.fits,A.fr.ok,by rw [A.fr.len,hf1.len]⟩,⟨by simp [A.reps.len],?_,?_⟩,List.nodup_cons.2 ⟨hno,A.nd⟩,?_,?_,by rw [hk,List.length_cons,A.len]⟩
 · intro i r u h1 h2;cases i with
   |zero=>simp at h1 h2;subst h1 h2;exact hrep
   |succ i=>exact A.reps.rep i r u (by simpa using h1) (by simpa using h2)
 · intro i j r r' u u' b hne h1 h1' h2 h2' ho ho' hb;cases i with
   | zero=>
     cases j with
     |zero=>exact absurd rfl hne
     | succ j=>
       simp at h2;subst h2;exact hblk j r' u' b (by simpa using h1') (by simpa using h2') ho' hb
   | succ i=>
     cases j with
     | zero=>
       simp at h2';subst h2';intro hb';exact hblk i r u b (by simpa using h1) (by simpa using h2) ho hb' hb
     |succ j=>exact A.reps.sep i j r r' u u' b (by omega) (by simpa using h1) (by simpa using h1') (by simpa using h2) (by simpa using h2') ho ho' hb
 · intro q hq;rcases List.mem_cons.1 hq with rfl|hq
   · exact⟨_,hox,ha⟩
   · exact A.arr q hq
 · rw [List.map_cons,List.map_cons,Z3m hown,List.map_cons,hσ,A.names]
theorem Z2Y:∀ {pk:List PK} {vs:List (SV TK)} {vals:List Value} {objs objs':List (OV TK)} {rs:List RT} {is:List Nat} {m:Mem},Fits E σ m (W0 ρ ⟨ts,objs⟩) a w→(∀o∈objs,OV.Ok ρ o)→Z0S objs pk vs=some (rs,is,objs')→
   (∀(i:Nat) c v,vs[i]? =some c→vals[i]? =some v→RS σ m ρ c v)→vals.length=vs.length→(∀c∈vs,SV.Ok ρ c)→∃m',ArgX E ρ σ ts a w m pk vals rs is objs' objs.length m'
 | [],vs,vals,objs,objs',rs,is,m,hf,hok,h,hr,hl,hk=>by
   cases vs with
   |cons v vs=>simp [Z0S]at h
   | nil=>
     simp only [Z0S,Option.some.injEq,Prod.mk.injEq]at h;obtain⟨rfl,rfl,rfl⟩:=h;cases vals with
     |cons v vals=>simp at hl
     |nil=>exact⟨m,⟨Mem.le_refl m,hf,hok,rfl⟩,⟨rfl,by simp,by simp⟩,List.nodup_nil,by simp,by simp [W5],rfl⟩
 |k::pk,[],vals,objs,objs',rs,is,m,hf,hok,h,hr,hl,hk=>by cases k <;> simp [Z0S]at h
 | k ::pk,v::vs,vals,objs,objs',rs,is,m,hf,hok,h,hr,hl,hk=>by
   cases vals with
   |nil=>simp at hl
   |cons val vals=>
   have hl':vals.length=vs.length:=by simpa using hl
   have hr0:=hr 0 _ _ rfl rfl;have hk0:=hk v List.mem_cons_self;have hrt:∀(i:Nat) c v,vs[i]? =some c→vals[i]? =some v→RS σ m ρ c v:=fun i c v a b=>hr (i+1) c v (by simpa using a) (by simpa using b)
   have hkt:∀c∈vs,SV.Ok ρ c:=fun c hc=>hk c (List.mem_cons_of_mem _ hc)
   have one:∀ {x:TK} {objs1:List (OV TK)} {rs':List RT} {is':List Nat},Ya (k::pk)=Ya pk→freeze 6 objs v=some (x,objs1)→Z0S objs1 pk vs=some (rs',is',objs')→some (RT.d x.t::rs',is',objs')=some (rs,is,objs')→∃m',ArgX E ρ σ ts a w m (k::pk) (val::vals) rs is objs' objs.length m':=by
     intro x objs1 rs' is' hko hfr hrec he;simp only [Option.some.injEq,Prod.mk.injEq]at he;obtain⟨rfl,rfl,_⟩:=he;obtain⟨m1,f1,k1,r1⟩:=Zw 6 hf hok hfr hr0 hk0;obtain⟨m',A⟩:=Z2Y (m:=m1) f1.fits f1.ok hrec (fun i c v a b=>(hrt i c v a b).mono (Names.le_refl σ) f1.le) hl' hkt;exact⟨m',ArgX.cons_d f1 r1 hko A⟩
   cases k with
   |any=>simp [Z0S]at h
   | cell kk=>
     simp only [Z0S]at h;split at h <;> try contradiction
     rename_i x objs1 hfr;split at h <;> try contradiction
     split at h <;> try contradiction
     rename_i rs' is' o' hrec;have:o'=objs':=by simp only [Option.some.injEq,Prod.mk.injEq]at h;exact h.2.2
     subst this;exact one rfl hfr hrec h
   | agg kk=>
     simp only [Z0S]at h;split at h <;> try contradiction
     rename_i x objs1 hfr;split at h <;> try contradiction
     split at h <;> try contradiction
     rename_i rs' is' o' hrec;have:o'=objs':=by simp only [Option.some.injEq,Prod.mk.injEq]at h;exact h.2.2
     subst this;exact one rfl hfr hrec h
   | own kk=>
     simp only [Z0S]at h;split at h <;> try contradiction
     rename_i o;split at h <;> try contradiction
     rename_i e x hox;split at h <;> try contradiction
     rename_i hcond;simp only [Bool.and_eq_true,beq_iff_eq]at hcond;split at h <;> try contradiction
     rename_i rs' is' o' hrec;split at h <;> try contradiction
     rename_i hnc;split at h <;> try contradiction
     rename_i e' x' hox';split at h <;> try contradiction
     rename_i hsame;simp only [Bool.and_eq_true,beq_iff_eq]at hsame;obtain⟨he,hx⟩:=hsame;have hx:=TK.eq_of_beq hx;subst he hx;simp only [Option.some.injEq,Prod.mk.injEq]at h;obtain⟨rfl,rfl,rfl⟩:=h;obtain⟨m',A⟩:=Z2Y (m:=m) hf hok hrec hrt hl' hkt;have hF:=A.fr.fits;have hobj:=hF.objs o _ (show(W0 ρ ⟨ts,o'⟩).objs[o]? =some (OV.map (denL ρ) (.arr e x)) by simp [W0,St.map,hox']);have hal:(W0 ρ ⟨ts,o'⟩).objs[o]? =some (.arr e (denL ρ x)):=by simp [W0,St.map,hox',OV.map]
     have hσ:σ o=some val:=by
       simp only [RS,SV.map]at hr0;cases hr0;assumption
     have hno:o∉is':=by simpa using hnc
     have hd:(RT.den ρ (.own e x.t)).isOwn=true∧RepR m' w (fun _=>True) (RT.den ρ (.own e x.t)) val:=by
       simp only [OV.map,denL]at hobj;simp only [RT.den];generalize hdd:den ρ x.t=dd at hobj;have hal':(W0 ρ ⟨ts,o'⟩).objs[o]? =some (.arr e dd):=by rw [hal];simp [denL,hdd]
       cases hobj with
       |none hs=>rw [hs]at hσ;cases hσ;exact⟨rfl,.none⟩
       | arr hs hb h0 hc hcc hcap hsz hee hvv=>
         rw [hs]at hσ;cases hσ;exact⟨rfl,.own trivial (hF.sep o _ _ hal' rfl (by rw [hs,Option.bind_some];exact Z9 h0)).1 hb h0 hc hcc hcap hsz hee hvv⟩
     exact⟨m',ArgX.cons_own ⟨Mem.le_refl m,hf,hok,rfl⟩ A hd.1 hd.2 hox' rfl hσ hno (by simp [Ya])⟩
   | box kk=>
     simp only [Z0S]at h;split at h <;> try contradiction
     rename_i o;split at h <;> try contradiction
     rename_i cs hox;split at h <;> try contradiction
     rename_i ys objs1 hfr;split at h <;> try contradiction
     split at h <;> try contradiction
     rename_i rs' is' o' hrec;split at h <;> try contradiction
     rename_i hnc;split at h <;> try contradiction
     rename_i cs' hox';split at h <;> try contradiction
     simp only [Option.some.injEq,Prod.mk.injEq]at h;obtain⟨rfl,rfl,rfl⟩:=h;have hobj:=hf.objs o _ (show(W0 ρ ⟨ts,objs⟩).objs[o]? =some (OV.map (denL ρ) (.box cs)) by simp [W0,St.map,hox]);simp only [OV.map]at hobj;cases hobj with
     |box hs hb hsz hv=>
     rename_i b arr t;have hcs:∀c∈cs,SV.Ok ρ c:=by
       have:=hok _ (List.mem_of_getElem? hox);cases this with
       |box hh=>exact hh
     obtain⟨m1,f1,l1,k1,r1⟩:=Zu (fun {objs v x objs' m val}=>Zw 6) (vals:=arr.toList) hf hok hfr
       (fun i c v hc hu=>hv i (c.map (denL ρ)) v (by simp [hc]) (by simpa using hu)) (by simpa using hsz) hcs
     obtain⟨m',A⟩:=Z2Y (m:=m1) f1.fits f1.ok hrec (fun i c v a b=>(hrt i c v a b).mono (Names.le_refl σ) f1.le) hl' hkt;have hF:=A.fr.fits;have hσ:σ o=some val:=by
       simp only [RS,SV.map]at hr0;cases hr0 with
       | ptr hs'=>
         rename_i bp;rw [hs']at hs ⊢
     have hval:val=.pointer (some ⟨b,0,none⟩):=by rw [hσ]at hs;cases hs;rfl
     subst hval;have hno:o∉is':=by simpa using hnc
     have hal:(W0 ρ ⟨ts,o'⟩).objs[o]? =some (OV.map (denL ρ) (.box cs')):=by simp [W0,St.map,hox']
     have hm:=(hF.sep o _ b hal rfl (by rw [hσ];rfl)).1;have hd:(RT.den ρ (.box (T.list (ys.map (·.t)))))=.box (ys.map (denL ρ)):=by
       simp only [RT.den,W9,D.list,List.map_map];rfl
     refine⟨m',ArgX.cons_own f1 A (by rw [hd];rfl) ?_ hox' rfl hσ hno (by simp [Ya])⟩;rw [hd];refine .box trivial hm hb (by simp [l1,hsz]) fun j d v hj hu=>?_
     simp only [List.getElem?_map,Option.map_eq_some_iff]at hj;obtain⟨y,hy,rfl⟩:=hj;exact(r1 j y v hy (by simpa using hu)).mono A.fr.le
theorem Z2o:∀ {is:List Nat} {objs:List (OV TK)} {m:Mem},Fits E σ m (W0 ρ ⟨ts,objs⟩) a w→(∀o∈objs,OV.Ok ρ o)→Fits E σ m (W0 ρ ⟨ts,Yk objs is⟩) a w∧(∀o∈Yk objs is,OV.Ok ρ o)∧
   (Yk objs is).length=objs.length∧(∀o,o∉is→(Yk objs is)[o]? =objs[o]?)∧∀o∈is,o < objs.length→(Yk objs is)[o]? =some .dead
 | [],objs,m,hf,hok=>⟨hf,hok,rfl,fun _ _=>rfl,by simp⟩
 | o ::is,objs,m,hf,hok=>by
   have h1:Fits E σ m (W0 ρ ⟨ts,objs.set o .dead⟩) a w:=by
     rw [Ye (st:=⟨ts,objs⟩)];exact hf.kill o
   obtain⟨k1,k2,k3,k4,k5⟩:=Z2o (is:=is) h1 (fun q hq=>by
     rcases List.mem_or_eq_of_mem_set hq with hq|rfl
     · exact hok q hq
     · exact .dead)
   simp only [Yk];refine⟨k1,k2,by simpa using k3,fun q hq=>?_,fun q hq hlt=>?_⟩
   · simp only [List.mem_cons,not_or]at hq;rw [k4 q hq.2,List.getElem?_set_ne (fun e=>hq.1 e.symm)]
   · by_cases hqi:q∈is
     · exact k5 q hqi (by simpa using hlt)
     · have:q=o:=(List.mem_cons.1 hq).resolve_right hqi;subst this;rw [k4 q hqi,List.getElem?_set_self hlt]
theorem Z9B {B:Nat→Prop}:∀ {pk:List PK} {is:List Nat} {n:Nat} {objs:List (OV TK)} {m:Mem} {ext:List Value} {rvs:List RV} {ds:List D},
   Fits E σ m (W0 ρ ⟨ts,objs⟩) a w→(∀o∈objs,OV.Ok ρ o)→is.Nodup→(∀o∈is,objs[o]? =some .dead)→is.map σ=ext.map some→RV.all (Ya pk) rvs=some ds→HasKs (RK.all (Ya pk)) ds→Vars ρ n ds→
   (∀(i:Nat) r u,rvs[i]? =some r→ext[i]? =some u→RepR m w B r u)→(∀b,B b→E.w0.heap.size≤b∨E.mine b)→
   (∀u∈ext,∀b,blk u=some b→∀(o:Nat) ov,objs[o]? =some ov→ov.alive=true→(σ o).bind blk≠some b)→
   (∀(i j:Nat) u u' b,i≠j→ext[i]? =some u→ext[j]? =some u'→blk u=some b→blk u'≠some b)→is.length=(Ya pk).length→
   Fits E σ m (W0 ρ ⟨ts,WD objs is (Ya pk) n⟩) a w∧∀o∈WD objs is (Ya pk) n,OV.Ok ρ o:=by
 have key:∀ {rk:List RK},(∀k∈rk,(∃ks,k=.own ks)∨∃ks,k=.box ks)→∀ {is:List Nat} {n:Nat} {objs:List (OV TK)} {m:Mem} {ext:List Value} {rvs:List RV} {ds:List D},
   Fits E σ m (W0 ρ ⟨ts,objs⟩) a w→(∀o∈objs,OV.Ok ρ o)→is.Nodup→(∀o∈is,objs[o]? =some .dead)→is.map σ=ext.map some→RV.all rk rvs=some ds→HasKs (RK.all rk) ds→Vars ρ n ds→
   (∀(i:Nat) r u,rvs[i]? =some r→ext[i]? =some u→RepR m w B r u)→(∀b,B b→E.w0.heap.size≤b∨E.mine b)→
   (∀u∈ext,∀b,blk u=some b→∀(o:Nat) ov,objs[o]? =some ov→ov.alive=true→(σ o).bind blk≠some b)→
   (∀(i j:Nat) u u' b,i≠j→ext[i]? =some u→ext[j]? =some u'→blk u=some b→blk u'≠some b)→is.length=rk.length→
   Fits E σ m (W0 ρ ⟨ts,WD objs is rk n⟩) a w∧∀o∈WD objs is rk n,OV.Ok ρ o:=by
   intro rk;induction rk with
   | nil=>
     intro _ is n objs m ext rvs ds hf hok _ _ _ _ _ _ _ _ _ _ hl;cases is with
     |nil=>exact⟨hf,hok⟩
     |cons o is=>simp at hl
   | cons k rk ih=>
     intro hown is n objs m ext rvs ds hf hok hnd hdead hnm hall hks hv hrep hB hfree hsep hl;cases is with
     |nil=>simp at hl
     |cons o is=>
     cases rvs with
     |nil=>simp [RV.all]at hall
     |cons r rvs=>
     cases ext with
     |nil=>simp at hnm
     |cons u ext=>
     simp only [List.map_cons,List.cons.injEq]at hnm;obtain⟨hσ,hnm⟩:=hnm;simp only [RV.all]at hall;split at hall <;> try contradiction
     rename_i d1 d2 h1 h2;cases hall;rcases hown k List.mem_cons_self with⟨ks,rfl⟩|⟨ks,rfl⟩
     · cases r with
       |d x=>simp [RV.cells]at h1
       |any=>simp [RV.cells]at h1
       |box cs=>simp [RV.cells]at h1
       |own e xs=>
       simp only [RV.cells]at h1;split at h1 <;> try contradiction
       rename_i he;cases h1;have hkk:RK.all (.own ks::rk)=.slice ks::RK.all rk:=rfl;rw [hkk]at hks;simp only [List.cons_append,List.nil_append,HasKs]at hks;have hvar:ρ[n]? =some (.slice xs):=by have:=hv 0 (.slice xs) rfl;simpa using this
       have hden:denL ρ ⟨.var n,.slice ks⟩=.slice xs:=Zx hvar;rw [List.nodup_cons]at hnd;have ho:=hdead o List.mem_cons_self;have hr0:=hrep 0 _ _ rfl rfl;have hfit:Fits E σ m (W0 ρ ⟨ts,objs.set o (.arr ks.length ⟨.var n,.slice ks⟩)⟩) a w:=by
         rw [Ye (st:=⟨ts,objs⟩)];refine hf.revive (by simp [W0,St.map,ho,OV.map]) ?_ (by simp [OV.map]) (by simp [OV.map]) ?_
         · simp only [OV.map,hden];cases hr0 with
           |none=>rw [←he];exact .none hσ
           |own hB' hm hb h0 hc hcc hcap hsz hee hvv=>subst he;exact .arr hσ hb h0 hc hcc hcap hsz hee hvv
         · intro b _ hb;rw [hσ]at hb;simp only [Option.bind_some]at hb;cases hr0 with
           |none=>simp [Zn]at hb
           | own hB' hm hb' h0 hc hcc hcap hsz hee hvv=>
             rw [Z9 h0]at hb;cases hb;refine⟨hm,hB _ hB',fun o' ov' ho' hal=>?_⟩;simp only [W0,St.map,List.getElem?_map,Option.map_eq_some_iff]at ho';obtain⟨ov2,ho2,rfl⟩:=ho';exact hfree _ List.mem_cons_self _ (Z9 h0) o' ov2 ho2 (by cases ov2 <;> first|rfl|(simp [OV.map,OV.alive]at hal))
       simp only [WD];refine ih (fun k hk=>hown k (List.mem_cons_of_mem _ hk)) hfit ?_ hnd.2 ?_ hnm h2 hks.2 (by have:=hv.tail;simpa using this) (fun i r u a b=>hrep (i+1) r u (by simpa using a) (by simpa using b)) hB ?_
         (fun i j u u' b hne a a'=>hsep (i+1) (j+1) u u' b (by omega) (by simpa using a) (by simpa using a')) (by simpa using hl)
       · intro q hq;rcases List.mem_or_eq_of_mem_set hq with hq|rfl
         · exact hok q hq
         · exact .arr (.var hvar hks.1)
       · intro q hq;have:q≠o:=fun e=>hnd.1 (e▸hq)
         rw [List.getElem?_set_ne (fun e=>this e.symm)];exact hdead q (List.mem_cons_of_mem _ hq)
       · intro u' hu' b hb o' ov ho' hal;rcases Y0 ho' with⟨rfl,_,_⟩|⟨_,ho'⟩
         · rw [hσ];obtain⟨j,hj⟩:=List.mem_iff_getElem?.1 hu';exact fun hb'=>hsep 0 (j+1) u u' b (by omega) rfl (by simpa using hj) (by simpa using hb') hb
         · exact hfree u' (List.mem_cons_of_mem _ hu') b hb o' ov ho' hal
     · cases r with
       |d x=>cases x <;> simp [RV.cells]at h1
       |any=>simp [RV.cells]at h1
       |own e xs=>simp [RV.cells]at h1
       |box cs=>
       simp only [RV.cells]at h1;split at h1 <;> try contradiction
       rename_i he;simp only [Option.some.injEq]at h1;subst h1;have hkk:RK.all (.box ks::rk)=ks++RK.all rk:=rfl;rw [hkk]at hks;have hk2:HasKs ks cs∧HasKs (RK.all rk) d2:=HasKs.unappend he hks;obtain⟨c1,c2,c3⟩:=Jm hv.left hk2.1;rw [List.nodup_cons]at hnd;have ho:=hdead o List.mem_cons_self;have hr0:=hrep 0 _ _ rfl rfl;have hfit:Fits E σ m (W0 ρ ⟨ts,objs.set o (.box ((Yd n ks).map .d))⟩) a w:=by
         rw [Ye (st:=⟨ts,objs⟩)];refine hf.revive (by simp [W0,St.map,ho,OV.map]) ?_ (by simp [OV.map]) (by simp [OV.map]) ?_
         · simp only [OV.map,List.map_map];cases hr0 with
           | box hB' hm hb hsz hvv=>
             refine .box hσ hb (by simp [hsz,c1]) fun i c v hc hu=>?_
             simp only [List.getElem?_map,Option.map_eq_some_iff]at hc;obtain⟨y,hy,rfl⟩:=hc;have hlt:i < cs.length:=by rw [←c1];exact(List.getElem?_eq_some_iff.1 hy).1
             refine .d ?_;rw [c3 i y _ hy (List.getElem?_eq_getElem hlt)];exact hvv i _ v (List.getElem?_eq_getElem hlt) hu
         · intro b _ hb;rw [hσ]at hb;simp only [Option.bind_some]at hb;cases hr0 with
           | box hB' hm hb' hsz hvv=>
             simp only [blk,Option.some.injEq]at hb;subst hb;refine⟨hm,hB _ hB',fun o' ov' ho' hal=>?_⟩;simp only [W0,St.map,List.getElem?_map,Option.map_eq_some_iff]at ho';obtain⟨ov2,ho2,rfl⟩:=ho';exact hfree _ List.mem_cons_self _ rfl o' ov2 ho2 (by cases ov2 <;> first|rfl|(simp [OV.map,OV.alive]at hal))
       simp only [WD];refine ih (fun k hk=>hown k (List.mem_cons_of_mem _ hk)) hfit ?_ hnd.2 ?_ hnm h2 hk2.2 (by rw [←he];exact hv.right) (fun i r u a b=>hrep (i+1) r u (by simpa using a) (by simpa using b)) hB ?_
         (fun i j u u' b hne a a'=>hsep (i+1) (j+1) u u' b (by omega) (by simpa using a) (by simpa using a')) (by simpa using hl)
       · intro q hq;rcases List.mem_or_eq_of_mem_set hq with hq|rfl
         · exact hok q hq
         · exact .box fun c hc=>by obtain⟨y,hy,rfl⟩:=List.mem_map.1 hc;exact .d (c2 y hy)
       · intro q hq;have:q≠o:=fun e=>hnd.1 (e▸hq)
         rw [List.getElem?_set_ne (fun e=>this e.symm)];exact hdead q (List.mem_cons_of_mem _ hq)
       · intro u' hu' b hb o' ov ho' hal;rcases Y0 ho' with⟨rfl,_,_⟩|⟨_,ho'⟩
         · rw [hσ];obtain⟨j,hj⟩:=List.mem_iff_getElem?.1 hu';exact fun hb'=>hsep 0 (j+1) u u' b (by omega) rfl (by simpa using hj) (by simpa using hb') hb
         · exact hfree u' (List.mem_cons_of_mem _ hu') b hb o' ov ho' hal
 intro pk is n objs m ext rvs ds;refine key (fun k hk=>?_);induction pk with
 |nil=>simp [Ya]at hk
 | cons p pk ih=>
   cases p with
   | own ks=>
     simp only [Ya,List.mem_cons]at hk;rcases hk with rfl|hk
     · exact .inl ⟨ks,rfl⟩
     · exact ih hk
   | box ks=>
     simp only [Ya,List.mem_cons]at hk;rcases hk with rfl|hk
     · exact .inr ⟨ks,rfl⟩
     · exact ih hk
   |cell ks=>exact ih (by simpa [Ya]using hk)
   |agg ks=>exact ih (by simpa [Ya]using hk)
   |any=>exact ih (by simpa [Ya]using hk)
end
theorem RV.all_prefix {a a0 b:List RK} (h:∀rvs ds,RV.all a rvs=some ds→RV.all a0 rvs=some ds) {rvs:List RV} {ds:List D} (hd:RV.all (a++b) rvs=some ds):RV.all (a0++b) rvs=some ds:=by
 have split:∀ {a:List RK} {rvs:List RV} {ds:List D},RV.all (a++b) rvs=some ds→∃r1 r2 d1 d2,rvs=r1++r2∧ds=d1++d2∧RV.all a r1=some d1∧RV.all b r2=some d2:=by
   intro a;induction a with
   |nil=>intro rvs ds h;exact⟨[],rvs,[],ds,rfl,rfl,rfl,h⟩
   | cons k a ih=>
     intro rvs ds h;cases rvs with
     |nil=>simp [RV.all]at h
     | cons v rvs=>
       simp only [List.cons_append,RV.all]at h;split at h <;> try contradiction
       rename_i x y h1 h2;cases h;obtain⟨r1,r2,d1,d2,rfl,rfl,q1,q2⟩:=ih h2;exact⟨v::r1,r2,x++d1,d2,rfl,by simp,by simp [RV.all,h1,q1],q2⟩
 have join:∀ {a:List RK} {r1 r2:List RV} {d1 d2:List D},RV.all a r1=some d1→RV.all b r2=some d2→RV.all (a++b) (r1++r2)=some (d1++d2):=by
   intro a;induction a with
   |nil=>intro r1 r2 d1 d2 h1 h2;cases r1 with|nil=>simp [RV.all]at h1;subst h1;simpa using h2|cons _ _=>simp [RV.all]at h1
   | cons k a ih=>
     intro r1 r2 d1 d2 h1 h2;cases r1 with
     |nil=>simp [RV.all]at h1
     | cons v r1=>
       simp only [RV.all]at h1;split at h1 <;> try contradiction
       rename_i x y q1 q2;cases h1;simp [RV.all,q1,ih q2 h2]
 obtain⟨r1,r2,d1,d2,rfl,rfl,q1,q2⟩:=split hd;exact join (h _ _ q1) q2
theorem RV.all_split {b:List RK}:∀ {a:List RK} {rvs:List RV} {ds:List D},RV.all (a++b) rvs=some ds→∃r1 r2 d1 d2,rvs=r1++r2∧ds=d1++d2∧RV.all a r1=some d1∧RV.all b r2=some d2
 | [],rvs,ds,h=>⟨[],rvs,[],ds,rfl,rfl,rfl,h⟩
 |k::a,[],ds,h=>by simp [RV.all]at h
 | k::a,v::rvs,ds,h=>by
   simp only [List.cons_append,RV.all]at h;split at h <;> try contradiction
   rename_i x y h1 h2;cases h;obtain⟨r1,r2,d1,d2,rfl,rfl,q1,q2⟩:=RV.all_split h2;exact⟨v::r1,r2,x++d1,d2,rfl,by simp,by simp [RV.all,h1,q1],q2⟩
theorem RV.cells_len {k:RK} {v:RV} {ds:List D} (h:RV.cells k v=some ds):ds.length=k.kinds.length:=by
 cases k <;> cases v <;> simp [RV.cells]at h
 all_goals first
   |(subst h;rfl)
   |(obtain⟨h1,rfl⟩:=h;first|exact h1|rfl)
   |(rename_i d;cases d <;> simp [RV.cells]at h;obtain⟨h1,rfl⟩:=h;exact h1)
theorem RV.all_len:∀ {rk:List RK} {rvs:List RV} {ds:List D},RV.all rk rvs=some ds→rvs.length=rk.length∧ds.length=(RK.all rk).length
 | [],[],ds,h=>by simp [RV.all]at h;subst h;exact⟨rfl,rfl⟩
 | [],_::_,ds,h=>by simp [RV.all]at h
 |_::_,[],ds,h=>by simp [RV.all]at h
 | k::rk,v::rvs,ds,h=>by
   simp only [RV.all]at h;split at h <;> try contradiction
   rename_i h1 h2;cases h;obtain⟨e1,e2⟩:=RV.all_len h2;have e3:=RV.cells_len h1;simp only [RK.all]at e2 ⊢;exact⟨by simp [e1],by simp [e2,e3]⟩
theorem Z2c {P:Program} {own:Bool}:∀ {tys:List TypeId} {rk:List RK},Z8 P own tys=some rk→rk.length=tys.length
 | [],rk,h=>by simp [Z8]at h;subst h;rfl
 | t::ts,rk,h=>by
   simp only [Z8]at h;split at h <;> try contradiction
   rename_i ks hks;have:=Z2c hks;split at h
   · split at h <;> cases h <;> simp [this]
   · cases h;simp [this]
theorem Z1x {q:Nat}:∀ {is:List Nat} {rk:List RK} {objs:List (OV TK)} {n:Nat},q∉is→(WD objs is rk n)[q]? =objs[q]?
 | [],rk,objs,n,_=>by cases rk <;> rfl
 |o::is,[],objs,n,_=>rfl
 | o::is,k::rk,objs,n,h=>by
   simp only [List.mem_cons,not_or]at h;cases k <;> simp only [WD] <;> try rfl
   all_goals rw [Z1x h.2,List.getElem?_set_ne (fun e=>h.1 e.symm)]
theorem Z7p:∀ {pk:List PK} {rvs:List RV} {ds:List D},RV.all (Ya pk) rvs=some ds→∀r∈rvs,r.isOwn=true:=by
 intro pk;induction pk with
 |nil=>intro rvs ds h r hr;cases rvs with|nil=>cases hr|cons _ _=>simp [RV.all,Ya]at h
 | cons p pk ih=>
   intro rvs ds h r hr;cases p with
   |cell k=>exact ih (by simpa [Ya]using h) r hr
   |agg k=>exact ih (by simpa [Ya]using h) r hr
   |any=>exact ih (by simpa [Ya]using h) r hr
   | own ks=>
     cases rvs with
     |nil=>cases hr
     |cons v rvs=>
     simp only [Ya,RV.all]at h;split at h <;> try contradiction
     rename_i h1 h2;rcases List.mem_cons.1 hr with rfl|hr
     · cases r with
       |d x=>simp [RV.cells]at h1
       |any=>simp [RV.cells]at h1
       |box cs=>simp [RV.cells]at h1
       |own e xs=>rfl
     · exact ih h2 r hr
   | box ks=>
     cases rvs with
     |nil=>cases hr
     |cons v rvs=>
     simp only [Ya,RV.all]at h;split at h <;> try contradiction
     rename_i h1 h2;rcases List.mem_cons.1 hr with rfl|hr
     · cases r with
       |d x=>cases x <;> simp [RV.cells]at h1
       |any=>simp [RV.cells]at h1
       |box cs=>rfl
       |own e xs=>simp [RV.cells]at h1
     · exact ih h2 r hr
section
variable {E:Env} {ρ:List D} {σ:Names} {m:Mem} {a:Act} {w:World}
theorem Z0n {ρ:List D} {σ':Names} {m':Mem} {svs:List (SV TK)} {us:List Value} (hvl:svs.length=us.length) (hr:∀(i:Nat) v u,svs[i]? =some v→us[i]? =some u→RS σ' m' ρ v u):
   RS σ' m' ρ (Wm svs) (Z2A us):=by
 unfold Wm Z2A;split
 · rename_i v1;have h1:us.toArray.size=1:=by simpa using hvl.symm
   rw [dif_pos h1];exact hr 0 _ _ rfl (by simp [h1])
 · rename_i hne;have h1:us.toArray.size≠1:=by
     intro h1;have h1':us.length=1:=by simpa using h1
     rw [h1']at hvl
     match svs,hvl with
     | [x],_=>exact hne x rfl
   rw [dif_neg h1];simp only [RS,SV.map,SV.mapL_eq];refine .tup (by simp [hvl]) fun i c u hc' hu=>?_
   simp only [List.getElem?_map,Option.map_eq_some_iff]at hc';obtain⟨c',hc'',rfl⟩:=hc';exact hr i c' u hc'' (by simpa using hu)
theorem ZcN {F:Option Nat→List RV→Prop} {Kd:Ags→List D→XExit→XS→Prop} {ags:Ags} {xs:XS} {o:Oper} {ops:Array Oper} {own upd:Bool} {f:FuncId} {pk:List PK} {vs:List (SV TK)}
   {vals:List Value} (hf:Fits E σ m (W0 ρ xs.st) a w) (hx:XOk ρ xs) (hw:Region.wanted o (yielded ops a.tmps)=true)
   (hlv:vals.length=vs.length) (hrv:∀(i:Nat) c v,vs[i]? =some c→vals[i]? =some v→RS σ m ρ c v) (hkv:∀c∈vs,SV.Ok ρ c) (hrun0:J2 E.P f=true→(execOp a.eval o).run E.P w=.ok (.enter f vals.toArray) w)
   (h:denR E.P F Kd (callX E.P xs o vs own f pk upd) ags ρ):WJ E ops o a w (Res E Kd ags a o.dst):=by
 unfold callX at h;split at h
 · simp [denR]at h
 rename_i hcond;simp only [Bool.or_eq_true,Bool.not_eq_true',not_or,Bool.not_eq_false]at hcond;obtain⟨hcl,hsame⟩:=hcond;have hty:=JJ hsame;split at h;rotate_left
 · simp [denR]at h
 rename_i rs is objs rk hargs hrk;obtain⟨m1,A⟩:=Z2Y (E:=E) (ρ:=ρ) (σ:=σ) (ts:=xs.st.tmps) (a:=a) (w:=w) (vals:=vals) (by exact hf) hx.all.objs hargs hrv hlv hkv;have hF:=A.fr.fits;obtain⟨k1,k2,k3,k4,k5⟩:=Z2o (is:=is) hF A.fr.ok;have hdead:∀o∈is,(Yk objs is)[o]? =some .dead:=fun q hq=>by
   obtain⟨ov,hx',_⟩:=A.arr q hq;exact k5 q hq (List.getElem?_eq_some_iff.1 hx').1
 have hOB:∀b,Zi (rs.map (RT.den ρ)) vals b→∃q∈is,(σ q).bind blk=some b∧∃ov,(W0 ρ ⟨xs.st.tmps,objs⟩).objs[q]? =some ov∧ov.alive=true:=by
   intro b hb;rw [Jy (by rw [A.reps.len])]at hb;obtain⟨v,hv,hbv⟩:=hb;have:some v∈is.map σ:=by rw [A.names];exact List.mem_map_of_mem hv
   obtain⟨q,hq,hs⟩:=List.mem_map.1 this;obtain⟨ov,hx',ha'⟩:=A.arr q hq;exact⟨q,hq,by rw [hs];exact hbv,ov.map (denL ρ),by simp [W0,St.map,hx'],by cases ov <;> first|rfl|(simp [OV.alive]at ha')⟩
 have hO:∀b,Zi (rs.map (RT.den ρ)) vals b→b < w.heap.size∧(E.w0.heap.size≤b∨E.mine b):=by
   intro b hb;obtain⟨q,_,hb',ov,hq,ha'⟩:=hOB b hb;exact⟨(hF.objs q _ hq).lt ha' hb',(hF.sep q _ b hq ha' hb').2⟩
 have hal:∀b,WY σ (W0 ρ ⟨xs.st.tmps,Yk objs is⟩) b→¬Zi (rs.map (RT.den ρ)) vals b:=by
   rintro b ⟨q,ov,h1,h2,h3⟩ hb;obtain⟨q',hq',hb',ov2,hq2,ha2⟩:=hOB b hb;simp only [W0,St.map,List.getElem?_map,Option.map_eq_some_iff]at h1;obtain⟨ov',h1,rfl⟩:=h1;have hni:q∉is:=fun hi=>by rw [hdead q hi]at h1;cases h1;simp [OV.map,OV.alive]at h2
   rw [k4 q hni]at h1;have:=hF.inj q q' _ _ b (show(W0 ρ ⟨xs.st.tmps,objs⟩).objs[q]? =some (ov'.map (denL ρ)) by simp [W0,St.map,h1]) hq2 h2 ha2 h3 hb';exact hni (this▸hq')
 have hmk:∀D,mark D∈a.defers→¬Zi (rs.map (RT.den ρ)) vals D:=by
   intro D hD hb;obtain⟨q,_,hb',ov,hq,ha'⟩:=hOB D hb;obtain⟨ob0,hcells,hho⟩:=(hF.objs q _ hq).cells ha' hb';obtain⟨Ds,d1,_,d3⟩:=hF.dfr;rw [d1]at hD;obtain⟨D',hD',he⟩:=List.mem_map.1 hD;have:D'=D:=by simpa [mark]using he
   subst this;have:=(d3 D' hD').1;rw [hcells]at this;cases this;cases hho
 have main:∀ {res:List RK} {K:List D→Prop} {r:R},denR E.P F Kd (.callX upd f rs res r) ags ρ→res=rk++(if upd then Ya pk else [])→
     (∀w' m2 rvs us ds,RV.all res rvs=some ds→HasKs (RK.all res) ds→denR E.P F Kd r ags (ρ++ds)→RepRs m2 w' (fun b=>w.heap.size≤b∨Zi (rs.map (RT.den ρ)) vals b) rvs (us++if upd then W5 (rs.map (RT.den ρ)) vals else [])→
       Fits E σ m2 (W0 ρ ⟨xs.st.tmps,Yk objs is⟩) a w'→w.heap.size≤w'.heap.size→Res E Kd ags a o.dst (Z2A us) w')→WJ E ops o a w (Res E Kd ags a o.dst):=by
   intro res K r hR hres hK a' K' Q hwant heq hK';simp only [denR]at hR;obtain⟨pk',s,hcon,htyp,hback,hs⟩:=hR;have hrun:=hrun0 hcl;rw [←heq]at hrun;rw [hwant,if_pos hw];refine Wo hrun (by simp) ?_;rw [Oper.uponIn_enter];refine⟨by simp [fen,Fence.wide],Z1w ?_⟩;have hcall:=hcon.2 _ _ hs htyp w m1 vals hF.mem A.reps;refine hcall.mono ?_;rintro e w' ⟨rvs,us,v,m2,⟨ds,hds,hden'⟩,hrt,rfl,rfl,hreps,hle,hmem,hold,hap⟩;simp only;have hbk:(if upd then Ya pk' else [])=if upd then Ya pk else []:=by
     cases upd with
     |false=>rfl
     | true=>
       simp only [if_true];have h1:=hback rfl;rw [hres, ←hty, ←Z2c hrk]at h1;simpa using h1.symm
   obtain⟨rk0,q1,q2,q3⟩:=YK hrk;rw [hty]at q1;obtain⟨ds',e1,e2⟩:=hrt rk0 q1;rw [hbk]at e1 e2;have hds0:RV.all (rk0++if upd then Ya pk else []) rvs=some ds:=by
     rw [hres]at hds;exact RV.all_prefix q3 hds
   rw [hds0]at e1;cases e1;have hks:HasKs (RK.all res) ds:=by
     rw [hres];simp only [RK.all,List.map_append,List.flatten_append]at e2 q2 ⊢;rw [←q2];exact e2
   refine hK' _ _ (hK w' m2 rvs us ds hds hks hden' hreps ?_ hap.size);exact k1.other (O:=Zi (rs.map (RT.den ρ)) vals) hap.block hap.size hap.os hap.tape hap.output hap.drawn hle hold hmem hal (fun b hb=>(hO b hb).2) hmk
 have okk:∀ds,St.Ok (ρ++ds) ⟨xs.st.tmps,Yk objs is⟩:=fun ds=>⟨fun v hv=>(hx.all.tmps v hv).ext ds,fun o ho=>(k2 o ho).ext ds⟩
 have okk0:St.Ok ρ ⟨xs.st.tmps,Yk objs is⟩:=⟨hx.all.tmps,k2⟩
 have hnv:xs.nv=ρ.length:=hx.nv.symm;have hfree:∀b,(w.heap.size≤b∨Zi (rs.map (RT.den ρ)) vals b)→∀(q:Nat) ov,(Yk objs is)[q]? =some ov→ov.alive=true→(σ q).bind blk≠some b:=by
   intro b hb q ov hov hal' hbb;have hl:WY σ (W0 ρ ⟨xs.st.tmps,Yk objs is⟩) b:=⟨q,ov.map (denL ρ),by simp [W0,St.map,hov],by cases ov <;> first|rfl|(simp [OV.alive]at hal'),hbb⟩
   rcases hb with hb|hb
   · have:=(k1.objs q (ov.map (denL ρ)) (by simp [W0,St.map,hov])).lt (by cases ov <;> first|rfl|(simp [OV.alive]at hal')) hbb;omega
   · exact hal b hl hb
 split at h
 · -- the arrays come back
   rename_i hup;generalize hrs:Ja rk xs.nv (WD (Yk objs is) is (Ya pk) (xs.nv+(RK.all rk).length))=rec at h;obtain⟨svs,n',objs2⟩:=rec;refine main (res:=rk++Ya pk) (K:=fun _=>True) (by rw [hup];exact h) (by simp [hup]) ?_;intro w' m2 rvs us ds hds hks hkd hreps hfit hgrow;simp only [hup,if_true]at hreps;simp only [denR]at hkd;obtain⟨r1,r2,d1,d2,rfl,rfl,q1,q2⟩:=RV.all_split hds;obtain⟨l1,l2⟩:=RV.all_len q1;obtain⟨l3,l4⟩:=RV.all_len q2;have hka:RK.all (rk++Ya pk)=RK.all rk++RK.all (Ya pk):=by simp [RK.all]
   rw [hka]at hks;obtain⟨hks1,hks2⟩:=HasKs.unappend l2 hks;have hle:(W5 (rs.map (RT.den ρ)) vals).length=is.length:=by
     have:=congrArg List.length A.names;simpa using this.symm
   have hus:us.length=r1.length:=by
     have:=hreps.len;simp only [List.length_append]at this;rw [hle,A.len, ←l3]at this;omega
   have hfit':Fits E σ m2 (W0 (ρ++(d1++d2)) ⟨xs.st.tmps,Yk objs is⟩) a w':=by rw [Jw okk0];exact hfit
   have hown:∀(i:Nat) r,r2[i]? =some r→r.isOwn=true:=fun i r hr=>Z7p q2 r (List.mem_of_getElem? hr)
   have hrepL:∀(i:Nat) r u,r1[i]? =some r→us[i]? =some u→RepR m2 w' (fun b=>w.heap.size≤b∨Zi (rs.map (RT.den ρ)) vals b) r u:=fun i r u hr hu=>
     hreps.rep i r u (by rw [List.getElem?_append_left (List.getElem?_eq_some_iff.1 hr).1];exact hr) (by rw [List.getElem?_append_left (List.getElem?_eq_some_iff.1 hu).1];exact hu)
   have at1:∀ {i:Nat} {r:RV},r1[i]? =some r→(r1++r2)[i]? =some r:=fun {i r} hr=>by rw [List.getElem?_append_left (List.getElem?_eq_some_iff.1 hr).1];exact hr
   have at2:∀ {i:Nat} {r:RV},r2[i]? =some r→(r1++r2)[r1.length+i]? =some r:=fun {i r} hr=>by rw [List.getElem?_append_right (by omega)];simpa using hr
   have atu1:∀ {i:Nat} {u:Value},us[i]? =some u→(us++W5 (rs.map (RT.den ρ)) vals)[i]? =some u:=fun {i u} hr=>by rw [List.getElem?_append_left (List.getElem?_eq_some_iff.1 hr).1];exact hr
   have atu2:∀ {i:Nat} {u:Value},(W5 (rs.map (RT.den ρ)) vals)[i]? =some u→(us++W5 (rs.map (RT.den ρ)) vals)[r1.length+i]? =some u:=fun {i u} hr=>by rw [←hus,List.getElem?_append_right (by omega)];simpa using hr
   have hlv:∀ {i:Nat} {u:Value},(W5 (rs.map (RT.den ρ)) vals)[i]? =some u→∃r,r2[i]? =some r:=by
     intro i u hi;have hlt:=(List.getElem?_eq_some_iff.1 hi).1;exact⟨_,List.getElem?_eq_getElem (by rw [l3, ←A.len, ←hle];exact hlt)⟩
   have hBB:∀b,(w.heap.size≤b∨Zi (rs.map (RT.den ρ)) vals b)→E.w0.heap.size≤b∨E.mine b:=fun b hb=>hb.elim (fun hb=>.inl (Nat.le_trans hf.grow hb)) fun hb=>(hO b hb).2
   obtain⟨b1,b2⟩:=Z9B (B:=fun b=>w.heap.size≤b∨Zi (rs.map (RT.den ρ)) vals b) (n:=xs.nv+(RK.all rk).length) hfit' (okk _).objs A.nd hdead A.names q2 hks2
     (by rw [hnv, ←l2];exact(Vars.self ρ (d1++d2)).right) (fun i r u hr hu=>hreps.rep _ r u (at2 hr) (atu2 hu)) hBB
     (fun u hu b hb=>hfree b (.inr ((Jy (by rw [A.reps.len])).2 ⟨u,hu,hb⟩)))
     (fun i j u u' b hne hi hj hb=>by
       obtain⟨r,hr⟩:=hlv hi;obtain⟨r',hr'⟩:=hlv hj;exact hreps.sep _ _ r r' u u' b (by omega) (at2 hr) (at2 hr') (atu2 hi) (atu2 hj) (hown i r hr) (hown j r' hr') hb) A.len
   obtain⟨hn',σ',m',R⟩:=WB (us:=us) hrs q1 hks1 (by rw [hnv];exact(Vars.self ρ (d1++d2)).left) b1 b2 hus hrepL hBB
     (by
       intro i r u b hi hu how hb q ov hov hal' hbb;by_cases hq:q∈is
       · have hm:σ q∈(W5 (rs.map (RT.den ρ)) vals).map some:=by rw [←A.names];exact List.mem_map_of_mem hq
         obtain⟨u2,hu2,hs2⟩:=List.mem_map.1 hm;obtain⟨j,hj⟩:=List.mem_iff_getElem?.1 hu2;obtain⟨r',hr'⟩:=hlv hj;rw [←hs2]at hbb;have hlt:=(List.getElem?_eq_some_iff.1 hi).1;exact hreps.sep _ _ r r' u u2 b (by omega) (at1 hi) (at2 hr') (atu1 hu) (atu2 hj) how (hown j r' hr') hb hbb
       · rw [Z1x hq]at hov;have hrr:=hrepL i r u hi hu;cases hrr with
         |d=>cases how
         |any=>cases how
         |none=>simp [Zn]at hb
         |box hB=>simp [blk]at hb;subst hb;exact hfree _ hB q ov hov hal' hbb
         |own hB _ _ h0c=>rw [Z9 h0c]at hb;cases hb;exact hfree _ hB q ov hov hal' hbb)
     (fun i j r r' u u' b hne hi hj hu hu' ho ho' hb=>hreps.sep i j r r' u u' b hne (at1 hi) (at1 hj) (atu1 hu) (atu1 hu') ho ho' hb)
   refine⟨ags,ρ++(d1++d2),_,σ',m',id,hkd,?_,?_,?_⟩
   · simp only;rw [Zd];exact R.fits.put o.dst (Z0n R.len R.rs)
   · exact St.Ok.putT (st:=⟨xs.st.tmps,objs2⟩) ⟨fun v hv=>(hx.all.tmps v hv).ext _,R.objs⟩ o.dst (Yy R.all) R.objs
   · simp only [List.length_append];rw [hn',l2,l4,hnv];omega
 · -- results alone
   rename_i hup;have hup:upd=false:=by simpa using hup
   generalize hrs:Ja rk xs.nv (Yk objs is)=rec at h;obtain⟨svs,n',objs2⟩:=rec;refine main (res:=rk) (K:=fun _=>True) (by rw [hup];exact h) (by simp [hup]) ?_;intro w' m2 rvs us ds hds hks hkd hreps hfit hgrow;simp only [hup,Bool.false_eq_true,if_false,List.append_nil]at hreps;simp only [denR]at hkd;have hfit':Fits E σ m2 (W0 (ρ++ds) ⟨xs.st.tmps,Yk objs is⟩) a w':=by rw [Jw okk0];exact hfit
   obtain⟨hn',σ',m',R⟩:=WB (us:=us) hrs hds hks (by rw [hnv];exact Vars.self ρ ds) hfit' (okk ds).objs hreps.len hreps.rep
     (fun b hb=>hb.elim (fun hb=>.inl (Nat.le_trans hf.grow hb)) fun hb=>(hO b hb).2)
     (by
       intro i r u b hi hu how hb q ov hov hal' hbb;have hrr:=hreps.rep i r u hi hu;cases hrr with
       |d=>cases how
       |any=>cases how
       |none=>simp [Zn]at hb
       |box hB=>simp [blk]at hb;subst hb;exact hfree _ hB q ov hov hal' hbb
       |own hB _ _ h0c=>rw [Z9 h0c]at hb;cases hb;exact hfree _ hB q ov hov hal' hbb)
     hreps.sep
   have hrs':RS σ' m' (ρ++ds) (Wm svs) (Z2A us):=Z0n R.len R.rs;refine⟨ags,ρ++ds,_,σ',m',id,hkd,?_,?_,?_⟩
   · simp only;rw [Zd];exact R.fits.put o.dst hrs'
   · exact St.Ok.putT (st:=⟨xs.st.tmps,objs2⟩) ⟨fun v hv=>(hx.all.tmps v hv).ext ds,R.objs⟩ o.dst (Yy R.all) R.objs
   · simp only [List.length_append];rw [hn',hks.length,hnv]
theorem ZaF:∀ {sh:List (Nat×Option Nat)} {vs cs:List (SV TK)} {vals:List Value},mixL aggS vs sh=some cs→vals.length=vs.length→(∀(i:Nat) c v,vs[i]? =some c→vals[i]? =some v→RS σ m ρ c v)→(∀c∈vs,SV.Ok ρ c)→
   ∃us,mixL aggV vals sh=some us∧us.length=cs.length∧(∀(i:Nat) c v,cs[i]? =some c→us[i]? =some v→RS σ m ρ c v)∧∀c∈cs,SV.Ok ρ c
 | [],vs,cs,vals,h,_,_,_=>by simp [mixL]at h;subst h;exact⟨[],rfl,rfl,by simp,by simp⟩
 | p ::sh,vs,cs,vals,h,hl,hr,hk=>by
   simp only [mixL]at h;split at h <;> try contradiction
   rename_i c cs' h1 h2;cases h;obtain⟨us,q1,q2,q3,q4⟩:=ZaF h2 hl hr hk;have one:∃u,mix1 aggV vals p=some u∧RS σ m ρ c u∧SV.Ok ρ c:=by
     obtain⟨i,j⟩:=p;have at_:∀ {s:SV TK},vs[i]? =some s→∃v,vals[i]? =some v∧RS σ m ρ s v∧SV.Ok ρ s:=fun {s} hs=>by
       have hi:=(List.getElem?_eq_some_iff.1 hs).1;have hv:vals[i]? =some (vals[i]'(by omega)):=List.getElem?_eq_getElem (by omega);exact⟨_,hv,hr i s _ hs hv,hk s (List.mem_of_getElem? hs)⟩
     cases j with
     |none=>simp only [mix1]at h1 ⊢;exact at_ h1
     | some j=>
       simp only [mix1]at h1 ⊢;obtain⟨l,hl1,hl2⟩:=Option.bind_eq_some_iff.1 h1;obtain⟨s,hs,hc⟩:=Option.bind_eq_some_iff.1 hl1;obtain⟨v,hv,hrs,hok⟩:=at_ hs;cases s <;> simp [aggS]at hc
       subst hc;rename_i l;simp only [RS,SV.map,SV.mapL_eq]at hrs;cases hrs with
       |agg hsz hcv=>
       rename_i arr;have hj:=(List.getElem?_eq_some_iff.1 hl2).1;simp only [List.length_map]at hsz;have hu:arr[j]? =some (arr[j]'(by omega)):=Array.getElem?_eq_getElem (by omega);refine⟨arr[j]'(by omega),?_,hcv j _ _ (by simp [hl2]) hu,?_⟩
       · simp [hv,aggV,hu]
       · cases hok with
         |agg hh=>exact hh c (List.mem_of_getElem? hl2)
   obtain⟨u,hu1,hu2,hu3⟩:=one;refine⟨u::us,by simp only [mixL,hu1,q1],by simp [q2],fun k c' v' a b=>?_,fun c' hc'=>?_⟩
   · cases k with
     |zero=>simp at a b;subst a b;exact hu2
     |succ k=>exact q3 k c' v' (by simpa using a) (by simpa using b)
   · rcases List.mem_cons.1 hc' with rfl|hc'
     · exact hu3
     · exact q4 c' hc'
theorem Z8p:∀ {sz:List Nat} {vs:List (SV TK)} {vals:List Value},Z9g sz vs=true→vals.length=vs.length→(∀(i:Nat) c v,vs[i]? =some c→vals[i]? =some v→RS σ m ρ c v)→
   vals.length=sz.length∧∀(i n:Nat) v,sz[i]? =some n→n≠0→vals[i]? =some v→∃a:Array Value,v=.agg a∧a.size=n
 | [],[],vals,_,hl,_=>⟨by simpa using hl,by simp⟩
 | [],_::_,_,h,_,_=>by simp [Z9g]at h
 |_::_,[],_,h,_,_=>by simp [Z9g]at h
 | n ::sz,s::vs,vals,h,hl,hr=>by
   cases vals with
   |nil=>simp at hl
   |cons v vals=>
   simp only [Z9g,Bool.and_eq_true]at h;obtain⟨q1,q2⟩:=Z8p h.2 (by simpa using hl) (fun i c v a b=>hr (i+1) c v (by simpa using a) (by simpa using b));refine⟨by simp [q1],fun i n' v' a h0 b=>?_⟩;cases i with
   |succ i=>exact q2 i n' v' (by simpa using a) h0 (by simpa using b)
   | zero=>
     simp at a b;subst a b;have h1:=h.1;have hrs:=hr 0 s v rfl rfl;cases s <;> simp [h0]at h1
     simp only [RS,SV.map,SV.mapL_eq]at hrs;cases hrs with
     |agg hsz _=>exact⟨_,rfl,by simpa [h1]using hsz⟩
theorem Z3n {ts:List (SV TK)}:∀ {pk:List PK} {vs:List (SV TK)} {vals:List Value} {objs:List (OV TK)} {σ:Names},Fits E σ m (W0 ρ ⟨ts,objs⟩) a w→(∀o∈objs,OV.Ok ρ o)→vals.length=vs.length→
   (∀(i:Nat) c v,vs[i]? =some c→vals[i]? =some v→RS σ m ρ c v)→(∀c∈vs,SV.Ok ρ c)→
   ∃ σ',σ.le σ'∧Fits E σ' m (W0 ρ ⟨ts,(YG pk vs objs).2⟩) a w∧(∀o∈(YG pk vs objs).2,OV.Ok ρ o)∧vals.length=(YG pk vs objs).1.length∧
     (∀(i:Nat) c v,(YG pk vs objs).1[i]? =some c→vals[i]? =some v→RS σ' m ρ c v)∧∀c∈(YG pk vs objs).1,SV.Ok ρ c
 | [],vs,vals,objs,σ,hf,hok,hl,hr,hk=>by simp only [YG];exact⟨σ,Names.le_refl σ,hf,hok,hl,hr,hk⟩
 |k::pk,[],vals,objs,σ,hf,hok,hl,hr,hk=>by simp only [YG];exact⟨σ,Names.le_refl σ,hf,hok,hl,hr,hk⟩
 | k ::pk,v::vs,vals,objs,σ,hf,hok,hl,hr,hk=>by
   cases vals with
   |nil=>simp at hl
   |cons val vals=>
   have hl':vals.length=vs.length:=by simpa using hl
   have hrt:∀(i:Nat) c v,vs[i]? =some c→vals[i]? =some v→RS σ m ρ c v:=fun i c v a b=>hr (i+1) c v (by simpa using a) (by simpa using b)
   have hkt:∀c∈vs,SV.Ok ρ c:=fun c hc=>hk c (List.mem_cons_of_mem _ hc)
   simp only [YG];split
   · rename_i ks;have hA:=hf.newObj (v0:=.slice none 0 0) (ov:=OV.map (denL ρ) (.arr ks.length ⟨.nils,.slice ks⟩)) (.none (J1 _ _ _)) (fun b hb=>by simp [Zn]at hb) (by simp [OV.map]) (by simp [OV.map]);rw [Z6]at hA;have hle:σ.le (σ.add objs.length (.slice none 0 0)):=by
       have:=Names.le_add hf.dom (Nat.le_refl _) (.slice none 0 0);rw [Z6]at this;exact this
     have hF:Fits E (σ.add objs.length (.slice none 0 0)) m (W0 ρ ⟨ts,objs++[.arr ks.length ⟨.nils,.slice ks⟩]⟩) a w:=by
       rw [Zf (st:=⟨ts,objs⟩)];exact hA
     obtain⟨σ',n1,n2,n3,n4,n5,n6⟩:=Z3n (pk:=pk) hF (fun p hp=>by
       rcases List.mem_append.1 hp with hp|hp
       · exact hok p hp
       · simp at hp;subst hp;exact .arr (.nils ks)) hl' (fun i c v a b=>(hrt i c v a b).mono hle (Mem.le_refl m)) hkt
     refine⟨σ',fun q v h=>n1 q v (hle q v h),n2,n3,by simp [n4],fun i c v' h1 h2=>?_,fun c hc=>?_⟩
     · cases i with
       | zero=>
         simp at h1 h2;subst h1 h2;have hr0:=hr 0 _ _ rfl rfl;simp only [RS,SV.map]at hr0 ⊢;cases hr0;exact .own (n1 _ _ (J1 _ _ _))
       |succ i=>exact n5 i c v' (by simpa using h1) (by simpa using h2)
     · rcases List.mem_cons.1 hc with rfl|hc
       · exact .own
       · exact n6 c hc
   · obtain⟨σ',n1,n2,n3,n4,n5,n6⟩:=Z3n (pk:=pk) hf hok hl' hrt hkt;refine⟨σ',n1,n2,n3,by simp [n4],fun i c v' h1 h2=>?_,fun c hc=>?_⟩
     · cases i with
       |zero=>simp at h1 h2;subst h1 h2;exact(hr 0 _ _ rfl rfl).mono n1 (Mem.le_refl m)
       |succ i=>exact n5 i c v' (by simpa using h1) (by simpa using h2)
     · rcases List.mem_cons.1 hc with rfl|hc
       · exact hk _ List.mem_cons_self
       · exact n6 c hc
theorem Z8B {F:Option Nat→List RV→Prop} {Kd:Ags→List D→XExit→XS→Prop} {ags:Ags} {md:Mode} {xs:XS} {o:Oper} {ops:Array Oper} {upd:Bool} {f:FuncId} {pk:List PK} {vs:List (SV TK)}
   {vals:List Value} (hf:Fits E σ m (W0 ρ xs.st) a w) (hx:XOk ρ xs) (hw:Region.wanted o (yielded ops a.tmps)=true)
   (hlv:vals.length=vs.length) (hrv:∀(i:Nat) c v,vs[i]? =some c→vals[i]? =some v→RS σ m ρ c v) (hkv:∀c∈vs,SV.Ok ρ c) (hrun0:J2 E.P f=true→(execOp a.eval o).run E.P w=.ok (.enter f vals.toArray) w)
   (h:denR E.P F Kd (Z9y E.P md xs o vs f pk upd) ags ρ):WJ E ops o a w (Res E Kd ags a o.dst):=by
 unfold Z9y at h;split at h
 · obtain⟨σ',n1,n2,n3,n4,n5,n6⟩:=Z3n (ts:=xs.st.tmps) (pk:=pk) (objs:=xs.st.objs) hf hx.all.objs hlv hrv hkv;exact ZcN (σ:=σ') (xs:= {xs with st:=⟨xs.st.tmps,(YG pk vs xs.st.objs).2⟩}) n2 ⟨⟨hx.all.tmps,n3⟩,hx.nv⟩ hw n4 n5 n6 hrun0 h
 rename_i q sz sh _;split at h;rotate_left
 · simp [denR]at h
 rename_i hc;simp only [Bool.and_eq_true]at hc;split at h;rotate_left
 · simp [denR]at h
 rename_i cs hcs;split at h;rotate_left
 · simp [denR]at h
 rename_i hone;simp only [denR]at h;obtain⟨hmix,hK0⟩:=h;obtain⟨us,u1,u2,u3,u4⟩:=ZaF hcs hlv hrv hkv;obtain⟨z1,z2⟩:=Z8p hc.2 hlv hrv;have z3:∀u∈us,u.oneCell'=true:=fun u hu=>by
   obtain⟨k,hk⟩:=List.getElem?_of_mem hu;have hk2:k < cs.length:=by rw [←u2];exact(List.getElem?_eq_some_iff.1 hk).1
   have hc1:cs[k]? =some cs[k]:=List.getElem?_eq_getElem hk2;exact Z1T (g:=none) hf hx.all (by simp) (List.all_eq_true.1 hone _ (List.getElem_mem hk2)) (u3 k _ u hc1 hk) (u4 _ (List.getElem_mem hk2))
 intro a' K Q hwant heq hK;have hrun:=hrun0 hc.1;rw [←heq]at hrun;rw [hwant,if_pos hw];refine Wo hrun (by simp) ?_;rw [Oper.uponIn_enter];refine⟨by simp [fen,Fence.wide],Z1w ((hmix.2 vals us w z1 z2 u1 z3).mono ?_)⟩;rintro e w' ⟨rfl,hbw⟩;simp only;have hmem:MemOk m w':=fun b ob hb=>by
   have h1:=hf.mem b ob hb;rw [hbw.block b (Array.getElem?_eq_some_iff.1 h1).1];exact h1
 have hf':=hf.lent (st':=xs.st) hbw (Mem.le_refl m) hmem;refine hK _ _ ⟨ags,ρ,_,σ,m,id,hK0,?_,?_,hx.nv⟩
 · simp only;rw [Zd];refine hf'.put o.dst ?_;simp only [SV.map,SV.mapL_eq];refine .agg (by simp [u2]) fun i c v hc hv=>?_
   simp only [List.getElem?_map,Option.map_eq_some_iff]at hc;obtain⟨c',hc',rfl⟩:=hc;exact u3 i c' v hc' (by simpa using hv)
 · exact hx.all.putT o.dst (.agg u4) hx.all.objs
end
section
variable {E:Env} {ρ:List D} {σ:Names} {m:Mem} {a:Act} {w:World}
theorem PureOk.step {st:St TK} {ops:Array Oper} {o:Oper} {sv:SV TK} {objs:List (OV TK)} {fs:List T} {v:Value} {w':World} {σ':Names} {m':Mem}
   (h:PureOk E ρ σ m st ops a w o sv objs fs v w' σ' m') {R:Value→World→Prop} (hR:R v w'):WJ E ops o a w R:=by
 intro a' K Q hw heq hK;rw [hw];have hk:=hK v w' hR;cases hb:Region.wanted o (yielded ops a.tmps)with
 | true=>
   simp only [if_true];rcases h.run hb with hr|⟨hr,rfl⟩
   · rw [←heq]at hr;exact Wo hr (by simp) hk
   · rw [←heq]at hr;exact Wo hr (by simp) hk
 | false=>
   simp only [Bool.false_eq_true,if_false];obtain⟨rfl,rfl⟩:=h.skip hb;exact hk
theorem ZE {F:Option Nat→List RV→Prop} {Kd:Ags→List D→XExit→XS→Prop} {ags:Ags} {xs:XS} {o:Oper} {g gr:Option T} {ops:Array Oper}
   (hf:Fits E σ m (W0 ρ xs.st) a w) (hx:XOk ρ xs) (hG:GOk ρ ops o a g gr) (h:denR E.P F Kd (ZZ E.P xs g gr o) ags ρ):WJ E ops o a w (Res E Kd ags a o.dst):=by
 simp only [ZZ]at h;split at h
 · simp [denR]at h
 rename_i s hs;split at h
 · rw [Zq,ZQ]at h;obtain⟨hn,hc⟩:=h;obtain⟨v,w',σ',m',hp,_⟩:=(Z1O (ops:=ops) hf hx.all hG hs (by simp)).1 rfl hn;exact hp.step ⟨ags,ρ,_,σ',m',id,hc hp.facts,hp.fits,hp.all,hx.nv⟩
 · rename_i c;split at h
   · simp [denR]at h
   rename_i hcond;simp only [Bool.or_eq_true,Bool.not_eq_true',not_or,Bool.not_eq_true,Bool.not_eq_false]at hcond;obtain⟨h1,h2⟩:=hcond;have h1:s.objs=none:=by cases hso:s.objs with|none=>rfl|some _=>simp [hso]at h1
   rw [Zq,ZQ]at h;obtain⟨hn,hc⟩:=h;obtain⟨v,hp⟩:=(Z1O (ops:=ops) hf hx.all hG hs (fun _=>by rw [hx.nv];exact h2)).2 c rfl h1 hn;exact hp.step ⟨ags,ρ,_,σ,m,id,hc hp.facts,hp.fits,hp.all,hx.nv⟩
theorem Z6d {P:Program} {w:World} {o:Oper} {c:Call} {fv:Operand} {f:FuncId} {first arr:Array Value} {ev:Operand→Value} (ho:o.op=.call c) (hc:c.callee=.value fv) (hv:ev fv=.func (.func f) first arr)
   (hcl:J2 P f=true):(execOp ev o).run P w=.ok (.enter f (first++c.args.map ev++arr)) w:=by
 unfold J2 at hcl;split at hcl <;> try contradiction
 rename_i fn hfn;simp only [Bool.and_eq_true,Bool.not_eq_true',Option.isSome_iff_exists]at hcl;obtain⟨⟨body,hb⟩,hname⟩:=hcl;have h1:fn.name≠ "runtime.NumGoroutine" :=by simpa using hname
 have:=show(callFunc f (first++c.args.map ev++arr)).run P w=.ok (.enter f (first++c.args.map ev++arr)) w from by simp only [callFunc,hfn,h1,hb];simp [hfn,h1,hb]
 rw [Array.append_assoc]at this ⊢;simp [execOp,ho,resolve,hc,hv,Deferred.ofValue,invoke,this]
theorem Z2D {F:Option Nat→List RV→Prop} {Kd:Ags→List D→XExit→XS→Prop} {ags:Ags} {xs:XS} {o:Oper} {g gr:Option T} {ops:Array Oper} {f:FuncId} {first captured:Array Operand}
   (ho:o.op=.makeFunc (.func f) first captured) (hf:Fits E σ m (W0 ρ xs.st) a w) (hx:XOk ρ xs) (hG:GOk ρ ops o a g gr)
   (h:denR E.P F Kd (Z1I xs g gr o f first.toList captured.toList) ags ρ):WJ E ops o a w (Res E Kd ags a o.dst):=by
 simp only [Z1I]at h;split at h
 · split at h;rotate_left
   · simp [denR]at h
   rename_i x hfi hca;split at h;rotate_left
   · simp [denR]at h
   rename_i q hq;simp only [denR]at h;have hwt:=hG.nn rfl;have hfi:first= #[x]:=by apply Array.ext';simpa using hfi
   have hca:captured= #[]:=by apply Array.ext';simpa using hca
   obtain⟨r1,_⟩:=Y5 hf hx.all (hG.known hwt) x;rw [hq]at r1;simp only [RS,SV.map]at r1;generalize hev:a.eval x=ev at r1;cases r1 with
   |ptr hσ=>
   rename_i b;have hrs:RS σ m ρ (.bnd f q) (.func (.func f) #[.pointer (some ⟨b,0,none⟩)] #[]):=by
     simp only [RS,SV.map];exact .bnd hσ
   intro a' K Q hw heq hK;rw [hw,hwt];simp only [if_true];have hrun:(execOp a.eval o).run E.P w=.ok (.value (.func (.func f) #[.pointer (some ⟨b,0,none⟩)] #[])) w:=by
     simp [execOp,ho,Instr.makeFunc,hfi,hca,hev]
   rw [←heq]at hrun;refine Wo hrun (by simp) ?_;rw [Oper.uponIn_value];refine hK _ _ ⟨ags,ρ,_,σ,m,id,h,?_,?_,hx.nv⟩
   · simp only;rw [Zd];exact hf.put o.dst hrs
   · exact hx.all.putT o.dst .bnd hx.all.objs
 rename_i hfi0;split at h
 · simp [denR]at h
 rename_i hgn;have hfi:first.toList=[]:=by simpa using hfi0
 have hgn:gr=none:=by cases gr with|none=>rfl|some _=>simp at hgn
 have hwt:=hG.nn hgn;have hfi:first= #[]:=by apply Array.ext';simpa using hfi
 split at h
 · rename_i ts objs hfr;obtain⟨m1,f1,l1,k1,r1⟩:=Z7Z (args:=captured.toList) (gr:=none) (sc:=true) hf hx.all (g:=g) (hG.known hwt) hfr;simp only [denR]at h;have hl:=LOks.of_tks k1;have hk:LOk ρ ⟨.clo f (T.list (ts.map (·.t))),.fn⟩:=LOk.clo hl.2;have hd:denL ρ ⟨.clo f (T.list (ts.map (·.t))),.fn⟩=.clo f (ts.map (denL ρ)):=by simp only [denL,den,W9,D.list,List.map_map];rfl
   have hrs:RS σ m1 ρ (.d ⟨.clo f (T.list (ts.map (·.t))),.fn⟩) (.func (.func f) #[] (captured.map a.eval)):=by
     refine .d ?_;rw [hd];refine .clo f _ _ (by simp at l1;simp [l1]) fun i d v hd hv=>?_
     simp only [List.getElem?_map,Option.map_eq_some_iff]at hd;obtain⟨y,hy,rfl⟩:=hd;exact r1 i y v hy (by simpa using hv)
   intro a' K Q hw heq hK;rw [hw,hwt];simp only [if_true];have hrun:(execOp a.eval o).run E.P w=.ok (.value (.func (.func f) #[] (captured.map a.eval))) w:=by
     simp [execOp,ho,Instr.makeFunc,hfi]
   rw [←heq]at hrun;refine Wo hrun (by simp) ?_;rw [Oper.uponIn_value];refine hK _ _ ⟨ags,ρ,_,σ,m1,id,h,?_,?_,hx.nv⟩
   · simp only;rw [Zd];exact f1.fits.put o.dst hrs
   · exact St.Ok.putT (st:=⟨xs.st.tmps,objs⟩) ⟨hx.all.tmps,f1.ok⟩ o.dst (.d hk) f1.ok
 · simp [denR]at h
theorem Z7M {P:Program} (w:World) (d:Nat) (t e:TypeId) (a:Option Addr) (l c n' c':Nat) (h:P.underlying t=some (.slice e)):(Op.equalIn (d+1) t (.slice a l c) (.slice none n' c')).run P w=.ok a.isNone w:=by
 cases a <;> simp [Op.equalIn,run_underlying h]
theorem Z6U {P:Program} (w:World) (t e:TypeId) (a:Option Addr) (l c n' c':Nat) (h:P.underlying t=some (.slice e)):(Op.equal t (.slice a l c) (.slice none n' c')).run P w=.ok a.isNone w:=Z7M w 9999 t e a l c n' c' h
theorem Z1p {F:Option Nat→List RV→Prop} {Kd:Ags→List D→XExit→XS→Prop} {ags:Ags} {xs:XS} {o:Oper} {g gr:Option T} {ops:Array Oper} {t yt:TypeId} {x y:Operand} {neg:Bool}
   (ho:o.op=.binOp (if neg then .neq else .eql) t x y yt) (hf:Fits E σ m (W0 ρ xs.st) a w) (hx:XOk ρ xs) (hG:GOk ρ ops o a g gr) (h:denR E.P F Kd (Z5b E.P xs g gr o t x y neg) ags ρ)
   (hp:denR E.P F Kd (ZZ E.P xs g gr o) ags ρ→WJ E ops o a w (Res E Kd ags a o.dst)):WJ E ops o a w (Res E Kd ags a o.dst):=by
 unfold Z5b at h;split at h;rotate_left
 · exact hp h
 rename_i s hs;split at h
 · simp [denR]at h
 rename_i hgr;have hgn:gr=none:=by cases gr with|none=>rfl|some _=>simp at hgr
 have hwt:=hG.nn hgn;unfold Zd0 at hs;split at hs <;> try contradiction
 rename_i hy;split at hs <;> try contradiction
 rename_i e s0 ks hu hxs;cases hs;obtain⟨r1,k1⟩:=Y5 hf hx.all (hG.known hwt) x;rw [hxs]at r1 k1;have hk:=Jc k1;obtain⟨yn,yc,hye⟩:∃n c,a.eval y=.slice none n c:=by
   unfold Zd6 at hy;split at hy <;> try contradiction
   exact⟨_,_,rfl⟩
 have hrep:=r1.d_inv;simp only [denL]at hrep;have hsl:∃zs,den ρ s=.slice zs:=by
   have:=hk.1;simp only at this;generalize den ρ s=d at this;cases d with
   |slice zs=>exact⟨zs,rfl⟩
   |_=>simp [HasK]at this
 obtain⟨zs,hzs⟩:=hsl;rw [hzs]at hrep;obtain⟨b,hb,heq⟩:∃b:Bool,(b=true→zs=[])∧(Op.equal t (a.eval x) (a.eval y)).run E.P w=.ok b w:=by
   rw [hye];generalize a.eval x=v at hrep;cases hrep with
   | empty ad c=>
     exact⟨ad.isNone,fun _=>rfl,Z6U w t _ ad 0 c _ _ hu⟩
   |slice xs b off arr t' fz e' c=>exact⟨false,by simp,Z6U w t _ _ _ _ _ _ hu⟩
 simp only [denR]at h;have hlen:b=true→den ρ (.o2 .eq (.o1 .len s) (.int .i64 0))=.bool true:=fun hbt=>by
   rw [hb hbt]at hzs;simp [den,hzs,O1.eval,O2.eval,D.eqb]
 have hh:=h b hlen;have hvar:(ρ++[D.bool b])[xs.nv]? =some (.bool b):=by rw [←hx.nv];simp
 have kv:LOk (ρ++[D.bool b]) ⟨.var xs.nv,.bool⟩:=.var hvar (by simp [HasK]);have hvd:den (ρ++[D.bool b]) (.var xs.nv)=.bool b:=by simpa [denL]using Zx (k:=.bool) hvar
 intro a' K Q hw heq' hK;rw [hw,hwt];simp only [if_true];have hnc:∃n c,(a.eval x=.slice none n c∨∃ad,a.eval x=.slice (some ad) n c):=by
   generalize a.eval x=v at hrep;cases hrep with
   | empty ad c=>cases ad with
     |none=>exact⟨_,_,.inl rfl⟩
     |some ad=>exact⟨_,_,.inr ⟨ad,rfl⟩⟩
   |slice xs b off arr t' fz e' c=>exact⟨_,_,.inr ⟨_,rfl⟩⟩
 have hrun:(execOp a.eval o).run E.P w=.ok (.value (.bool (if neg then !b else b))) w:=by
   obtain⟨n,c,hv|⟨ad,hv⟩⟩:=hnc
   · rw [hv,hye]at heq;cases neg <;> simp [execOp,ho,hv,hye,eqGuard,binOp,heq]
   · rw [hv,hye]at heq;cases neg <;> simp [execOp,ho,hv,hye,eqGuard,binOp,heq]
 rw [←heq']at hrun;refine Wo hrun (by simp) ?_;rw [Oper.uponIn_value];have hrs:RS σ m (ρ++[D.bool b]) (.d ⟨if neg then T.notB (.var xs.nv)else .var xs.nv,.bool⟩) (.bool (if neg then !b else b))∧LOk (ρ++[D.bool b]) ⟨if neg then T.notB (.var xs.nv)else .var xs.nv,.bool⟩:=by
   cases neg with
   | false=>
     refine⟨.d ?_,kv⟩;simp only [Bool.false_eq_true,if_false,denL,hvd];exact .bool b
   | true=>
     refine⟨.d ?_,kv.notB⟩;have:den (ρ++[D.bool b]) (T.notB (.var xs.nv))=.bool (!b):=by
       show O1.eval .not (den (ρ++[D.bool b]) (.var xs.nv))=_;rw [hvd];rfl
     simp only [if_true,denL,this];exact .bool _
 refine hK _ _ ⟨ags,ρ++[D.bool b],_,σ,m,id,hh,?_,?_,?_⟩
 · simp only;rw [Zd];have:W0 (ρ++[D.bool b]) ⟨xs.st.tmps,xs.st.objs⟩=W0 ρ xs.st:=Jw hx.all _;rw [this];exact hf.put o.dst hrs.1
 · exact(hx.all.ext _).putT o.dst (.d hrs.2) (fun o ho=>(hx.all.objs o ho).ext _)
 · simp [hx.nv]
theorem Z5d {F:Option Nat→List RV→Prop} {Kd:Ags→List D→XExit→XS→Prop} {ags:Ags} {md:Mode} {xs:XS} {o:Oper} {g gr:Option T} {ops:Array Oper}
   (hf:Fits E σ m (W0 ρ xs.st) a w) (hx:XOk ρ xs) (hG:GOk ρ ops o a g gr) (h:denR E.P F Kd (Z35 E.P md g gr xs o) ags ρ):WJ E ops o a w (Res E Kd ags a o.dst):=by
 simp only [Z35]at h;split at h
 · rename_i c ho;split at h
   · rename_i fv hc;split at h
     · exact False.elim h
     refine ZfE ho hc hf hx hG ?_ ?_ h
     · intro f pk upd vs hgr hvs hfv hR;have hg:=hG.known (hG.nn hgr);obtain⟨fr1,fo1⟩:=Y5 hf hx.all hg fv;rw [hfv]at fr1 fo1;obtain⟨f',caps,arr,hden,hval,hasz,_⟩:=YQ fr1 (by cases fo1;assumption);have hff:f'=f∧caps=[]:=by simp [den]at hden;exact⟨hden.1.symm,hden.2⟩
       obtain⟨rfl,rfl⟩:=hff;have harr:arr= #[]:=Array.eq_empty_of_size_eq_zero (by simpa using hasz);subst harr;refine Z8B (vals:=c.args.toList.map a.eval) hf hx (hG.nn hgr) (by rw [hvs];simp) ?_ ?_ (fun hcl=>?_) hR
       · intro i c' v hc' hv;rw [hvs]at hc';simp only [List.getElem?_map,Option.map_eq_some_iff]at hc' hv;obtain⟨x,hx',rfl⟩:=hc';obtain⟨y,hy,rfl⟩:=hv;rw [hx']at hy;cases hy;exact(Y5 hf hx.all hg x).1
       · intro c' hc';rw [hvs]at hc';obtain⟨x,_,rfl⟩:=List.mem_map.1 hc';exact(Y5 hf hx.all hg x).2
       · have:=Z2L (P:=E.P) (w:=w) ho hc hval hcl;have he:(c.args.toList.map a.eval).toArray=c.args.map a.eval++ #[]:=by rw [Array.append_empty];apply Array.ext';simp
         rw [he];exact this
     · intro f q pk upd vs hgr hvs hfv hR;have hg:=hG.known (hG.nn hgr);obtain⟨fr1,fo1⟩:=Y5 hf hx.all hg fv;rw [hfv]at fr1 fo1;simp only [RS,SV.map]at fr1;generalize hval:a.eval fv=fval at fr1;cases fr1 with
       |bnd hσ=>
       rename_i b;refine Z8B (vals:=.pointer (some ⟨b,0,none⟩)::c.args.toList.map a.eval) hf hx (hG.nn hgr) (by rw [hvs];simp) ?_ ?_ (fun hcl=>?_) hR
       · intro i c' v hc' hv;cases i with
         |zero=>simp at hc' hv;subst hc' hv;simp only [RS,SV.map];exact .ptr hσ
         | succ i=>
           rw [hvs]at hc';simp only [List.getElem?_cons_succ,List.getElem?_map,Option.map_eq_some_iff]at hc' hv;obtain⟨x,hx',rfl⟩:=hc';obtain⟨y,hy,rfl⟩:=hv;rw [hx']at hy;cases hy;exact(Y5 hf hx.all hg x).1
       · intro c' hc';rcases List.mem_cons.1 hc' with rfl|hc'
         · exact .ptr
         rw [hvs]at hc';obtain⟨x,_,rfl⟩:=List.mem_map.1 hc';exact(Y5 hf hx.all hg x).2
       · have:=Z6d (P:=E.P) (w:=w) ho hc hval hcl;have he:(Value.pointer (some ⟨b,0,none⟩)::c.args.toList.map a.eval).toArray= #[.pointer (some ⟨b,0,none⟩)]++c.args.map a.eval++ #[]:=by rw [Array.append_empty];apply Array.ext';simp
         rw [he];exact this
   · exact ZE hf hx hG h
 · rename_i f first captured ho
   exact Z2D ho hf hx hG h
 · rename_i ho;exact Z1p (neg:=false) ho hf hx hG h fun h=>ZE hf hx hG h
 · rename_i ho;exact Z1p (neg:=true) ho hf hx hG h fun h=>ZE hf hx hG h
 · exact ZE hf hx hG h
theorem ZcF {P:Program} {o:Oper} {c:T} (hc:LOk ρ ⟨c,.bool⟩) (hf:den ρ c=.bool false):RS σ m ρ (Z5L P o c) undef∧SV.Ok ρ (Z5L P o c):=by
 have key:∀v:SV TK,SV.All (Stb ρ) v→RS σ m ρ (.grd ⟨c,.bool⟩ v) undef∧SV.Ok ρ (.grd ⟨c,.bool⟩ v):=fun v hv=>
   ⟨.grd (fun h=>by simp [denL,hf]at h) (fun _=>rfl),.grd hc hv (fun h=>by simp [hf]at h)⟩
 unfold Z5L;split <;> exact key _ (by first|exact .nil|exact .d (fun _=>rfl))
def ZcR (P:Program) (md:Mode):Prop:=∀f g,md.inl f=some g→∀(F:Option Nat→List RV→Prop) (Kd:Ags→List D→XExit→XS→Prop) (E:Env) (ags:Ags) (xs:XS) (ρ:List D) (σ:Names) (m:Mem) (a:Act) (w:World) (o:Oper) (vs:List (SV TK)) (vals:List Value),
 E.P=P→E.Y.on=false→E.Y.exp=[]→Good E ags→Fits E σ m (W0 ρ xs.st) a w→XOk ρ xs→vals.length=vs.length→(∀(i:Nat) c v,vs[i]? =some c→vals[i]? =some v→RS σ m ρ c v)→(∀c∈vs,SV.Ok ρ c)→denR P F Kd (g vs o xs) ags ρ→
   J2 P f=true∧Calls P f vals.toArray w fun e w'=>∃v,e=.returned v∧Res E Kd ags a o.dst v w'
def Z1z (E:Env) (md:Mode):Prop:=(∀f,md.inl f=none)∨(E.Y.on=false∧E.Y.exp=[]∧ZcR E.P md)
theorem Zhb {F:Option Nat→List RV→Prop} {Kd:Ags→List D→XExit→XS→Prop} {ags:Ags} {md:Mode} {xs:XS} {o:Oper} {r:R} {ops:Array Oper} (hI:Z1z E md) (hY:Good E ags)
   (hf:Fits E σ m (W0 ρ xs.st) a w) (hx:XOk ρ xs) (hr:inlR md xs o=some r) (h:denR E.P F Kd r ags ρ):WJ E ops o a w (Res E Kd ags a o.dst):=by
 have at_:=fun x=>Y5 hf hx.all (g:=none) (by simp) x
 have lk0:∀x,thaw xs.st.objs (Y4 none (look xs.st x))=thaw xs.st.objs (look xs.st x):=fun x=>rfl
 simp only [lk0]at at_;unfold inlR at hr;split at hr <;> try contradiction
 · rename_i c hgd ho;have hwant:∀a':Act,Region.wanted o (yielded ops a'.tmps)=true:=fun a'=>by simp [Region.wanted,hgd]
   split at hr <;> try contradiction
   rename_i fv hc;split at hr <;> try contradiction
   rename_i f vs hv;split at hr <;> try contradiction
   rename_i g hg;cases hr;obtain⟨hoff,hexp,hI⟩:E.Y.on=false∧E.Y.exp=[]∧ZcR E.P md:=by
     rcases hI with hn|hI
     · rw [hn]at hg;cases hg
     · exact hI
   have args:∀(i:Nat) c' v,(c.args.toList.map fun x=>thaw xs.st.objs (look xs.st x))[i]? =some c'→(c.args.toList.map a.eval)[i]? =some v→RS σ m ρ c' v:=fun i c' v h1 h2=>by
     simp only [List.getElem?_map,Option.map_eq_some_iff]at h1 h2;obtain⟨x,hx1,rfl⟩:=h1;obtain⟨y,hy,rfl⟩:=h2;rw [hx1]at hy;cases hy;exact(at_ x).1
   have argsK:∀c'∈c.args.toList.map fun x=>thaw xs.st.objs (look xs.st x),SV.Ok ρ c':=fun c' hc'=>by
     obtain⟨x,_,rfl⟩:=List.mem_map.1 hc';exact(at_ x).2
   have key:∃vals:List Value,vals.length=vs.length∧(∀(i:Nat) c v,vs[i]? =some c→vals[i]? =some v→RS σ m ρ c v)∧(∀c∈vs,SV.Ok ρ c)∧(J2 E.P f=true→(execOp a.eval o).run E.P w=.ok (.enter f vals.toArray) w):=by
     have hfv:=at_ fv;revert hfv;generalize hfs:thaw xs.st.objs (look xs.st fv)=fs at hv;intro hfv;unfold inlV at hv;split at hv <;> try contradiction
     · cases hv;obtain⟨f',caps,arr,hden,hval,hasz,_⟩:=YQ hfv.1 (by cases hfv.2;assumption);have hff:f'=f∧caps=[]:=by simp [den]at hden;exact⟨hden.1.symm,hden.2⟩
       obtain⟨rfl,rfl⟩:=hff;have harr:arr= #[]:=Array.eq_empty_of_size_eq_zero (by simpa using hasz);subst harr;refine⟨c.args.toList.map a.eval,by simp,args,argsK,fun hcl=>?_⟩;have:=Z2L (P:=E.P) (w:=w) ho hc hval hcl;have he:(c.args.toList.map a.eval).toArray=c.args.map a.eval++ #[]:=by rw [Array.append_empty];apply Array.ext';simp
       rw [he];exact this
     · rename_i caps;cases hv;have h1:=hfv.1;simp only [RS,SV.map,SV.mapL_eq]at h1;generalize hval:a.eval fv=fval at h1;cases h1 with
       |clo hsz hcv=>
       rename_i arr;simp only [List.length_map]at hsz;refine⟨c.args.toList.map a.eval++arr.toList,by simp [hsz],fun i c' v h1 h2=>?_,fun c' hc'=>?_,fun hcl=>?_⟩
       · rw [List.getElem?_append]at h1 h2;simp only [List.length_map]at h1 h2;split at h1
         · rename_i hlt;rw [if_pos hlt]at h2;exact args i c' v h1 h2
         · rename_i hlt;rw [if_neg hlt]at h2;exact hcv (i - c.args.toList.length) (c'.map (denL ρ)) v (by rw [List.getElem?_map,h1];rfl) (by simpa using h2)
       · rcases List.mem_append.1 hc' with hc'|hc'
         · exact argsK c' hc'
         · have:=hfv.2;cases this with
           |clo hh=>exact hh c' hc'
       · have:=Z2L (P:=E.P) (w:=w) ho hc hval hcl;have he:(c.args.toList.map a.eval++arr.toList).toArray=c.args.map a.eval++arr:=by apply Array.ext';simp
         rw [he];exact this
     · rename_i q;cases hv;have h1:=hfv.1;simp only [RS,SV.map]at h1;generalize hval:a.eval fv=fval at h1;cases h1 with
       |bnd hσ=>
       rename_i b;refine⟨.pointer (some ⟨b,0,none⟩)::c.args.toList.map a.eval,by simp,fun i c' v h1 h2=>?_,fun c' hc'=>?_,fun hcl=>?_⟩
       · cases i with
         |zero=>simp at h1 h2;subst h1 h2;simp only [RS,SV.map];exact .ptr hσ
         |succ i=>exact args i c' v (by simpa using h1) (by simpa using h2)
       · rcases List.mem_cons.1 hc' with rfl|hc'
         · exact .ptr
         · exact argsK c' hc'
       · have:=Z6d (P:=E.P) (w:=w) ho hc hval hcl;have he:(Value.pointer (some ⟨b,0,none⟩)::c.args.toList.map a.eval).toArray= #[.pointer (some ⟨b,0,none⟩)]++c.args.map a.eval++ #[]:=by rw [Array.append_empty];apply Array.ext';simp
         rw [he];exact this
   obtain⟨vals,hl,hrv,hkv,hrun0⟩:=key;obtain⟨hcl,hcall⟩:=hI f g hg F Kd E ags xs ρ σ m a w o vs vals rfl hoff hexp hY hf hx hl hrv hkv h;intro a' K Q hw heq hK;rw [if_pos (hwant a')];have hrun:=hrun0 hcl;rw [←heq]at hrun;refine Wo hrun (by simp) ?_;rw [Oper.uponIn_enter];refine⟨by simp [fen,Fence.wide],Z1w ?_⟩;refine hcall.mono ?_;rintro e w' ⟨v,rfl,hres⟩;exact hK v w' hres
 · rename_i f first captured hgd ho
   have hwant:∀a':Act,Region.wanted o (yielded ops a'.tmps)=true:=fun a'=>by simp [Region.wanted,hgd]
   split at hr <;> try contradiction
   rename_i hcond;simp only [Bool.and_eq_true]at hcond;cases hr;simp only [denR]at h;have hfirst:first= #[]:=by simpa using hcond.2
   subst hfirst;intro a' K Q hw heq hK;rw [if_pos (hwant a')];have hrun:(execOp a.eval o).run E.P w=.ok (.value (.func (.func f) #[] (captured.map a.eval))) w:=by
     simp [execOp,ho,Instr.makeFunc]
   rw [←heq]at hrun;refine Wo hrun (by simp) ?_;rw [Oper.uponIn_value];refine hK _ _ ⟨ags,ρ,_,σ,m,id,h,?_,?_,hx.nv⟩
   · simp only;rw [Zd];refine hf.put o.dst ?_;simp only [RS,SV.map,SV.mapL_eq];refine .clo (by simp) fun i c' v h1 h2=>?_
     simp only [List.getElem?_map,Array.getElem?_map,Option.map_eq_some_iff]at h1 h2;obtain⟨s,⟨x,hx1,rfl⟩,rfl⟩:=h1;obtain⟨y,hy,rfl⟩:=h2;have:captured[i]? =some x:=by simpa using hx1
     rw [this]at hy;cases hy;exact(at_ x).1
   · refine hx.all.putT o.dst (.clo fun c' hc'=>?_) hx.all.objs;obtain⟨x,_,rfl⟩:=List.mem_map.1 hc';exact(at_ x).2
theorem Za0 {F:Option Nat→List RV→Prop} {Kd:Ags→List D→XExit→XS→Prop} {ags:Ags} {md:Mode} {xs:XS} {o:Oper} {ops:Array Oper}
   (hI:Z1z E md) (hY:Good E ags) (hf:Fits E σ m (W0 ρ xs.st) a w) (hx:XOk ρ xs) (h:denR E.P F Kd (Z61 E.P md ops.toList xs o) ags ρ):WJ E ops o a w (Res E Kd ags a o.dst):=by
 simp only [Z61]at h;split at h
 · rename_i r hr;exact Zhb hI hY hf hx hr h
 split at h
 · simp [denR]at h
 rename_i g hg;have hG:=GOk.of hf hx.all hg;split at h
 · exact Z5d hf hx hG h
 · rename_i c;split at h
   · simp only [denR]at h;obtain⟨hL,hw⟩:=hG.ss c rfl;cases hb:Region.wanted o (yielded ops a.tmps)with
     | true=>
       rw [hb]at hw;exact Z5d (g:=some c) (gr:=none) hf hx ⟨fun _=>hb,by simp,fun _ c' hc'=>by cases hc';exact hw,by simp⟩ (h.1 hw)
     | false=>
       rw [hb]at hw;intro a' K Q hw' heq hK;rw [hw',hb];simp only [Bool.false_eq_true,if_false];obtain⟨d1,d2⟩:=ZcF (σ:=σ) (m:=m) (P:=E.P) (o:=o) hL hw;refine hK undef w ⟨ags,ρ,_,σ,m,id,h.2 hw,?_,?_,hx.nv⟩
       · simp only [ZcW];rw [Zd];exact hf.put o.dst d1
       · exact hx.all.putT o.dst d2 hx.all.objs
   · exact Z5d hf hx hG h
def Ends (E:Env) (Kd:Ags→List D→XExit→XS→Prop) (e:XExit) (a:Act) (w:World):Prop:=
 ∃B ags ρ xs σ m,E.To B∧Good (E.re B) ags∧Kd ags ρ e xs∧Fits (E.re B) σ m (W0 ρ xs.st) a w∧XOk ρ xs
theorem Env.to_self (E:Env):E.To E.toBase:=⟨fun _=>rfl,Nat.le_refl _,rfl,rfl,rfl,Nat.le_refl _,Mem.le_refl _,fun _ _ h=>h,fun _ h=>h,fun _ _ _ _=>⟨rfl,rfl⟩⟩
theorem Ends.here {Kd:Ags→List D→XExit→XS→Prop} {e:XExit} {ags:Ags} {xs:XS} (hY:Good E ags) (hf:Fits E σ m (W0 ρ xs.st) a w) (hx:XOk ρ xs) (h:Kd ags ρ e xs):Ends E Kd e a w:=
 ⟨E.toBase,ags,ρ,xs,σ,m,E.to_self,hY,h,hf,hx⟩
theorem Env.To.trans {B B':Base} (h:E.To B) (h':(E.re B).To B'):E.To B' where
 off:=fun hy=>by
   have h1:=h.off hy;have h2:=h'.off hy;rw [h2];exact h1
 size:=Nat.le_trans h.size h'.size
 os:=h'.os.trans h.os
 tape:=h'.tape.trans h.tape
 output:=h'.output.trans h.output
 drawn:=Nat.le_trans h.drawn h'.drawn
 le:=Mem.le_trans h.le h'.le
 mine:=fun b hb hm=>h.mine b hb (h'.mine b (Nat.lt_of_lt_of_le hb h.size) hm)
 own:=fun b ho=>h'.own b (h.own b ho)
 keep:=fun b hb ho hm=>by
   obtain⟨k1,k2⟩:=h.keep b hb ho hm;obtain⟨k3,k4⟩:=h'.keep b (Nat.lt_of_lt_of_le hb h.size) (h.own b ho) (fun hm'=>hm (h.mine b hb hm'));exact⟨k3.trans k1,k4.trans k2⟩
theorem Ends.re {Kd:Ags→List D→XExit→XS→Prop} {e:XExit} {B:Base} (hB:E.To B) (h:Ends (E.re B) Kd e a w):Ends E Kd e a w:=by
 obtain⟨B',ags,ρ,xs,σ,m,h1,h2,h3⟩:=h;exact⟨B',ags,ρ,xs,σ,m,hB.trans h1,h2,h3⟩
def Z1b (E:Env) (w:World) (b:Nat):Prop:=E.own b∨(E.w0.heap.size≤b∧b < w.heap.size)
def Z3v (E:Env) (w:World) (b:Nat):Prop:=E.mine b∨(E.w0.heap.size≤b∧b < w.heap.size)
theorem Good.J {ags:Ags} {st:St D} (h:Good E ags) (hon:E.Y.on=true) (hf:Fits E σ m st a w):E.Y.J ags.cnt (Z1b E w) m w:=
 h.yok.step _ _ _ _ _ _ _ (h.j hon) (fun b hb hn=>hf.keep b hb (fun hm=>hn (h.sub b hm).1)) hf.grow hf.os hf.tape hf.output hf.drawn hf.le (fun b hb hn=>hf.old b hb (fun hm=>hn (h.sub b hm).1)) hf.mem (fun b=>Iff.rfl)
theorem Fits.rebase {st:St D} (hf:Fits E σ m st a w) (hsub:∀b,E.mine b→E.own b∧b < E.w0.heap.size) {m':Mem} {w':World} (hmem:MemOk m' w') (hle:m.le m') (hk:∀k,Z1b E w k→k < w.heap.size→w'.heap[k]? =w.heap[k]?∧m' k=m k):
   Fits (E.re ⟨w',m',Z3v E w,Z1b E w⟩) σ m' st a w':=by
 have own:∀b,b < w.heap.size→(E.w0.heap.size≤b∨E.mine b)→Z3v E w b:=fun b hb h=>h.elim (fun h=>.inr ⟨h,hb⟩) .inl
 have own2:∀b,Z3v E w b→Z1b E w b:=fun b h=>h.elim (fun h=>.inl (hsub b h).1) .inr
 exact { sz:=hf.sz
         tm:=fun i s v a b=>(hf.tm i s v a b).mono (Names.le_refl σ) hle
         dfr:=by
           obtain⟨Ds,h1,h2,h3⟩:=hf.dfr;refine⟨Ds,h1,h2,fun D hD=>?_⟩;obtain⟨g1,g2,g3⟩:=h3 D hD;have hlt:=(Array.getElem?_eq_some_iff.1 g1).1;have ho:=own D hlt g3;obtain⟨k1,k2⟩:=hk D (own2 D ho) hlt;exact⟨by rw [k1];exact g1,by rw [k2];exact g2,.inr ho⟩
         yld:=hf.yld,sav:=hf.sav,mem:=hmem,le:=Mem.le_refl _
         objs:=fun o ov ho=>((hf.objs o ov ho).mono (Names.le_refl σ) hle).keep fun b ha hb=>by
           have hlt:=(hf.objs o ov ho).lt ha hb;exact(hk b (own2 b (own b hlt (hf.sep o ov b ho ha hb).2)) hlt).1
         sep:=fun o ov b ho ha hb=>by
           have hlt:=(hf.objs o ov ho).lt ha hb;have hs:=hf.sep o ov b ho ha hb;have ho':=own b hlt hs.2;exact⟨by rw [(hk b (own2 b ho') hlt).2];exact hs.1,.inr ho'⟩
         inj:=hf.inj,dom:=hf.dom,grow:=Nat.le_refl _,keep:=fun _ _ _=>rfl,old:=fun _ _ _=>rfl,os:=rfl,tape:=rfl,output:=rfl,drawn:=Nat.le_refl _}
theorem Good.behind {ags:Ags} {st:St D} (h:Good E ags) (hf:Fits E σ m st a w) (hon:E.Y.on=true) {m':Mem} {w':World} {c:Option Nat} (hJ:E.Y.J c (Z1b E w) m' w') (hle:m.le m') (hs:w.heap.size≤w'.heap.size) (hos:w'.os=w.os) (htape:w'.tape=w.tape) (hout:w'.output=w.output) (hdr:w.drawn≤w'.drawn)
   (hk:∀k,Z1b E w k→k < w.heap.size→w'.heap[k]? =w.heap[k]?∧m' k=m k):E.To ⟨w',m',Z3v E w,Z1b E w⟩∧Good (E.re ⟨w',m',Z3v E w,Z1b E w⟩) (ags.wc c):=by
 refine⟨⟨fun hoff=>(by rw [hon]at hoff;cases hoff),Nat.le_trans hf.grow hs,hos.trans hf.os,htape.trans hf.tape,hout.trans hf.output,Nat.le_trans hf.drawn hdr,Mem.le_trans hf.le hle,fun b hb hm=>?_,fun b ho=>.inl ho,fun b hb ho hm=>?_⟩,h.yok,fun _=>hJ,h.exp,fun b hm=>?_,h.lim⟩
 · exact hm.resolve_right (fun h=>by omega)
 · have hlt:=Nat.lt_of_lt_of_le hb hf.grow;obtain⟨k1,k2⟩:=hk b (.inl ho) hlt;exact⟨k1.trans (hf.keep b hb hm),k2.trans (hf.old b hb hm)⟩
 · rcases hm with hm|hm
   · obtain⟨g1,g2⟩:=h.sub b hm;exact⟨.inl g1,Nat.lt_of_lt_of_le g2 (Nat.le_trans hf.grow hs)⟩
   · exact⟨.inr hm,Nat.lt_of_lt_of_le hm.2 hs⟩
theorem Z8E {P:Program} {r:Option Nat} {l:Nat} {vs:Array Value} {W:World} {R:Ending→World→Prop} (h:YieldAt Fence.wide 0 P l vs W R):YieldAt (fen r) 0 P l vs W R:=by
 cases r with
 |none=>exact h
 |some l=>exact h
theorem ZbK {F:Option Nat→List RV→Prop} {Kd:Ags→List D→XExit→XS→Prop} {ags:Ags} {xs:XS} {o:Oper} {r:R} {ops:Array Oper} (hon:E.Y.on=false→E.Y.exp=[]) (hY:Good E ags)
   (hf:Fits E σ m (W0 ρ xs.st) a w) (hx:XOk ρ xs) (hr:Z84 xs o=some r) (h:denR E.P F Kd r ags ρ) {K:Act→World→Prop} {Q:Exit→Act→World→Prop}
   (hK:∀B ags' ρ' xs' σ' m' a' w',E.To B→Good (E.re B) ags'→Kd ags' ρ' .norm xs'→Fits (E.re B) σ' m' (W0 ρ' xs'.st) a' w'→XOk ρ' xs'→K a' w'):
   Region.wanted o (yielded ops a.tmps)=true∧o.wpIn (fen E.r) 0 E.P a w K Q:=by
 simp only [Z84]at hr;split at hr <;> try contradiction
 rename_i c ho;split at hr <;> try contradiction
 rename_i fv hc;simp only [Z9S]at hr;split at hr <;> try contradiction
 rename_i q hgd hq;split at hr <;> try contradiction
 rename_i hob;split at hr <;> try contradiction
 rename_i ts objs hfr;cases hr;refine⟨by simp [Region.wanted,hgd],?_⟩;simp only [denR]at h;obtain⟨n,hcnt,hexp,hb⟩:=h;have lk0:∀x,thaw xs.st.objs (look xs.st x)=thaw xs.st.objs (Y4 none (look xs.st x)):=fun x=>rfl
 have hfvv:=Y5 hf hx.all (g:=none) (by simp) fv;rw [←lk0,hq]at hfvv;have hval:a.eval fv=.func (.yield E.Y.l) #[] #[]:=by
   have h1:=hfvv.1;simp only [RS,SV.map]at h1;generalize hev:a.eval fv=ev at h1;cases h1 with
   |own hσ=>
   have:=hf.yld q (by simp [W0,St.map,hob,OV.map]);rw [hσ]at this;cases this;rfl
 obtain⟨m1,f1,l1,k1,r1⟩:=Z7Z (args:=c.args.toList) (gr:=none) (sc:=true) hf hx.all (g:=none) (by simp) hfr;have hon':E.Y.on=true:=by
   cases hoff:E.Y.on with
   |true=>rfl
   | false=>
     have:=hon hoff;rw [hY.exp,this]at hexp;simp at hexp
 have hJ:=hY.J hon' f1.fits;rw [hcnt]at hJ;have hyat:=hY.yok.yield n (ts.map (denL ρ)) _ _ _ (c.args.map a.eval) hJ f1.fits.mem (by rw [←hY.exp,hexp,List.map_map];rfl) (by simp at l1;simp [l1]) (by
   intro i d v hd hv;simp only [List.getElem?_map,Option.map_eq_some_iff]at hd;obtain⟨x,hx',rfl⟩:=hd;exact r1 i x v hx' (by simpa using hv))
 obtain⟨fn,tmps,assign,body,hrun,hround⟩:=Z8E (r:=E.r) hyat;have hexec:(execOp a.eval o).run E.P w=.ok (.round E.Y.l fn tmps assign body) w:=by
   simp [execOp,ho,resolve,hc,hval,Deferred.ofValue,invoke,hrun]
 refine Wo hexec (by simp) ?_;rw [Oper.uponIn_round];refine⟨by simp [fen,Fence.wide],RoundIn.mono hround ?_⟩;rintro e W' ⟨b,m',rfl,hJ',hmem',hle',hkeep',hgrow',hos',htape',hout',hdr'⟩;simp only;have hf2:=f1.fits.rebase hY.sub hmem' hle' hkeep';obtain⟨hTo,hGood⟩:=hY.behind f1.fits hon' hJ' hle' hgrow' hos' htape' hout' hdr' hkeep';have hok2:St.Ok ρ ⟨xs.st.tmps,objs⟩:=⟨hx.all.tmps,f1.ok⟩
 have hf3:Fits (E.re ⟨W',m',Z3v E w,Z1b E w⟩) σ m' (W0 (ρ++[.bool b]) ⟨xs.st.tmps,objs⟩) a W':=by rw [Jw hok2];exact hf2
 have hvar:(ρ++[D.bool b])[xs.nv]? =some (.bool b):=by rw [←hx.nv];simp
 have hrs:RS σ m' (ρ++[.bool b]) (.d ⟨.var xs.nv,.bool⟩) (.bool b):=.d (by rw [Zx hvar];exact .bool b);refine hK ⟨W',m',Z3v E w,Z1b E w⟩ (ags.wc (if b=true then some (n+1)else none)) _ _ σ m' _ _ hTo hGood (hb b fun hbt=>by subst hbt;exact hY.lim _ _ _ _ hJ') ?_ ⟨?_,?_⟩
 · simp only;rw [Zd];exact hf3.put o.dst hrs
 · exact St.Ok.putT (st:=⟨xs.st.tmps,objs⟩) ⟨fun v hv=>(hx.all.tmps v hv).ext _,fun ob ho=>(f1.ok ob ho).ext _⟩ o.dst (.d (.var hvar (.mk_bool b))) (fun ob ho=>(f1.ok ob ho).ext _)
 · simp [hx.nv]
theorem Z8m {F:Option Nat→List RV→Prop} {Kd:Ags→List D→XExit→XS→Prop} {md:Mode} {ops:Array Oper} {Q:Exit→Act→World→Prop}:
   ∀ (l:List Nat) {E:Env} {ags:Ags} {xs:XS} {ρ:List D} {σ:Names} {m:Mem} {a:Act} {w:World},Z1z E md→(E.Y.on=false→E.Y.exp=[])→(∀a w,Ends E Kd .norm a w→Q .normal a w)→Good E ags→Fits E σ m (W0 ρ xs.st) a w→XOk ρ xs→
     denR E.P F Kd (Z9T E.P md ops.toList l xs) ags ρ→wpOpsIn (fen E.r) 0 E.P ops Q l a w
 | [],E,ags,xs,ρ,σ,m,a,w,hI,hon,hQ,hY,hf,hx,h=>hQ a w (.here hY hf hx h)
 | i ::l,E,ags,xs,ρ,σ,m,a,w,hI,hon,hQ,hY,hf,hx,h=>by
   simp only [Z9T]at h;rw [wpOpsIn_cons];unfold wpOpIn;have hop:ops.toList[i]? =ops[i]?:=by simp
   rw [hop]at h;cases ho:ops[i]? with
   | none=>
     simp only [ho]at h;exact Z8m l hI hon hQ hY hf hx h
   | some o=>
     simp only [ho]at h;rw [Wj]at h;simp only;cases hy:Z84 xs o with
     | some r=>
       rw [hy,Option.getD_some]at h;have:=ZbK (ops:=ops) hon hY hf hx hy h (K:=wpOpsIn (fen E.r) 0 E.P ops Q l) (Q:=Q) (fun B ags' ρ' xs' σ' m' a' w' hB h1 h2 h3 h4=>by
         exact Z8m l (E:=E.re B) hI hon (fun a w he=>hQ a w (he.re hB)) h1 h3 h4 h2)
       rw [if_pos this.1];exact this.2
     | none=>
       rw [hy,Option.getD_none]at h;have hs:=Za0 hI hY hf hx h a (wpOpsIn (fen E.r) 0 E.P ops Q l) Q rfl rfl (fun v w' ⟨ags',ρ',xs',σ',m',h0,h1,h2,h3⟩=>Z8m l hI hon hQ (h0 hY) h2 h3 h1);split
       · rename_i hw;rw [if_pos hw]at hs;exact hs
       · rename_i hw;rw [if_neg hw]at hs;exact⟨fun _ _=>trivial,hs⟩
end
theorem Z5z:∀ {l:List Nat} {x:Nat},x∈nub l↔x∈l
 | [],_=>by simp [nub]
 | y ::l,x=>by
   simp only [nub];split
   · rename_i h;have h':y∈nub l:=by simpa using h
     rw [Z5z];rw [Z5z]at h';constructor
     · intro hx;exact List.mem_cons_of_mem _ hx
     · intro hx;rcases List.mem_cons.1 hx with rfl|hx
       · exact h'
       · exact hx
   · simp only [List.mem_cons,Z5z]
theorem Z8q {ops:Array Oper} {i k:Nat}:k∈deps ops.toList i↔∃o,ops[i]? =some o∧∃e∈o.after,Region.binds .any e=true∧e.on=k:=by
 unfold deps;cases h:ops[i]? with
 |none=>simp [h]
 |some o=>simp [h,List.mem_filter,and_assoc]
theorem Z0T {ops:Array Oper} {p:Nat→Prop} (hcl:∀j,p j→∀k∈deps ops.toList j,p k):∀(n:Nat) {l:List Nat},(∀j∈l,p j)→∀j∈ancs ops.toList n l,p j
 |0,l,h=>h
 |n+1,[],h=>by simp [ancs]
 | n +1,x::l,h=>by
   intro j hj;simp only [ancs]at hj;rcases List.mem_append.1 hj with hj|hj
   · exact h j hj
   · refine Z0T hcl n (fun k hk=>?_) j hj;rw [Z5z,List.mem_flatMap]at hk;obtain⟨y,hy,hk⟩:=hk;exact hcl y (h y hy) k hk
section
variable {E:Env}
structure DInv (E:Env) (F:Option Nat→List RV→Prop) (Kd:Ags→List D→XExit→XS→Prop) (ags:Ags) (md:Mode) (ops:Array Oper) (rest pre forced:List Nat) (xs:XS) (ρ:List D) (σ:Names) (m:Mem)
   (listed:Array Bool) (a b:Act) (w:World):Prop where
 fits:Fits E σ m (W0 ρ xs.st) b w
 xok:XOk ρ xs
 says:∃n,denR E.P F Kd (Yo E.P md ops.toList n [] rest pre forced xs) ags ρ
 size:listed.size=ops.size
 sub:∀j,listed.getD j false=true→j∈pre
 fin:∀j∈pre,j < ops.size
 forced:∀j∈forced,listed.getD j false=true
 closed:∀j,listed.getD j false=true→∀k∈deps ops.toList j,listed.getD k false=true
 topo:∀p1 j p2,pre=p1++j::p2→∀k∈deps ops.toList j,k∈p2
 tsize:a.tmps.size=b.tmps.size
 agree:∀t,(∀j∈pre,listed.getD j false=false→(ops[j]?).bind (·.dst)≠some t)→a.tmps[t]? =b.tmps[t]?
 adfr:a.defers=b.defers
theorem Act.put_tmps (a:Act) (dst:Option Tmp) (v:Value):(a.put dst v).tmps=match dst with|some d=>a.tmps.setIfInBounds d v|none=>a.tmps:=by
 cases dst <;> rfl
theorem Act.put_dfr (a:Act) (dst:Option Tmp) (v:Value):(a.put dst v).defers=a.defers:=by
 cases dst <;> rfl
theorem Z6k {a b:Act} {dst:Option Tmp} {v:Value} {t:Nat} (hs:a.tmps.size=b.tmps.size) (h:dst≠some t→a.tmps[t]? =b.tmps[t]?):(a.put dst v).tmps[t]? =(b.put dst v).tmps[t]?:=by
 cases dst with
 |none=>exact h (by simp)
 | some d=>
   simp only [Act.put,Array.getElem?_setIfInBounds,hs];by_cases hd:d=t
   · simp [hd]
   · simp only [if_neg hd];exact h (by simp [hd])
theorem Z68 {ops:Array Oper} {o:Oper} {a b:Act} (hsel:∀cs bl,o.op≠.select cs bl) (h:∀t∈Oper.looksAt ops o,a.tmps[t]? =b.tmps[t]?):
   execOp a.eval o=execOp b.eval o∧Region.wanted o (yielded ops a.tmps)=Region.wanted o (yielded ops b.tmps):=by
 constructor
 · refine execOp_congr o hsel fun x hx=>?_
   cases x with
   | tmp t=>
     have:=h t (by
       unfold Oper.looksAt;refine List.mem_append_left _ (List.mem_filterMap.2 ⟨.tmp t,by simpa using hx,rfl⟩))
     simp only [Act.eval,Array.getD_eq_getD_getElem?,this]
   |_=>rfl
 · unfold Region.wanted;cases hg:o.guard with
   |none=>rfl
   | some p=>
     obtain⟨j,want⟩:=p;simp only;have:yielded ops a.tmps j=yielded ops b.tmps j:=by
       unfold yielded;cases hd:(ops[j]?).bind (·.dst)with
       |none=>rfl
       | some d=>
         have:=h d (by
           unfold Oper.looksAt;refine List.mem_append_right _ ?_;simp [hg,hd])
         simp only [Option.bind_some,this]
     rw [this]
theorem Z0u {P:Program} {ops:List Oper} {xs:XS} {o:Oper} (h:acts P ops xs o=true):∀cs b,o.op≠.select cs b:=by
 intro cs b ho;simp [acts,Z1n,ho]at h
theorem DInv.advance {F:Option Nat→List RV→Prop} {Kd:Ags→List D→XExit→XS→Prop} {ags:Ags} {md:Mode} {ops:Array Oper} {forced:List Nat} {ρ:List D} {σ:Names} {m:Mem} {listed:Array Bool} {a:Act} {w:World}:
   ∀ {rest pre:List Nat} {xs:XS} {b:Act},DInv E F Kd ags md ops rest pre forced xs ρ σ m listed a b w→
     ∃rest' pre' xs' b',DInv E F Kd ags md ops rest' pre' forced xs' ρ σ m listed a b' w∧(rest'=[]∨∃k l o,rest'=k::l∧ops[k]? =some o∧acts E.P ops.toList xs' o=true)
 | [],pre,xs,b,h=>⟨[],pre,xs,b,h,.inl rfl⟩
 | i ::is,pre,xs,b,h=>by
   obtain⟨n,hs⟩:=h.says;cases n with
   |zero=>simp [Yo,denR]at hs
   |succ n=>
   simp only [Yo]at hs;split at hs
   · simp [denR]at hs
   rename_i o ho;have ho:ops[i]? =some o:=by simpa using ho
   split at hs
   · simp [denR]at hs
   rename_i hc;simp only [Bool.or_eq_true,not_or,Bool.not_eq_true',Bool.not_eq_false,Bool.not_eq_true]at hc;obtain⟨hnot,hrd⟩:=hc;have hnot:i∉pre:=by simpa using hnot
   by_cases hact:acts E.P ops.toList xs o=true
   · exact⟨i::is,pre,xs,b,h,.inr ⟨i,is,o,rfl,ho,hact⟩⟩
   · rw [if_neg hact]at hs;split at hs
     · rename_i hp;rw [Wj]at hs;simp only [ZaO,Bool.and_eq_true]at hp;obtain⟨_,hp⟩:=hp;split at hp <;> try contradiction
       rename_i g hg;split at hp <;> try contradiction
       rename_i s hsx;have hno:s.objs=none:=by simpa using hp
       rw [hg]at hs;simp only at hs;have hG:=GOk.of h.fits h.xok.all hg;have key:∃v b' xs',b'=b.put o.dst v∧Fits E σ m (W0 ρ xs'.st) b' w∧XOk ρ xs'∧denR E.P F Kd (Yo E.P md ops.toList n [] is (i::pre) forced xs') ags ρ:=by
         simp only [ZZ,hsx]at hs;cases g with
         | none=>
           simp only [hno,Option.getD_none]at hs;rw [Zq,ZQ]at hs;obtain⟨hn,hc⟩:=hs;obtain⟨v,w',σ',m',hpo,hsame⟩:=(Z1O (ops:=ops) h.fits h.xok.all hG hsx (by simp)).1 rfl hn;obtain⟨rfl,rfl,rfl⟩:=hsame hno;have hf:=hpo.fits;have ha:=hpo.all;simp only [hno,Option.getD_none]at hf ha;exact⟨v,_,{xs with st:= {tmps:=putT xs.st.tmps o.dst s.v,objs:=xs.st.objs}},rfl,hf,⟨ha,h.xok.nv⟩,hc hpo.facts⟩
         | some c=>
           simp only at hs;split at hs
           · simp [denR]at hs
           rename_i hcond;simp only [Bool.or_eq_true,Bool.not_eq_true',not_or,Bool.not_eq_true,Bool.not_eq_false]at hcond;rw [Zq,ZQ]at hs;obtain⟨hn,hc⟩:=hs;obtain⟨v,hpo⟩:=(Z1O (ops:=ops) h.fits h.xok.all hG hsx (fun _=>by rw [h.xok.nv];exact hcond.2)).2 c rfl hno hn;exact⟨v,_,{xs with st:= {tmps:=putT xs.st.tmps o.dst (.grd ⟨c,.bool⟩ s.v),objs:=xs.st.objs}},rfl,hpo.fits,⟨hpo.all,h.xok.nv⟩,hc hpo.facts⟩
       obtain⟨v,b',xs',rfl,k1,k2,k3⟩:=key;have hnl:listed.getD i false=false:=by
         cases hl:listed.getD i false with
         |false=>rfl
         |true=>exact absurd (h.sub i hl) hnot
       refine DInv.advance (rest:=is) (pre:=i::pre) (xs:=xs') (b:=b.put o.dst v) ⟨k1,k2,⟨n,k3⟩,h.size,fun j hj=>List.mem_cons_of_mem _ (h.sub j hj),?_,h.forced,h.closed,?_,?_,?_,by rw [Act.put_dfr];exact h.adfr⟩
       · intro j hj;rcases List.mem_cons.1 hj with rfl|hj
         · exact(Array.getElem?_eq_some_iff.1 ho).1
         · exact h.fin j hj
       · intro p1 j p2 he k hk;cases p1 with
         | nil=>
           simp only [List.nil_append,List.cons.injEq]at he;obtain⟨rfl,rfl⟩:=he;have:=List.all_eq_true.1 hrd k hk;simpa using this
         | cons x p1=>
           simp only [List.cons_append,List.cons.injEq]at he;exact h.topo p1 j p2 he.2 k hk
       · rw [Act.put_tmps];split <;> simp [h.tsize]
       · intro t ht;rw [h.agree t fun j hj hl=>ht j (List.mem_cons_of_mem _ hj) hl];have hne:o.dst≠some t:=by
           have:=ht i List.mem_cons_self hnl;rw [ho]at this;exact this
         rw [Act.put_tmps];split
         · rename_i d hd;rw [hd]at hne;rw [Array.getElem?_setIfInBounds_ne (by intro e;exact hne (by rw [e]))]
         · rfl
     · simp [denR]at hs
end
theorem Z16 {ops:Array Oper} {listed:Array Bool} {j:Nat}:j∈Region.ready .any ops listed↔listed.getD j true=false∧j < ops.size∧∀k∈deps ops.toList j,listed.getD k false=true:=by
 rw [mem_ready];constructor
 · rintro⟨h1,o,ho,h2⟩;refine⟨h1,(Array.getElem?_eq_some_iff.1 ho).1,fun k hk=>?_⟩;obtain⟨o',ho',e,he,hb,rfl⟩:=Z8q.1 hk;rw [ho]at ho';cases ho';exact h2 e he hb
 · rintro⟨h1,hlt,h2⟩;exact⟨h1,ops[j],by simp [hlt],fun e he hb=>h2 _ (Z8q.2 ⟨ops[j],by simp [hlt],e,he,hb,rfl⟩)⟩
theorem Z4R {ops:List Oper} {p:Nat→Prop} [DecidablePred p]:∀ {pre:List Nat},(∀p1 j p2,pre=p1++j::p2→∀k∈deps ops j,k∈p2)→(∃j∈pre,¬p j)→∃j∈pre,¬p j∧∀k∈deps ops j,p k
 | [],_,h=>by simp at h
 | x ::pre,ht,h=>by
   by_cases hr:∃j∈pre,¬p j
   · obtain⟨j,hj,h1,h2⟩:=Z4R (p:=p) (pre:=pre) (fun p1 j p2 he=>ht (x::p1) j p2 (by rw [he];rfl)) hr;exact⟨j,List.mem_cons_of_mem _ hj,h1,h2⟩
   · obtain⟨j,hj,hnp⟩:=h;have hall:∀j∈pre,p j:=fun j hj=>Decidable.byContradiction fun hn=>hr ⟨j,hj,hn⟩
     rcases List.mem_cons.1 hj with rfl|hj
     · exact⟨j,List.mem_cons_self,hnp,fun k hk=>hall k (ht [] j pre rfl k hk)⟩
     · exact absurd (hall j hj) hnp
section
variable {E:Env} {F:Option Nat→List RV→Prop} {Kd:Ags→List D→XExit→XS→Prop} {ags:Ags} {md:Mode} {ops:Array Oper}
def ZbI (P:Program) (ops:Array Oper) (rest:List Nat) (xs:XS):Prop:=rest=[]∨∃k l o,rest=k::l∧ops[k]? =some o∧acts P ops.toList xs o=true
theorem DInv.done {rest pre forced:List Nat} {xs:XS} {ρ:List D} {σ:Names} {m:Mem} {listed:Array Bool} {a b:Act} {w:World}
   (h:DInv E F Kd ags md ops rest pre forced xs ρ σ m listed a b w) (hn:ZbI E.P ops rest xs) (hall:∀j,j < ops.size→listed.getD j false=true) (hY:Good E ags):Ends E Kd .norm a w:=by
 obtain⟨n,hs⟩:=h.says;cases n with
 |zero=>simp [Yo,denR]at hs
 |succ n=>
 have hab:a=b:=by
   have ht:a.tmps=b.tmps:=by
     apply Array.ext_getElem?;intro t;exact h.agree t fun j hj hl=>by rw [hall j (h.fin j hj)]at hl;cases hl
   cases a;cases b;have h1:=h.adfr;simp only at ht h1;rw [ht,h1]
 rcases hn with rfl|⟨k,l,o,rfl,ho,_⟩
 · simp only [Yo]at hs;split at hs
   · split at hs
     · rw [Zq]at hs;subst hab;exact .here hY h.fits h.xok hs.2
     · simp [denR]at hs
   · simp [denR]at hs
 · exfalso;have hk:k∈pre:=h.sub k (hall k (Array.getElem?_eq_some_iff.1 ho).1);simp only [Yo]at hs;have ho':ops.toList[k]? =some o:=by simpa using ho
   rw [ho']at hs;simp only at hs;rw [if_pos (by simp [hk])]at hs;simp [denR]at hs
theorem DInv.none_ready {rest pre forced:List Nat} {xs:XS} {ρ:List D} {σ:Names} {m:Mem} {listed:Array Bool} {a b:Act} {w:World}
   (h:DInv E F Kd ags md ops rest pre forced xs ρ σ m listed a b w) (hn:ZbI E.P ops rest xs) (hr:Region.ready .any ops listed=[]):∀j,j < ops.size→listed.getD j false=true:=by
 obtain⟨n,hs⟩:=h.says;cases n with
 |zero=>simp [Yo,denR]at hs
 |succ n=>
 have hpre:∀j∈pre,listed.getD j false=true:=by
   intro j hj;refine Decidable.byContradiction fun hnp=>?_
   obtain⟨i,hi,h1,h2⟩:=Z4R (p:=fun j=>listed.getD j false=true) h.topo ⟨j,hj,hnp⟩;have:i∈Region.ready .any ops listed:=Z16.2 ⟨getD_in (by rw [h.size];exact h.fin i hi) (by simpa using h1),h.fin i hi,h2⟩;rw [hr]at this;cases this
 rcases hn with rfl|⟨k,l,o,rfl,ho,_⟩
 · simp only [Yo]at hs;split at hs
   · rename_i hc;intro j hj;have:=List.all_eq_true.1 hc j (List.mem_range.2 (by simpa using hj));exact hpre j (by simpa using this)
   · simp [denR]at hs
 · exfalso;simp only [Yo]at hs;have ho':ops.toList[k]? =some o:=by simpa using ho
   rw [ho']at hs;simp only at hs;split at hs
   · simp [denR]at hs
   rename_i hc;simp only [Bool.or_eq_true,not_or,Bool.not_eq_true',Bool.not_eq_false,Bool.not_eq_true]at hc;have hnot:k∉pre:=by simpa using hc.1
   have hlt:=(Array.getElem?_eq_some_iff.1 ho).1;have:k∈Region.ready .any ops listed:=Z16.2 ⟨getD_in (by rw [h.size];exact hlt) (by
     cases hl:listed.getD k false with
     |false=>rfl
     | true=>exact absurd (h.sub k hl) hnot),hlt,fun q hq=>hpre q (by
       have:=List.all_eq_true.1 hc.2 q hq;simpa using this)⟩
   rw [hr]at this;cases this
theorem Z00 {P:Program} {ops:List Oper} {pre:List Nat} {xs:XS} {forced:List Nat}:∀ {l:List Nat} {ns:List T},JT P ops pre xs forced l=some ns→∀j∈l,j∉forced→
   ∃ms,Z7k P ops pre xs j=some ms∧∀t∈ms,t∈ns
 | [],_,_,j,hj,_=>by cases hj
 | x ::l,ns,h,j,hj,hnf=>by
   simp only [JT]at h;split at h
   · rename_i hx;rcases List.mem_cons.1 hj with rfl|hj
     · exact absurd (by simpa using hx) hnf
     · exact Z00 h j hj hnf
   · split at h <;> try contradiction
     rename_i p q hp hq;cases h;rcases List.mem_cons.1 hj with rfl|hj
     · exact⟨p,hp,fun t ht=>List.mem_append_left _ ht⟩
     · obtain⟨ms,h1,h2⟩:=Z00 hq j hj hnf;exact⟨ms,h1,fun t ht=>List.mem_append_right _ (h2 t ht)⟩
theorem DInv.reads {rest pre forced:List Nat} {xs:XS} {ρ:List D} {σ:Names} {m:Mem} {listed:Array Bool} {a b:Act} {w:World}
   (h:DInv E F Kd ags md ops rest pre forced xs ρ σ m listed a b w) {i:Nat} {o:Oper} (hr:∀k∈deps ops.toList i,listed.getD k false=true) (hok:Z5n ops.toList pre i o=true):
   ∀t∈Oper.looksAt ops o,a.tmps[t]? =b.tmps[t]?:=by
 intro t ht;refine h.agree t fun j hj hl hd=>?_
 have:=List.all_eq_true.1 hok j hj;simp only [Bool.or_eq_true]at this;rcases this with hin|hin
 · have hanc:=Z0T (ops:=ops) (p:=fun j=>listed.getD j false=true) h.closed ops.toList.length hr j (by simpa using hin);rw [hl]at hanc;cases hanc
 · have hd':(ops.toList[j]?).bind (·.dst)=some t:=by simpa using hd
   rw [hd']at hin;simp only [Array.toArray_toList]at hin;simp [ht]at hin
theorem Z3I {pre forced:List Nat} {σ:Names} {m:Mem} {b:Act} {w:World} {i:Nat} (hi:i < ops.size) (hip:i∉pre) (hrd:Z3h ops.toList pre i=true):∀(n:Nat) {ex:List Nat} {k:Nat} {l:List Nat} {xs:XS} {ρ:List D},
   Fits E σ m (W0 ρ xs.st) b w→XOk ρ xs→denR E.P F Kd (Yo E.P md ops.toList n ex (k::l) pre forced xs) ags ρ→(∃o,ops[k]? =some o∧acts E.P ops.toList xs o=true)→(i=k∨i∉ex)→
   ∃ n' l' xs' ρ' o,ops[i]? =some o∧acts E.P ops.toList xs' o=true∧Fits E σ m (W0 ρ' xs'.st) b w∧XOk ρ' xs'∧Z5n ops.toList pre i o=true∧
     denR E.P F Kd ((Z61 E.P md ops.toList xs' o).bind fun e xs''=>match e with
       | .norm=>Yo E.P md ops.toList n' [] l' (i::pre) (i::(ancs ops.toList ops.toList.length (deps ops.toList i)++forced)) xs''
       |e=>.leaf e xs'') ags ρ'
 |0,_,_,_,_,_,_,_,hs,_,_=>by simp [Yo,denR]at hs
 | n + 1,ex,k,l,xs,ρ,hf,hx,hs,⟨o,hok,hact⟩,hex=>by
   have hok':ops.toList[k]? =some o:=by simpa using hok
   simp only [Yo,hok']at hs;split at hs
   · simp [denR]at hs
   rename_i hcc
   try rw [if_pos hact]at hs
   split at hs;rotate_left
   · simp [denR]at hs
   rw [Zq]at hs;obtain⟨_,hs⟩:=hs;split at hs
   · rename_i j hj;split at hs;rotate_left
     · simp [denR]at hs
     rename_i hja;have hjo:∃o',ops[j]? =some o'∧acts E.P ops.toList xs o'=true:=by
       unfold Zdd at hja;split at hja
       · rename_i o' ho';exact⟨o',by simpa using ho',hja⟩
       · cases hja
     simp only [denR]at hs;have ext:∀bb:Bool,Fits E σ m (W0 (ρ++[.bool bb]) xs.st) b w∧XOk (ρ++[.bool bb]) {xs with nv:=xs.nv+1}∧den (ρ++[.bool bb]) (.var xs.nv)=.bool bb:=by
       intro bb;refine⟨by rw [Jw hx.all];exact hf,⟨hx.all.ext _,by simp [hx.nv]⟩,?_⟩;have hvar:(ρ++[D.bool bb])[xs.nv]? =some (.bool bb):=by rw [←hx.nv];simp
       simpa [denL]using Zx (k:=.bool) hvar
     by_cases hij:i=j
     · subst hij;obtain⟨e1,e2,e3⟩:=ext false;exact Z3I hi hip hrd n (xs:= {xs with nv:=xs.nv+1}) e1 e2 ((hs false (fun h=>by cases h)).2 e3) hjo (.inl rfl)
     · obtain⟨e1,e2,e3⟩:=ext true;refine Z3I hi hip hrd n (xs:= {xs with nv:=xs.nv+1}) e1 e2 ((hs true (fun _=>rfl)).1 e3) ⟨o,hok,hact⟩ ?_;rcases hex with h|h
       · exact .inl h
       · exact .inr (by simp [hij,h])
   · rename_i hnone;have hik:i=k:=by
       rcases hex with h|h
       · exact h
       · unfold ZcX at hnone;rw [List.find?_eq_none]at hnone;have:=hnone i (List.mem_range.2 (by simpa using hi));simp only [hrd,Bool.not_true,Bool.or_false,Bool.not_eq_true,Bool.not_eq_false',Bool.or_eq_true,List.contains_eq_mem,decide_eq_true_eq,beq_iff_eq]at this;rcases this with(h1|h1)|h1
         · exact absurd h1 hip
         · exact h1
         · exact absurd h1 h
     subst hik;split at hs;rotate_left
     · simp [denR]at hs
     rename_i hrk;exact⟨n,l,xs,ρ,o,hok,hact,hf,hx,hrk,hs⟩
theorem count_set {listed:Array Bool} {i:Nat} (hi:i < listed.size) (hl:listed.getD i false=false):(listed.setIfInBounds i true).toList.count true=listed.toList.count true+1:=by
 rw [Array.toList_setIfInBounds,List.count_set (by simpa using hi)];have:listed.toList[i]'(by simpa using hi)=false:=by simpa [hi]using hl
 rw [this];simp
theorem Z7N {Q:Exit→Act→World→Prop} (hI:Z1z E md) (hQ:∀a w,Ends E Kd .norm a w→Q .normal a w):∀(fuel:Nat) {ags:Ags} {rest pre forced:List Nat} {xs:XS} {ρ:List D} {σ:Names} {m:Mem} {listed:Array Bool} {a b:Act} {w:World},Good E ags→
   DInv E F Kd ags md ops rest pre forced xs ρ σ m listed a b w→ZbI E.P ops rest xs→fuel+listed.toList.count true=ops.size→wpAnyIn (fen E.r) 0 E.P .any ops Q fuel listed a w
 | 0,ags,rest,pre,forced,xs,ρ,σ,m,listed,a,b,w,hY,h,hn,hc=>by
   have hall:∀j,j < ops.size→listed.getD j false=true:=by
     intro j hj;have h1:listed.toList.count true=listed.toList.length:=by simp at hc ⊢;rw [h.size];omega
     have h2:=List.count_eq_length.1 h1;have hjs:j < listed.size:=by rw [h.size];exact hj
     have h3:=h2 listed[j] (by simp);simp [hjs, ←h3]
   refine⟨?_,hQ a w (h.done hn hall hY)⟩;cases hr:Region.ready .any ops listed with
   |nil=>rfl
   | cons x l=>
     have hx:x∈Region.ready .any ops listed:=by rw [hr];exact List.mem_cons_self
     obtain⟨h1,h2,_⟩:=Z16.1 hx;have:=hall x h2;rw [getD_both h1]at this;cases this
 | fuel + 1, ags,rest,pre,forced,xs,ρ,σ,m,listed,a,b,w,hY,h,hn,hc=>by
   refine⟨fun hr=>hQ a w (h.done hn (h.none_ready hn hr) hY),fun i hi=>?_⟩;obtain⟨h1,hlt,hdep⟩:=Z16.1 hi;have hl:listed.getD i false=false:=getD_both h1;have his:i < listed.size:=by rw [h.size];exact hlt
   have ho:ops[i]? =some ops[i]:=by simp [hlt]
   have ho':ops.toList[i]? =some ops[i]:=by simp [hlt]
   have hcount:fuel+(listed.setIfInBounds i true).toList.count true=ops.size:=by rw [count_set his hl];omega
   have hset:∀j,(listed.setIfInBounds i true).getD j false=true↔j=i∨listed.getD j false=true:=by
     intro j;by_cases hj:i=j
     · subst hj;simp [Array.getElem?_setIfInBounds,his]
     · rw [getD_set_ne false hj];constructor
       · exact .inr
       · rintro(rfl|h) <;> first|exact absurd rfl hj|exact h
   have hclosed:∀j,(listed.setIfInBounds i true).getD j false=true→∀k∈deps ops.toList j,(listed.setIfInBounds i true).getD k false=true:=by
     intro j hj k hk;rw [hset]at hj ⊢;rcases hj with rfl|hj
     · exact .inr (hdep k hk)
     · exact .inr (h.closed j hj k hk)
   have hsz:(listed.setIfInBounds i true).size=ops.size:=by simp [h.size]
   have hdsub:∀k∈deps ops.toList i,k∈pre:=fun k hk=>h.sub k (hdep k hk)
   have plain:i∈pre→(∃ns,JT E.P ops.toList pre xs forced pre=some ns∧∀t∈ns,den ρ t=.bool true)→wpOpIn (fen E.r) 0 E.P ops Q i (wpAnyIn (fen E.r) 0 E.P .any ops Q fuel (listed.setIfInBounds i true)) a w:=by
     rintro hip ⟨ns,hns,hnt⟩;have hnf:i∉forced:=fun hf=>by rw [h.forced i hf]at hl;cases hl
     obtain⟨ms,hm,hms⟩:=Z00 hns i hip hnf;simp only [Z7k,ho']at hm;split at hm
     · cases hm
     rename_i hc1;simp only [Bool.or_eq_true,Bool.not_eq_true',not_or,Bool.not_eq_true,Bool.not_eq_false]at hc1;obtain⟨hreads,hact⟩:=hc1;split at hm <;> try contradiction
     rename_i g hg;split at hm <;> try contradiction
     rename_i s hsx;split at hm <;> try contradiction
     rename_i hobj;have hno:s.objs=none:=by cases hso:s.objs with|none=>rfl|some _=>simp [hso]at hobj
     have hsel:∀cs bl,ops[i].op≠.select cs bl:=by
       intro cs bl he;simp [sxOp,he]at hsx
     obtain⟨heq,hwq⟩:=Z68 hsel (h.reads hdep hreads);have samev:∀ {sv:SV TK},Z5h xs ops[i] sv=true→putT xs.st.tmps ops[i].dst sv=xs.st.tmps:=by
       intro sv hsv;unfold Z5h at hsv;cases hd:ops[i].dst with
       |none=>rfl
       | some d=>
         rw [hd]at hsv;have:=SV.eq_of_beq hsv;simp only [putT];rcases Nat.lt_or_ge d xs.st.tmps.length with hlt'|hge
         · have:sv=xs.st.tmps[d]:=by rw [this];simp [List.getD,hlt']
           rw [this];exact List.set_getElem_self hlt'
         · exact List.set_eq_of_length_le hge
     have fin : ∀ {sv : SV TK} {fs:List T} {v:Value},PureOk E ρ σ m xs.st ops b w ops[i] sv xs.st.objs fs v w σ m→putT xs.st.tmps ops[i].dst sv=xs.st.tmps→wpOpIn (fen E.r) 0 E.P ops Q i (wpAnyIn (fen E.r) 0 E.P .any ops Q fuel (listed.setIfInBounds i true)) a w:=by
       intro sv fs v hp hput;have hf:=hp.fits;rw [hput]at hf
       have hD : DInv E F Kd ags md ops rest pre forced xs ρ σ m (listed.setIfInBounds i true) (a.put ops[i].dst v) (b.put ops[i].dst v) w:=
         ⟨hf,h.xok,h.says,hsz,fun j hj=>by rcases(hset j).1 hj with rfl|hj;exact hip;exact h.sub j hj,h.fin,fun j hj=>(hset j).2 (.inr (h.forced j hj)),hclosed,h.topo,
           by rw [Act.put_tmps,Act.put_tmps];split <;> simp [h.tsize],
           fun t ht=>Z6k h.tsize fun hd=>h.agree t fun j hj hlj hdj=>by
             by_cases hji:j=i
             · subst hji;rw [ho]at hdj;exact hd hdj
             · exact ht j hj (by
                 cases hx:(listed.setIfInBounds i true).getD j false with
                 |false=>rfl
                 | true => rcases(hset j).1 hx with rfl|hx'
                           · exact absurd rfl hji
                           · rw [hlj]at hx';cases hx') hdj,
           by rw [Act.put_dfr,Act.put_dfr];exact h.adfr⟩
       have hrec:=Z7N hI hQ fuel hY hD hn hcount;have hst:=hp.step (R:=fun v' w'=>v'=v∧w'=w) ⟨rfl,rfl⟩ a (wpAnyIn (fen E.r) 0 E.P .any ops Q fuel (listed.setIfInBounds i true)) Q hwq heq (by rintro v' w' ⟨rfl,rfl⟩;exact hrec);unfold wpOpIn;rw [ho];simp only;split
       · rename_i hw;rw [if_pos hw]at hst;exact hst
       · rename_i hw;rw [if_neg hw]at hst;exact⟨fun _ _=>trivial,hst⟩
     split at hm
     · split at hm <;> try contradiction
       rename_i hsame;cases hm;obtain⟨v,w',σ',m',hpo,hsm⟩:=(Z1O (ops:=ops) h.fits h.xok.all (GOk.of h.fits h.xok.all hg) hsx (by simp)).1 rfl (fun t ht=>hnt t (hms t ht));obtain⟨rfl,rfl,rfl⟩:=hsm hno;rw [hno,Option.getD_none]at hpo;exact fin hpo (samev hsame)
     · rename_i c;split at hm <;> try contradiction
       rename_i hsame;cases hm;simp only [Bool.and_eq_true]at hsame;obtain⟨v,hpo⟩:=(Z1O (ops:=ops) h.fits h.xok.all (GOk.of h.fits h.xok.all hg) hsx (fun _=>by rw [h.xok.nv];exact hsame.2)).2 c rfl hno (fun t ht=>hnt t (hms t ht));exact fin hpo (samev hsame.1)
   obtain⟨n,hs⟩:=h.says;rcases hn with rfl|⟨k,l,o,rfl,hok,hact⟩
   · cases n with
     |zero=>simp [Yo,denR]at hs
     |succ n=>
     simp only [Yo]at hs;split at hs
     · rename_i hall;have hip:i∈pre:=by
         have:=List.all_eq_true.1 hall i (List.mem_range.2 (by simpa using hlt));simpa using this
       split at hs
       · rename_i ns hns;rw [Zq]at hs;exact plain hip ⟨ns,hns,hs.1⟩
       · simp [denR]at hs
     · simp [denR]at hs
   · by_cases hip:i∈pre
     · cases n with
       |zero=>simp [Yo,denR]at hs
       |succ n=>
       have hok':ops.toList[k]? =some o:=by simpa using hok
       simp only [Yo,hok']at hs;split at hs
       · simp [denR]at hs
       try rw [if_pos hact]at hs
       split at hs
       · rename_i ns hns;rw [Zq]at hs;exact plain hip ⟨ns,hns,hs.1⟩
       · simp [denR]at hs
     · have hready:Z3h ops.toList pre i=true:=List.all_eq_true.2 fun k hk=>by simpa using hdsub k hk
       obtain⟨n',l',xs1,ρ1,o,hok,hact,hfits,hxok,hb2,hs⟩:=Z3I (E:=E) hlt hip hready n h.fits h.xok hs ⟨o,hok,hact⟩ (.inr (by simp));have hoo:ops[i]=o:=by rw [ho]at hok;cases hok;rfl
       have hnot:=hip;rw [Wj]at hs;have hsel:=Z0u hact;obtain⟨heq,hwq⟩:=Z68 (ops:=ops) hsel (h.reads hdep hb2)
       have hst := Za0 hI hY hfits hxok hs a (wpAnyIn (fen E.r) 0 E.P .any ops Q fuel (listed.setIfInBounds i true)) Q hwq heq (by
         rintro v w' ⟨ags',ρ',xs',σ',m',k0,k1,k2,k3⟩
         have hD :DInv E F Kd ags' md ops l' (i::pre) (i::(ancs ops.toList ops.toList.length (deps ops.toList i)++forced)) xs' ρ' σ' m' (listed.setIfInBounds i true) (a.put o.dst v) (b.put o.dst v) w':=
           ⟨k2,k3,⟨n',k1⟩,hsz,fun j hj=>by rcases(hset j).1 hj with rfl|hj;exact List.mem_cons_self;exact List.mem_cons_of_mem _ (h.sub j hj),
             fun j hj=>by rcases List.mem_cons.1 hj with rfl|hj;exact hlt;exact h.fin j hj,
             fun j hj=>by
               rcases List.mem_cons.1 hj with rfl|hj
               · exact(hset _).2 (.inl rfl)
               · rcases List.mem_append.1 hj with hj|hj
                 · exact(hset j).2 (.inr (Z0T (ops:=ops) (p:=fun j=>listed.getD j false=true) h.closed ops.toList.length hdep j hj))
                 · exact(hset j).2 (.inr (h.forced j hj)),
             hclosed,
             fun p1 j p2 he q hq=>by
               cases p1 with
               | nil=>
                 simp only [List.nil_append,List.cons.injEq]at he;obtain⟨rfl,rfl⟩:=he;exact hdsub q hq
               | cons x p1=>
                 simp only [List.cons_append,List.cons.injEq]at he;exact h.topo p1 j p2 he.2 q hq,
             by rw [Act.put_tmps,Act.put_tmps];split <;> simp [h.tsize],
             fun t ht=>Z6k h.tsize fun hd=>h.agree t fun j hj hlj hdj=>ht j (List.mem_cons_of_mem _ hj) (by
                 cases hx:(listed.setIfInBounds i true).getD j false with
                 |false=>rfl
                 | true => rcases(hset j).1 hx with rfl|hx'
                           · exact absurd hj hnot
                           · rw [hlj]at hx';cases hx') hdj,
             by rw [Act.put_dfr,Act.put_dfr];exact h.adfr⟩
         obtain⟨rest',pre',xs2,b',hD',hN⟩:=hD.advance;exact Z7N hI hQ fuel (k0 hY) hD' hN hcount)
       unfold wpOpIn;rw [ho,hoo];simp only;split
       · rename_i hw;rw [if_pos hw]at hst;exact hst
       · rename_i hw;rw [if_neg hw]at hst;exact⟨fun _ _=>trivial,hst⟩
end
section
variable {E:Env} {ρ:List D} {σ:Names} {ts:List (SV TK)} {a:Act} {w:World} {m:Mem}
theorem Z6R {f:SV TK→Option TK} (hF:∀ {v x val},f v=some x→RS σ m ρ v val→SV.Ok ρ v→LOk ρ x∧RepD m (denL ρ x) val):
   ∀ {vs:List (SV TK)} {vals:List Value} {xs},Z4N f vs=some xs→(∀(i:Nat) c v,vs[i]? =some c→vals[i]? =some v→RS σ m ρ c v)→vals.length=vs.length→(∀c∈vs,SV.Ok ρ c)→
     xs.length=vs.length∧(∀x∈xs,LOk ρ x)∧∀(i:Nat) x v,xs[i]? =some x→vals[i]? =some v→RepD m (denL ρ x) v:=by
 intro vs;induction vs with
 |nil=>intro vals xs h hr hl hk;simp [Z4N]at h;subst h;exact⟨rfl,by simp,by simp⟩
 | cons v vs ih=>
   intro vals xs h hr hl hk;cases vals with
   |nil=>simp at hl
   |cons u vals=>
   simp only [Z4N]at h;split at h <;> try contradiction
   rename_i x xs1 h1 h2;cases h;obtain⟨k1,r1⟩:=hF h1 (hr 0 _ _ rfl rfl) (hk _ List.mem_cons_self);obtain⟨l2,k2,r2⟩:=ih (vals:=vals) h2 (fun i c v hc hv=>hr (i+1) c v (by simpa using hc) (by simpa using hv)) (by simpa using hl) (fun c hc=>hk c (List.mem_cons_of_mem _ hc));refine⟨by simp [l2],?_,?_⟩
   · intro y hy;rcases List.mem_cons.1 hy with rfl|hy
     · exact k1
     · exact k2 y hy
   · intro i y v hy hv;cases i with
     |zero=>simp at hy hv;subst hy hv;exact r1
     |succ i=>exact r2 i y v (by simpa using hy) (by simpa using hv)
theorem ZaT:∀(n:Nat) {objs:List (OV TK)} {v:SV TK} {x:TK} {val:Value},Fits E σ m (W0 ρ ⟨ts,objs⟩) a w→(∀o∈objs,OV.Ok ρ o)→ice n objs v=some x→RS σ m ρ v val→SV.Ok ρ v→
   LOk ρ x∧RepD m (denL ρ x) val
 |0,_,_,_,_,_,_,h,_,_=>by simp [ice]at h
 | n + 1,objs,v,x,val,hf,hok,h,hr,hk=>by
   have objof:∀ {o:Nat} {ov:OV TK},objs[o]? =some ov→RepO σ m w o (ov.map (denL ρ))∧OV.Ok ρ ov:=fun {o ov} ho=>
     ⟨hf.objs o _ (by simp [W0,St.map,ho]),hok _ (List.mem_of_getElem? ho)⟩
   simp only [ice]at h;split at h
   · cases h;exact⟨Jc hk,hr.d_inv⟩
   · cases h;simp only [RS,SV.map]at hr;cases hr;exact⟨.nils _,.empty _ _⟩
   · rename_i o;split at h <;> try contradiction
     rename_i y ho;cases h;obtain⟨ro,ko⟩:=objof ho;have ky:LOk ρ x:=by cases ko;assumption
     simp only [OV.map]at ro;simp only [RS,SV.map]at hr;cases hr with
     |own hσ=>
     cases ro with
     |farr hs hrep=>rw [hs]at hσ;cases hσ;exact⟨ky,hrep⟩
   · rename_i o off;split at h <;> try contradiction
     rename_i xs ho;split at h <;> try contradiction
     rename_i hoff;cases h;obtain⟨ro,ko⟩:=objof ho;have kxs:∀c∈xs,LOk ρ c:=by cases ko;assumption
     simp only [OV.map]at ro;generalize hmcs:xs.map (denL ρ)=mcs at ro;simp only [RS,SV.map]at hr;cases hr with
     |ptr hσ=>
     cases ro with
     |fbox hs hrep=>
     rw [hs]at hσ;cases hσ;obtain⟨p1,p2⟩:=Z5o (off:=off) kxs;refine⟨p1,?_⟩;rw [p2,hmcs];exact hrep.ptr_drop (by rw [←hmcs];simpa using hoff)
   · rename_i cs;split at h <;> try contradiction
     rename_i xs h1;cases h;have kcs:∀c∈cs,SV.Ok ρ c:=by cases hk;assumption
     simp only [RS,SV.map,SV.mapL_eq]at hr;generalize hmcs:cs.map (SV.map (denL ρ))=mcs at hr;cases hr with
     |agg hsz hv=>
     rename_i arr;obtain⟨l1,k1,r1⟩:=Z6R (fun {v x val} h1 h2 h3=>ZaT n hf hok h1 h2 h3) (vals:=arr.toList) h1
       (fun i c v hc hv2=>hv i _ v (by rw [←hmcs];simp [hc]) (by simpa using hv2)) (by simp [hsz, ←hmcs]) kcs
     have hl:=LOks.of_tks k1;refine⟨LOk.list hl.1 hl.2,?_⟩;have e1:denL ρ ⟨T.list (xs.map (·.t)),.agg (xs.map (·.k))⟩=.agg (xs.map (denL ρ)):=by simp only [denL,W9,List.map_map];rfl
     rw [e1];refine .agg _ arr (by rw [hsz, ←hmcs];simp [l1]) fun i d v hd hu=>?_
     simp only [List.getElem?_map,Option.map_eq_some_iff]at hd;obtain⟨y,hy,rfl⟩:=hd;exact r1 i y v hy (by simpa using hu)
   · rename_i f cs;split at h <;> try contradiction
     rename_i xs h1;cases h;have kcs:∀c∈cs,SV.Ok ρ c:=by cases hk;assumption
     simp only [RS,SV.map,SV.mapL_eq]at hr;generalize hmcs:cs.map (SV.map (denL ρ))=mcs at hr;cases hr with
     |clo hsz hv=>
     rename_i arr;obtain⟨l1,k1,r1⟩:=Z6R (fun {v x val} h1 h2 h3=>ZaT n hf hok h1 h2 h3) (vals:=arr.toList) h1
       (fun i c v hc hv2=>hv i _ v (by rw [←hmcs];simp [hc]) (by simpa using hv2)) (by simp [hsz, ←hmcs]) kcs
     have hl:=LOks.of_tks k1;refine⟨LOk.clo hl.2,?_⟩;have e1:denL ρ ⟨.clo f (T.list (xs.map (·.t))),.fn⟩=.clo f (xs.map (denL ρ)):=by simp only [denL,den,W9,D.list,List.map_map];rfl
     rw [e1];refine .clo f _ arr (by rw [hsz, ←hmcs];simp [l1]) fun i d v hd hu=>?_
     simp only [List.getElem?_map,Option.map_eq_some_iff]at hd;obtain⟨y,hy,rfl⟩:=hd;exact r1 i y v hy (by simpa using hu)
   · contradiction
theorem Z0b:∀ {ids:List Nat} {objs objs':List (OV TK)} {m:Mem},Fits E σ m (W0 ρ ⟨ts,objs⟩) a w→(∀o∈objs,OV.Ok ρ o)→Ww objs ids=some objs'→∃m',FrOk E ρ σ ts a w m objs' objs.length m'
 | [],objs,objs',m,hf,hok,h=>by simp [Ww]at h;subst h;exact⟨m,Mem.le_refl m,hf,hok,rfl⟩
 | o ::os,objs,objs',m,hf,hok,h=>by
   have go:∀ {v:SV TK} {val:Value} {x:TK} {o1:List (OV TK)},freeze 6 objs v=some (x,o1)→RS σ m ρ v val→SV.Ok ρ v→Ww o1 os=some objs'→∃m',FrOk E ρ σ ts a w m objs' objs.length m':=by
     intro v val x o1 h1 hr hk h2;obtain⟨m1,f1,_,_⟩:=Zw 6 hf hok h1 hr hk;obtain⟨m2,f2⟩:=Z0b f1.fits f1.ok h2;exact⟨m2,Mem.le_trans f1.le f2.le,f2.fits,f2.ok,by rw [f2.len,f1.len]⟩
   simp only [Ww]at h;split at h
   · rename_i cs ho;split at h <;> try contradiction
     rename_i x o1 h1;have ro:=hf.objs o _ (show(W0 ρ ⟨ts,objs⟩).objs[o]? =some (OV.map (denL ρ) (.box cs)) by simp [W0,St.map,ho]);simp only [OV.map]at ro;cases ro with
     |box hs=>exact go h1 (.ptr hs) .ptr h
   · rename_i e x ho;split at h <;> try contradiction
     rename_i y o1 h1;have ro:=hf.objs o _ (show(W0 ρ ⟨ts,objs⟩).objs[o]? =some (OV.map (denL ρ) (.arr e x)) by simp [W0,St.map,ho]);simp only [OV.map]at ro;generalize denL ρ x=dx at ro;cases ro with
     |none hs=>exact go h1 (.own hs) .own h
     |arr hs=>exact go h1 (.own hs) .own h
   · rename_i x ho;split at h <;> try contradiction
     rename_i y o1 h1;have ro:=hf.objs o _ (show(W0 ρ ⟨ts,objs⟩).objs[o]? =some (OV.map (denL ρ) (.mp x)) by simp [W0,St.map,ho]);simp only [OV.map]at ro;generalize denL ρ x=dx at ro;cases ro with
     |mp hs=>exact go h1 (.own hs) .own h
   · exact Z0b hf hok h
theorem Z4V:∀ {emps objs:List (OV TK)} {σ:Names},Fits E σ m (W0 ρ ⟨ts,objs⟩) a w→(∀o∈objs,OV.Ok ρ o)→Z5K emps=true→
   ∃σ',σ.le σ'∧Fits E σ' m (W0 ρ ⟨ts,objs++emps⟩) a w∧(∀o∈objs++emps,OV.Ok ρ o)∧∀i,objs.length≤i→i < (objs++emps).length→σ' i=some (.slice none 0 0)
 | [],objs,σ,hf,hok,_=>⟨σ,Names.le_refl σ,by simpa using hf,by simpa using hok,fun i h1 h2=>by simp at h2;omega⟩
 | e ::emps,objs,σ,hf,hok,h=>by
   unfold Z5K at h;split at h <;> try contradiction
   rename_i e0 ks l heq
   · cases heq;have hA:Fits E (σ.add objs.length (.slice none 0 0)) m (W0 ρ ⟨ts,objs++[.arr e0 ⟨.nils,.slice ks⟩]⟩) a w:=by
       rw [Zf (st:=⟨ts,objs⟩)];have:=hf.newObj (v0:=.slice none 0 0) (ov:=.arr e0 (.slice [])) (by rw [Z6];exact .none (J1 _ _ _)) (fun b hb=>by simp [blk]at hb);rw [Z6]at this;exact this
     have hle:σ.le (σ.add objs.length (.slice none 0 0)):=by
       have:=Names.le_add hf.dom (Nat.le_refl _) (.slice none 0 0);rw [Z6]at this;exact this
     obtain⟨σ',h1,h2,h3,h4⟩:=Z4V (emps:=emps) hA (by
       intro o ho;rcases List.mem_append.1 ho with ho|ho
       · exact hok o ho
       · simp at ho;subst ho;exact .arr (.nils _)) h
     refine⟨σ',fun o v hv=>h1 o v (hle o v hv),by simpa using h2,by simpa using h3,fun i hi1 hi2=>?_⟩;by_cases hi:i=objs.length
     · subst hi;exact h1 _ _ (J1 _ _ _)
     · exact h4 i (by simp;omega) (by simpa using hi2)
end
theorem SV.Ok.shrink {ρ0 more:List D} {v:SV TK} (h:SV.Ok (ρ0++more) v):SV.All (Stb ρ0) v→SV.Ok ρ0 v:=by
 have one:∀ {x:TK},LOk (ρ0++more) x→Stb ρ0 x→LOk ρ0 x:=fun {x} h1 h2=>⟨by have:=h1.1;rw [h2 more]at this;exact this,h2⟩
 induction h with
 |d h=>intro hc;cases hc with|d h2=>exact .d (one h h2)
 |nil=>intro _;exact .nil
 |agg _ ih=>intro hc;cases hc with|agg h2=>exact .agg fun c hc=>ih c hc (h2 c hc)
 |tup _ ih=>intro hc;cases hc with|tup h2=>exact .tup fun c hc=>ih c hc (h2 c hc)
 |elt hs hi=>intro hc;cases hc with|elt h1 h2=>exact .elt (one hs h1) (one hi h2)
 |ptr=>intro _;exact .ptr
 |bnd=>intro _;exact .bnd
 |bptr hi=>intro hc;cases hc with|bptr h1=>exact .bptr (one hi h1)
 |oelt hi=>intro hc;cases hc with|oelt h1=>exact .oelt (one hi h1)
 |own=>intro _;exact .own
 |clo _ ih=>intro hc;cases hc with|clo h2=>exact .clo fun c hc=>ih c hc (h2 c hc)
 |grd hc hs _ ih=>intro hcl;cases hcl with|grd h1 h2=>exact .grd (one hc h1) h2 fun h=>ih (by rw [h1 more];exact h) h2
 |any=>intro _;exact .any
section
variable {ρ:List D} {σ σh:Names} {m:Mem}
mutual
theorem RS.names:∀ {h:SV TK} {val:Value},RS σ m ρ h val→(∀o∈h.objsIn,∀u,σ o=some u→σh o=some u)→RS σh m ρ h val
 | .d x,val,hr,_=>.d hr.d_inv
 | .nil,val,hr,_=>by simp only [RS,SV.map]at hr ⊢;cases hr;exact .nil
 | .any,val,hr,_=>.any
 | .elt s i off,val,hr,_=>by
   simp only [RS,SV.map]at hr ⊢;generalize denL ρ s=ds at hr ⊢;generalize denL ρ i=di at hr ⊢;cases hr with
   |elt h0 hx hm hsz hv=>exact .elt h0 hx hm hsz hv
 | .ptr o off,val,hr,hn=>by
   simp only [RS,SV.map]at hr ⊢;cases hr with
   |ptr h=>exact .ptr (hn o (by simp [SV.objsIn]) _ h)
 | .bnd f o,val,hr,hn=>by
   simp only [RS,SV.map]at hr ⊢;cases hr with
   |bnd h=>exact .bnd (hn o (by simp [SV.objsIn]) _ h)
 | .bptr o i n,val,hr,hn=>by
   simp only [RS,SV.map]at hr ⊢;generalize denL ρ i=di at hr ⊢;cases hr with
   |bptr h0 hl h=>exact .bptr h0 hl (hn o (by simp [SV.objsIn]) _ h)
 | .oelt o i e off,val,hr,hn=>by
   simp only [RS,SV.map]at hr ⊢;generalize denL ρ i=di at hr ⊢;cases hr with
   |oelt h0 hi h=>exact .oelt h0 hi (hn o (by simp [SV.objsIn]) _ h)
 | .own o,val,hr,hn=>by
   simp only [RS,SV.map]at hr ⊢;cases hr with
   |own h=>exact .own (hn o (by simp [SV.objsIn]) _ h)
 | .agg cs,val,hr,hn=>by
   have hl:=RS.namesL (cs:=cs) (fun o ho=>hn o (by simpa [SV.objsIn]using ho));simp only [RS,SV.map,SV.mapL_eq]at hr ⊢;generalize hm:cs.map (SV.map (denL ρ))=mcs at hr;cases hr with
   | agg hsz hv=>
     refine .agg hsz fun i c v hc hu=>?_
     have hc2:=hc;rw [←hm,List.getElem?_map,Option.map_eq_some_iff]at hc2;obtain⟨c',hc',rfl⟩:=hc2;exact hl c' (List.mem_of_getElem? hc') v (hv i _ v hc hu)
 | .tup cs,val,hr,hn=>by
   have hl:=RS.namesL (cs:=cs) (fun o ho=>hn o (by simpa [SV.objsIn]using ho));simp only [RS,SV.map,SV.mapL_eq]at hr ⊢;generalize hm:cs.map (SV.map (denL ρ))=mcs at hr;cases hr with
   | tup hsz hv=>
     refine .tup hsz fun i c v hc hu=>?_
     have hc2:=hc;rw [←hm,List.getElem?_map,Option.map_eq_some_iff]at hc2;obtain⟨c',hc',rfl⟩:=hc2;exact hl c' (List.mem_of_getElem? hc') v (hv i _ v hc hu)
 | .clo f cs,val,hr,hn=>by
   have hl:=RS.namesL (cs:=cs) (fun o ho=>hn o (by simpa [SV.objsIn]using ho));simp only [RS,SV.map,SV.mapL_eq]at hr ⊢;generalize hm:cs.map (SV.map (denL ρ))=mcs at hr;cases hr with
   | clo hsz hv=>
     refine .clo hsz fun i c v hc hu=>?_
     have hc2:=hc;rw [←hm,List.getElem?_map,Option.map_eq_some_iff]at hc2;obtain⟨c',hc',rfl⟩:=hc2;exact hl c' (List.mem_of_getElem? hc') v (hv i _ v hc hu)
 | .grd c v,val,hr,hn=>by
   have ih:=RS.names (h:=v) (val:=val);simp only [RS,SV.map]at hr ⊢;cases hr with
   |grd h hu=>exact .grd (fun hc=>ih (h hc) (fun o ho=>hn o (by simpa [SV.objsIn]using ho))) hu
theorem RS.namesL:∀ {cs:List (SV TK)},(∀o∈SV.objsInL cs,∀u,σ o=some u→σh o=some u)→∀c∈cs,∀val,RS σ m ρ c val→RS σh m ρ c val
 | [],_=>by simp
 | c::cs,hn=>
   have h1:∀val,RS σ m ρ c val→RS σh m ρ c val:=fun val hr=>RS.names hr (fun o ho=>hn o (by simp [SV.objsInL,ho]))
   have h2:=RS.namesL (cs:=cs) (fun o ho=>hn o (by simp [SV.objsInL,ho]))
   fun c' hc'=>(List.mem_cons.1 hc').elim (fun e=>e▸h1) (h2 c')
end
end
theorem Zd5 {ks:List K} {i:Nat} {k:K} (h:kAt ks i k=true):ks[i]? =some k:=by
 unfold kAt at h;split at h
 · rename_i k' hk;rw [hk,K.eq_of_beq h]
 · cases h
theorem Z58 {c:Chk}:∀ {ks:List K} {j:Nat} {ts:List T},c.vars j ks=some ts→ts.length=ks.length∧∀(i:Nat) k,ks[i]? =some k→∃t,c.inst? (j+i)=some t∧ts[i]? =some t
 | [],j,ts,h=>by simp [Chk.vars]at h;subst h;exact⟨rfl,by simp⟩
 | k ::ks,j,ts,h=>by
   simp only [Chk.vars]at h;split at h <;> try contradiction
   rename_i t ts' h1 h2;cases h;obtain⟨l,g⟩:=Z58 h2;refine⟨by simp [l],fun i k' hk=>?_⟩;cases i with
   |zero=>exact⟨t,by simpa using h1,rfl⟩
   | succ i=>
     obtain⟨t',h3,h4⟩:=g i k' (by simpa using hk);exact⟨t',by rw [←h3];congr 1;omega,by simpa using h4⟩
theorem Z5r {c:Chk} {h q:Nat} (hq:c.om? h=some q):(h,q)∈c.om:=by
 unfold Chk.om? at hq;simp only [Option.map_eq_some_iff]at hq;obtain⟨p,hp,rfl⟩:=hq;have h1:=List.find?_some hp;have h2:=List.mem_of_find?_eq_some hp;simp only [beq_iff_eq]at h1;subst h1;exact h2
theorem Z8D {c:Chk}:∀ {l:List (Nat×Nat)},c.apart l=true→∀p∈l,∀q∈l,(p.1=q.1∨p.2=q.2)→p=q
 | [],_=>by simp
 | x ::l,h=>by
   simp only [Chk.apart,Bool.and_eq_true]at h;obtain⟨h1,h2⟩:=h;have h3:∀q∈l,x.1≠q.1∧x.2≠q.2:=by
     intro q hq;have:=List.all_eq_true.1 h1 q hq;simpa using this
   intro p hp q hq hpq;rcases List.mem_cons.1 hp with e1|m1 <;> rcases List.mem_cons.1 hq with e2|m2
   · rw [e1,e2]
   · subst e1;exact absurd hpq (by have:=h3 q m2;simp [this])
   · subst e2;exact absurd hpq (by have:=h3 p m1;simp [Ne.symm this.1,Ne.symm this.2])
   · exact Z8D h2 p m1 q m2 hpq
def Zl (c:Chk) (σ:Names):Names:=fun h=>if h < c.ho.length then(c.om? h).bind σ else none
structure ChkIn (E:Env) (c:Chk) (ρ0 more ys:List D) (σ:Names) (m:Mem) (ats:List (SV TK)) (a:Act) (w:World):Prop where
 n:ρ0.length=c.n
 fits:Fits E σ m (W0 (ρ0++more) ⟨ats,c.objs⟩) a w
 ok:∀o∈c.objs,OV.Ok (ρ0++more) o
 emp:∀i,c.old≤i→i < c.objs.length→σ i=some (.slice none 0 0)
 ys:∀(j:Nat) k t,c.ks[j]? =some k→c.inst? (c.n+j)=some t→ys[j]? =some (den (ρ0++more) t)
 apart:c.apart c.om=true
 om:∀p∈c.om,p.1 < c.ho.length
structure SvR (c:Chk) (ρ0 more ys:List D) (σ:Names) (m:Mem) (h:SV TK) (val:Value):Prop where
 rep:RS (Zl c σ) m (ρ0++ys) h val
 ok:∀ys',HasKs c.ks ys'→SV.Ok (ρ0++ys') h
def Z80 (c:Chk) (ρ0 more:List D) (vs:List Nat):Prop:=∀j∈vs,∃k t,c.n≤j∧c.inst? j=some t∧c.ks[j - c.n]? =some k∧LOk (ρ0++more) ⟨t,k⟩
section
variable {E:Env} {c:Chk} {ρ0 more ys:List D} {σ:Names} {m:Mem} {ats:List (SV TK)} {a:Act} {w:World} (C:ChkIn E c ρ0 more ys σ m ats a w)
include C
theorem Jk {h q:Nat} {u:Value} (hq:c.om? h=some q) (hu:σ q=some u):Zl c σ h=some u:=by
 have:=C.om _ (Z5r hq);simp only at this;simp [Zl,this,hq,hu]
theorem Z5g {h b:SV TK} {val:Value} (hs:c.same h b=true) (hr:RS σ m (ρ0++more) b val) (hk:SV.Ok (ρ0++more) b):SvR c ρ0 more ys σ m h val:=by
 simp only [Chk.same,Bool.and_eq_true]at hs;obtain⟨⟨h1,h2⟩,h3⟩:=hs;have h1:=SV.eq_of_beq h1;subst h1;rw [←C.n]at h2;have hst:=SV.closed_ok h2;have e1:h.map (denL (ρ0++ys))=h.map (denL ρ0):=SV.map_congr (hst.mono fun x hx=>hx ys);have e2:h.map (denL (ρ0++more))=h.map (denL ρ0):=SV.map_congr (hst.mono fun x hx=>hx more);have hr2:=RS.names (σh:=Zl c σ) hr (fun o ho u hu=>by
   have:=List.all_eq_true.1 h3 o ho;simp only [beq_iff_eq]at this;exact Jk C this hu)
 refine⟨?_,fun ys' _=>(hk.shrink hst).ext ys'⟩;show RepS _ m (h.map (denL (ρ0++ys))) val;rw [e1, ←e2];exact hr2
theorem Zfh {x:TK} {k:K} (hk:LOk (ρ0++more) x) (hn:Z6y x k=true):LOk (ρ0++more) ⟨x.t,k⟩:=by
 exact⟨Z8o hk.1 hn,hk.2⟩
theorem Z9H {j:Nat} {k:K} {ys':List D} (hj:c.n≤j) (hk:c.ks[j - c.n]? =some k) (h:HasKs c.ks ys'):LOk (ρ0++ys') ⟨.var j,k⟩:=by
 obtain⟨d,hd,hkd⟩:=h.get hk;refine .var (d:=d) ?_ hkd;rw [List.getElem?_append_right (by rw [C.n];exact hj),C.n];exact hd
theorem Z9I {j:Nat} {k:K} {t:T} (hj:c.n≤j) (hk:c.ks[j - c.n]? =some k) (ht:c.inst? j=some t) (k':K):denL (ρ0++ys) ⟨.var j,k'⟩=den (ρ0++more) t:=by
 refine Zx ?_;rw [List.getElem?_append_right (by rw [C.n];exact hj),C.n];exact C.ys (j - c.n) k t hk (by rw [←ht];congr 1;omega)
theorem ZcV {h b:SV TK} {val:Value} (hs:c.sv1 h b=true) (hr:RS σ m (ρ0++more) b val) (hk:SV.Ok (ρ0++more) b):SvR c ρ0 more ys σ m h val∧Z80 c ρ0 more (SV.vars1 c.n h):=by
 have novars:∀ {h:SV TK},(∀j k,h=.d ⟨.var j,k⟩→¬c.n≤j)→Z80 c ρ0 more (SV.vars1 c.n h):=by
   intro h hh j hj;exfalso;unfold SV.vars1 at hj;split at hj
   · rename_i j' k';split at hj
     · rename_i hle;exact hh j' k' rfl hle
     · cases hj
   · cases hj
 unfold Chk.sv1 at hs;split at hs
 · exact⟨⟨.any,fun _ _=>.any⟩,novars (by intro j k he;cases he)⟩
 · rename_i j k;split at hs
   · rename_i hle;simp only [Chk.var]at hs;split at hs <;> try contradiction
     rename_i x t hx ht;simp only [Bool.and_eq_true]at hs;obtain⟨⟨h1,h2⟩,h3⟩:=hs;have h1:=T.eq_of_beq h1;have h3:=Zd5 h3;obtain⟨kx,rx⟩:=ZaT 3 C.fits C.ok hx hr hk;have hl:LOk (ρ0++more) ⟨t,k⟩:=by rw [←h1];exact Zfh C kx h2
     refine⟨⟨.d ?_,fun ys' hys'=>.d (Z9H C hle h3 hys')⟩,?_⟩
     · rw [Z9I C hle h3 ht k, ←h1];exact rx
     · intro j' hj';simp only [SV.vars1,if_pos hle,List.mem_singleton]at hj';subst hj';exact⟨k,t,hle,ht,h3,hl⟩
   · rename_i hle;exact⟨Z5g C hs hr hk,novars (by intro j' k' he;cases he;exact hle)⟩
 · rename_i o;refine⟨?_,novars (by intro j k he;cases he)⟩;split at hs
   · rename_i e j k hho;split at hs
     · rename_i hle;simp only [Chk.own]at hs;split at hs <;> try contradiction
       · rename_i o' q hq;simp only [beq_iff_eq]at hs;subst hs;simp only [RS,SV.map]at hr;cases hr with
         |own hσ=>exact⟨.own (Jk C hq hσ),fun _ _=>.own⟩
       · rename_i q hq;simp only [Bool.and_eq_true,decide_eq_true_eq]at hs;simp only [RS,SV.map]at hr;cases hr;exact⟨.own (Jk C hq (C.emp q hs.1 hs.2)),fun _ _=>.own⟩
     · exact Z5g C hs hr hk
   · exact Z5g C hs hr hk
 · rename_i hne1 hne2 hne3;exact⟨Z5g C hs hr hk,novars (by intro j k he;exact absurd he (hne2 j k))⟩
theorem Z9Y:∀ {hs bs:List (SV TK)} {vals:List Value},c.sv1s hs bs=true→vals.length=bs.length→(∀(i:Nat) b v,bs[i]? =some b→vals[i]? =some v→RS σ m (ρ0++more) b v)→(∀b∈bs,SV.Ok (ρ0++more) b)→
   hs.length=bs.length∧(∀(i:Nat) h v,hs[i]? =some h→vals[i]? =some v→RS (Zl c σ) m (ρ0++ys) h v)∧(∀ys',HasKs c.ks ys'→∀h∈hs,SV.Ok (ρ0++ys') h)∧Z80 c ρ0 more (hs.flatMap (SV.vars1 c.n))
 | [],[],vals,_,_,_,_=>⟨rfl,by simp,by simp,by intro j hj;cases hj⟩
 | [],_::_,_,h,_,_,_=>by simp [Chk.sv1s]at h
 |_::_,[],_,h,_,_,_=>by simp [Chk.sv1s]at h
 | h ::hs,b::bs,vals,hc,hl,hr,hk=>by
   cases vals with
   |nil=>simp at hl
   |cons u vals=>
   simp only [Chk.sv1s,Bool.and_eq_true]at hc;obtain⟨r1,v1⟩:=ZcV C hc.1 (hr 0 _ _ rfl rfl) (hk _ List.mem_cons_self);obtain⟨l2,r2,k2,v2⟩:=Z9Y (vals:=vals) hc.2 (by simpa using hl) (fun i b v hb hv=>hr (i+1) b v (by simpa using hb) (by simpa using hv)) (fun b hb=>hk b (List.mem_cons_of_mem _ hb));refine⟨by simp [l2],?_,?_,?_⟩
   · intro i h' v hh hv;cases i with
     |zero=>simp at hh hv;subst hh hv;exact r1.rep
     |succ i=>exact r2 i h' v (by simpa using hh) (by simpa using hv)
   · intro ys' hys' h' hh;rcases List.mem_cons.1 hh with rfl|hh
     · exact r1.ok ys' hys'
     · exact k2 ys' hys' h' hh
   · intro j hj;rw [List.flatMap_cons]at hj;rcases List.mem_append.1 hj with hj|hj
     · exact v1 j hj
     · exact v2 j hj
theorem sv_ok {h b:SV TK} {val:Value} (hs:c.sv h b=true) (hr:RS σ m (ρ0++more) b val) (hk:SV.Ok (ρ0++more) b):SvR c ρ0 more ys σ m h val∧Z80 c ρ0 more (SV.varsH c.n h):=by
 unfold Chk.sv at hs;split at hs
 · rename_i hs' cs;have kcs:∀c'∈cs,SV.Ok (ρ0++more) c':=by cases hk;assumption
   simp only [RS,SV.map,SV.mapL_eq]at hr;generalize hmcs:cs.map (SV.map (denL (ρ0++more)))=mcs at hr;cases hr with
   |agg hsz hv=>
   rename_i arr;obtain⟨l,r,k,v⟩:=Z9Y C (vals:=arr.toList) hs (by simp [hsz, ←hmcs]) (fun i b v hb hu=>hv i _ v (by rw [←hmcs];simp [hb]) (by simpa using hu)) kcs;refine⟨⟨?_,fun ys' hys'=>.agg (k ys' hys')⟩,v⟩;simp only [RS,SV.map,SV.mapL_eq];refine .agg (by rw [hsz, ←hmcs];simp [l]) fun i c' u hc' hu=>?_
   simp only [List.getElem?_map,Option.map_eq_some_iff]at hc';obtain⟨h',hh',rfl⟩:=hc';exact r i h' u hh' (by simpa using hu)
 · rename_i hne;obtain⟨r,v⟩:=ZcV C hs hr hk;refine⟨r,?_⟩;cases h with
   | agg hs'=>
     unfold Chk.sv1 at hs;simp only [Chk.same,Bool.and_eq_true]at hs;obtain⟨⟨h1,h2⟩,h3⟩:=hs;have h1:=SV.eq_of_beq h1;exact absurd h1.symm (hne hs' hs' rfl · )
   |_=>exact v
theorem Z88:∀ {hs bs:List (SV TK)} {vals:List Value},c.svs hs bs=true→vals.length=bs.length→(∀(i:Nat) b v,bs[i]? =some b→vals[i]? =some v→RS σ m (ρ0++more) b v)→(∀b∈bs,SV.Ok (ρ0++more) b)→
   hs.length=bs.length∧(∀(i:Nat) h v,hs[i]? =some h→vals[i]? =some v→RS (Zl c σ) m (ρ0++ys) h v)∧(∀ys',HasKs c.ks ys'→∀h∈hs,SV.Ok (ρ0++ys') h)∧Z80 c ρ0 more (hs.flatMap (SV.varsH c.n))
 | [],[],vals,_,_,_,_=>⟨rfl,by simp,by simp,by intro j hj;cases hj⟩
 | [],_::_,_,h,_,_,_=>by simp [Chk.svs]at h
 |_::_,[],_,h,_,_,_=>by simp [Chk.svs]at h
 | h ::hs,b::bs,vals,hc,hl,hr,hk=>by
   cases vals with
   |nil=>simp at hl
   |cons u vals=>
   simp only [Chk.svs,Bool.and_eq_true]at hc;obtain⟨r1,v1⟩:=sv_ok C hc.1 (hr 0 _ _ rfl rfl) (hk _ List.mem_cons_self);obtain⟨l2,r2,k2,v2⟩:=Z88 (vals:=vals) hc.2 (by simpa using hl) (fun i b v hb hv=>hr (i+1) b v (by simpa using hb) (by simpa using hv)) (fun b hb=>hk b (List.mem_cons_of_mem _ hb));refine⟨by simp [l2],?_,?_,?_⟩
   · intro i h' v hh hv;cases i with
     |zero=>simp at hh hv;subst hh hv;exact r1.rep
     |succ i=>exact r2 i h' v (by simpa using hh) (by simpa using hv)
   · intro ys' hys' h' hh;rcases List.mem_cons.1 hh with rfl|hh
     · exact r1.ok ys' hys'
     · exact k2 ys' hys' h' hh
   · intro j hj;rw [List.flatMap_cons]at hj;rcases List.mem_append.1 hj with hj|hj
     · exact v1 j hj
     · exact v2 j hj
end
theorem Z4n {n:Nat}:∀ {xs ys:List TK},Z0D n xs ys=true→xs=ys∧∀x∈xs,x.t.under n=true
 | [],[],_=>⟨rfl,by simp⟩
 | [],_::_,h=>by simp [Z0D]at h
 |_::_,[],h=>by simp [Z0D]at h
 | x::xs,y::ys,h=>by
   simp only [Z0D,Bool.and_eq_true]at h;obtain⟨⟨h1,h2⟩,h3⟩:=h;obtain⟨rfl,h4⟩:=Z4n h3;have:=TK.eq_of_beq h1;subst this;refine⟨rfl,fun z hz=>?_⟩;rcases List.mem_cons.1 hz with rfl|hz
   · exact h2
   · exact h4 z hz
section
variable {E:Env} {c:Chk} {ρ0 more ys:List D} {σ:Names} {m:Mem} {ats:List (SV TK)} {a:Act} {w:World} (C:ChkIn E c ρ0 more ys σ m ats a w)
include C
theorem JV {x:TK} (h:x.t.under c.n=true) (hk:LOk (ρ0++more) x):denL (ρ0++ys) x=denL (ρ0++more) x∧∀ys',LOk (ρ0++ys') x:=by
 rw [←C.n]at h;have hst:∀rs,den (ρ0++rs) x.t=den ρ0 x.t:=fun rs=>T.under_ok h rs
 have h0:LOk ρ0 x:=⟨by have:=hk.1;rw [hst more]at this;exact this,hst⟩
 exact⟨by simp only [denL];rw [hst,hst],fun ys'=>h0.ext ys'⟩
theorem Zdc {x y:TK} (h:c.arr x y=true) (hk:LOk (ρ0++more) y):denL (ρ0++ys) x=denL (ρ0++more) y∧(∀ys',HasKs c.ks ys'→LOk (ρ0++ys') x)∧
   ∀j,x.t=.var j→c.n≤j→∃k t,c.n≤j∧c.inst? j=some t∧c.ks[j - c.n]? =some k∧LOk (ρ0++more) ⟨t,k⟩:=by
 have same:TK.beq x y=true→x.t.under c.n=true→(∀j,x.t=.var j→¬c.n≤j)→denL (ρ0++ys) x=denL (ρ0++more) y∧(∀ys',HasKs c.ks ys'→LOk (ρ0++ys') x)∧
     ∀j,x.t=.var j→c.n≤j→∃k t,c.n≤j∧c.inst? j=some t∧c.ks[j - c.n]? =some k∧LOk (ρ0++more) ⟨t,k⟩:=by
   intro h1 h2 h3;have:=TK.eq_of_beq h1;subst this;obtain⟨g1,g2⟩:=JV C h2 hk;exact⟨g1,fun ys' _=>g2 ys',fun j hj hle=>absurd hle (h3 j hj)⟩
 have novar:x.t.under c.n=true→∀j,x.t=.var j→¬c.n≤j:=by
   intro hu j hj;rw [hj]at hu;simp only [T.under,decide_eq_true_eq]at hu;omega
 unfold Chk.arr at h;split at h
 · rename_i j hj;split at h
   · rename_i hle;simp only [Bool.and_eq_true]at h;obtain⟨⟨h1,h2⟩,h3⟩:=h;split at h3 <;> try contradiction
     rename_i t ht;have g1:=K.eq_of_beq h1;have g2:=Zd5 h2;have g3:=T.eq_of_beq h3;clear h1 h2 h3;cases x with
     |mk xt xk=>
     simp only at hj g1 g2;subst hj;refine⟨?_,fun ys' hys'=>Z9H C hle g2 hys',fun j' hj' hle'=>?_⟩
     · rw [Z9I C hle g2 ht];rw [g3];rfl
     · cases hj';refine⟨xk,t,hle,ht,g2,?_⟩;rw [g3,g1];exact hk
   · simp only [Bool.and_eq_true]at h;exact same h.1 h.2 (novar h.2)
 · simp only [Bool.and_eq_true]at h;exact same h.1 h.2 (novar h.2)
theorem Z8n {h:Nat} {ov:OV TK} (hc:c.obj h ov=true):RepO (Zl c σ) m w h (ov.map (denL (ρ0++ys)))∧(∀ys',HasKs c.ks ys'→OV.Ok (ρ0++ys') ov)∧Z80 c ρ0 more (OV.varsH c.n ov)∧
   (ov.alive=true→∃q ov',c.om? h=some q∧c.objs[q]? =some ov'∧ov'.alive=true):=by
 have objof:∀ {q:Nat} {ov:OV TK},c.objs[q]? =some ov→RepO σ m w q (ov.map (denL (ρ0++more)))∧OV.Ok (ρ0++more) ov:=fun {q ov} ho=>
   ⟨C.fits.objs q _ (by simp [W0,St.map,ho]),C.ok _ (List.mem_of_getElem? ho)⟩
 have bnd:∀ {q:Option Nat} {ov':OV TK},q.bind (c.objs[·]?)=some ov'→∃q',q=some q'∧c.objs[q']? =some ov':=by
   intro q ov' h;obtain⟨q',h1,h2⟩:=Option.bind_eq_some_iff.1 h;exact⟨q',h1,h2⟩
 unfold Chk.obj at hc;split at hc
 · exact⟨.dead,fun _ _=>.dead,(by intro j hj;cases hj),by simp [OV.alive]⟩
 · rename_i hs;split at hc <;> try contradiction
   rename_i cs hq;obtain⟨q,hq1,hq2⟩:=bnd hq;obtain⟨ro,ko⟩:=objof hq2;have kcs:∀c'∈cs,SV.Ok (ρ0++more) c':=by cases ko;assumption
   simp only [OV.map]at ro;generalize hmcs:cs.map (SV.map (denL (ρ0++more)))=mcs at ro;cases ro with
   |box hσ hb hsz hv=>
   rename_i b arr bt;obtain⟨l,r,k,v⟩:=Z88 C (vals:=arr.toList) hc (by simp [hsz, ←hmcs]) (fun i b v hb hu=>hv i _ v (by rw [←hmcs];simp [hb]) (by simpa using hu)) kcs;refine⟨?_,fun ys' hys'=>.box (k ys' hys'),v,fun _=>⟨q,_,hq1,hq2,rfl⟩⟩;simp only [OV.map];refine .box (Jk C hq1 hσ) hb (by rw [hsz, ←hmcs];simp [l]) fun i c' u hc' hu=>?_
   rw [List.getElem?_map,Option.map_eq_some_iff]at hc';obtain⟨h',hh',rfl⟩:=hc';exact r i h' u hh' (by simpa using hu)
 · rename_i e x;split at hc <;> try contradiction
   rename_i e' y hq;simp only [Bool.and_eq_true,decide_eq_true_eq]at hc;obtain⟨rfl,hc⟩:=hc;obtain⟨q,hq1,hq2⟩:=bnd hq;obtain⟨ro,ko⟩:=objof hq2;have ky:LOk (ρ0++more) y:=by cases ko;assumption
   obtain⟨d1,d2,d3⟩:=Zdc C hc ky;refine⟨?_,fun ys' hys'=>.arr (d2 ys' hys'),?_,fun _=>⟨q,_,hq1,hq2,rfl⟩⟩
   · simp only [OV.map]at ro ⊢;rw [d1];generalize denL (ρ0++more) y=d at ro ⊢;cases ro with
     |none hs=>exact .none (Jk C hq1 hs)
     |arr hs hb h0 hc hcc hcap hsz he hv=>exact .arr (Jk C hq1 hs) hb h0 hc hcc hcap hsz he hv
   · intro j hj;unfold OV.varsH at hj;split at hj
     · rename_i heq;cases heq
     · rename_i heq;cases heq
     · rename_i e2 j2 k2 heq;cases heq;split at hj
       · rename_i hle;simp only [List.mem_singleton]at hj;subst hj;exact d3 _ rfl hle
       · cases hj
     · rename_i heq;cases heq
     · cases hj
 · rename_i xs;split at hc <;> try contradiction
   rename_i zs hq;obtain⟨q,hq1,hq2⟩:=bnd hq;obtain⟨ro,ko⟩:=objof hq2;obtain⟨rfl,hu⟩:=Z4n hc;have kxs:∀x∈xs,LOk (ρ0++more) x:=by cases ko;assumption
   have hm:xs.map (denL (ρ0++ys))=xs.map (denL (ρ0++more)):=List.map_congr_left fun x hx=>(JV C (hu x hx) (kxs x hx)).1
   refine⟨?_,fun ys' _=>.fbox fun x hx=>(JV C (hu x hx) (kxs x hx)).2 ys',(by intro j hj;cases hj),by simp [OV.alive]⟩;simp only [OV.map]at ro ⊢;rw [hm];generalize xs.map (denL (ρ0++more))=d at ro ⊢;cases ro with
   |fbox hs hr=>exact .fbox (Jk C hq1 hs) hr
 · rename_i x;split at hc <;> try contradiction
   rename_i y hq;simp only [Bool.and_eq_true]at hc;obtain⟨q,hq1,hq2⟩:=bnd hq;obtain⟨ro,ko⟩:=objof hq2;have:=TK.eq_of_beq hc.1;subst this;have kx:LOk (ρ0++more) x:=by cases ko;assumption
   obtain⟨d1,d2⟩:=JV C hc.2 kx;refine⟨?_,fun ys' _=>.farr (d2 ys'),(by intro j hj;cases hj),by simp [OV.alive]⟩;simp only [OV.map]at ro ⊢;rw [d1];cases ro with
   |farr hs hr=>exact .farr (Jk C hq1 hs) hr
 · rename_i x;split at hc <;> try contradiction
   rename_i y hq;obtain⟨q,hq1,hq2⟩:=bnd hq;obtain⟨ro,ko⟩:=objof hq2;have ky:LOk (ρ0++more) y:=by cases ko;assumption
   obtain⟨d1,d2,d3⟩:=Zdc C hc ky;refine⟨?_,fun ys' hys'=>.mp (d2 ys' hys'),?_,fun _=>⟨q,_,hq1,hq2,rfl⟩⟩
   · simp only [OV.map]at ro ⊢;rw [d1];generalize denL (ρ0++more) y=d at ro ⊢;cases ro with
     |mp hs hb h=>exact .mp (Jk C hq1 hs) hb h
   · intro j hj;unfold OV.varsH at hj;split at hj
     · rename_i heq;cases heq
     · rename_i heq;cases heq
     · rename_i heq;cases heq
     · rename_i j2 k2 heq;cases heq;split at hj
       · rename_i hle;simp only [List.mem_singleton]at hj;subst hj;exact d3 _ rfl hle
       · cases hj
     · cases hj
 · cases hc
 · split at hc <;> try contradiction
   rename_i hq;obtain⟨q,hq1,hq2⟩:=bnd hq;obtain⟨ro,ko⟩:=objof hq2;simp only [OV.map]at ro;cases ro with
   |yld hs=>exact⟨.yld (Jk C hq1 hs),fun _ _=>.yld,(by intro j hj;cases hj),by simp [OV.alive]⟩
 · rename_i hs;split at hc <;> try contradiction
   rename_i cs hq;obtain⟨q,hq1,hq2⟩:=bnd hq;obtain⟨ro,ko⟩:=objof hq2;have kcs:∀c'∈cs,SV.Ok (ρ0++more) c':=by cases ko;assumption
   simp only [OV.map]at ro;generalize hmcs:cs.map (SV.map (denL (ρ0++more)))=mcs at ro;cases ro with
   |sav hσ hsz hv=>
   rename_i arr;obtain⟨l,r,k,v⟩:=Z88 C (vals:=arr.toList) hc (by simp [hsz, ←hmcs]) (fun i b v hb hu=>hv i _ v (by rw [←hmcs];simp [hb]) (by simpa using hu)) kcs;refine⟨?_,fun ys' hys'=>.sav (k ys' hys'),v,by simp [OV.alive]⟩;simp only [OV.map];refine .sav (Jk C hq1 hσ) (by rw [hsz, ←hmcs];simp [l]) fun i c' u hc' hu=>?_
   rw [List.getElem?_map,Option.map_eq_some_iff]at hc';obtain⟨h',hh',rfl⟩:=hc';exact r i h' u hh' (by simpa using hu)
theorem Zfb {h:Nat} (hc:c.obj h .yld=true):Zl c σ h=some (.func (.yield E.Y.l) #[] #[]):=by
 unfold Chk.obj at hc;simp only at hc;split at hc <;> try contradiction
 rename_i hq;obtain⟨q,h1,h2⟩:=Option.bind_eq_some_iff.1 hq;exact Jk C h1 (C.fits.yld q (by simp [W0,St.map,h2,OV.map]))
theorem Zfc {h:Nat} {hs:List (SV TK)} (hc:c.obj h (.sav hs)=true):Zl c σ h=some (.tuple E.sav):=by
 unfold Chk.obj at hc;simp only at hc;split at hc <;> try contradiction
 rename_i cs hq;obtain⟨q,h1,h2⟩:=Option.bind_eq_some_iff.1 hq;exact Jk C h1 (C.fits.sav q (cs.map (SV.map (denL (ρ0++more)))) (by simp [W0,St.map,h2,OV.map]))
theorem Z4y:∀ {l:List (OV TK)} {h:Nat},c.objects h l=true→∀(i:Nat) ov,l[i]? =some ov→c.obj (h+i) ov=true
 | [],_,_=>by simp
 | x ::l,h,hc=>by
   simp only [Chk.objects,Bool.and_eq_true]at hc;intro i ov hov;cases i with
   |zero=>simp at hov;subst hov;exact hc.1
   | succ i=>
     have:=Z4y hc.2 i ov (by simpa using hov);rw [←this];congr 1;omega
end
theorem HasKs.of_all {ρ:List D}:∀ {ks:List K} {ts:List T},ts.length=ks.length→(∀(i:Nat) k,ks[i]? =some k→∃t,ts[i]? =some t∧HasK k (den ρ t))→HasKs ks (ts.map (den ρ))
 | [],[],_,_=>by simp [HasKs]
 | [],_::_,h,_=>by simp at h
 |_::_,[],h,_=>by simp at h
 | k ::ks,t::ts,h,hall=>by
   simp only [List.map_cons,HasKs];obtain⟨t',h1,h2⟩:=hall 0 k rfl;simp at h1;subst h1;exact⟨h2,HasKs.of_all (by simpa using h) (fun i k' hk'=>by
     obtain⟨t',h1,h2⟩:=hall (i+1) k' (by simpa using hk');exact⟨t',by simpa using h1,h2⟩)⟩
theorem Z4H {E:Env} {ρ0 more:List D} {σ:Names} {m:Mem} {n:Nat} {ks:List K} {head xs:XS} {ts:List T} {a:Act} {w:World} (hf:Fits E σ m (W0 (ρ0++more) xs.st) a w) (hok:xs.st.Ok (ρ0++more)) (hn:ρ0.length=n)
   (h:Z2C n ks head xs=some ts):
   (∃σ' m',Fits E σ' m' (W0 (ρ0++ts.map (den (ρ0++more))) head.st) a w∧m.le m')∧HasKs ks (ts.map (den (ρ0++more)))∧∀ys',HasKs ks ys'→head.st.Ok (ρ0++ys'):=by
 unfold Z2C at h;split at h <;> try contradiction
 split at h <;> try contradiction
 rename_i M _;split at h <;> try contradiction
 rename_i objs hfr;simp only at h;split at h <;> try contradiction
 rename_i hcond;simp only [Bool.and_eq_true]at hcond;obtain⟨⟨⟨⟨⟨c1,c2⟩,c3⟩,c4⟩,c5⟩,c6⟩:=hcond;obtain⟨m1,f1⟩:=Z0b (ts:=xs.st.tmps) (by exact hf) hok.objs hfr;obtain⟨σ2,g1,g2,g3,g4⟩:=Z4V f1.fits f1.ok c1;generalize hc:(⟨n,ks,head.st.objs,M.inst,M.om,objs++M.objs.drop xs.st.objs.length,xs.st.objs.length⟩:Chk)=c at *;have e1:c.n=n:=by rw [←hc]
 have e2:c.ks=ks:=by rw [←hc]
 have e3:c.ho=head.st.objs:=by rw [←hc]
 have e4:c.objs=objs++M.objs.drop xs.st.objs.length:=by rw [←hc]
 have e5:c.om=M.om:=by rw [←hc]
 have e6:c.old=xs.st.objs.length:=by rw [←hc]
 obtain⟨v1,v2⟩:=Z58 h;have C:ChkIn E c ρ0 more (ts.map (den (ρ0++more))) σ2 m1 xs.st.tmps a w:=by
   refine⟨by rw [hn,e1],by rw [e4];exact g2,by rw [e4];exact g3,?_,?_,?_,?_⟩
   · intro i h1 h2;rw [e4]at h2;rw [e6]at h1;exact g4 i (by rw [f1.len];exact h1) h2
   · intro j k t hk ht;rw [e2]at hk;rw [e1]at ht;obtain⟨t',h1,h2⟩:=v2 j k hk;rw [ht]at h1;cases h1;simp [h2]
   · rw [e5];exact c4
   · intro p hp;rw [e5]at hp;have:=List.all_eq_true.1 c5 p hp;rw [e3];simpa using this
 have hsz:=g2.sz;simp only [W0,St.map,List.length_map]at hsz;obtain⟨t1,t2,t3,t4⟩:=Z88 C (vals:=a.tmps.toList) c2 (by simpa using hsz) (fun i b v hb hv=>g2.tm i _ v (by simp [W0,St.map,hb]) (by simpa using hv)) hok.tmps;have hobj:∀(i:Nat) ov,head.st.objs[i]? =some ov→c.obj i ov=true:=fun i ov hov=>by
   have:=Z4y C c3 i ov hov;simpa using this
 have hvars:Z80 c ρ0 more (head.varsH n):=by
   intro j hj;unfold XS.varsH at hj;rw [←e1]at hj;rcases List.mem_append.1 hj with hj|hj
   · exact t4 j hj
   · obtain⟨ov,hov,hj⟩:=List.mem_flatMap.1 hj;obtain⟨i,hi⟩:=List.mem_iff_getElem?.1 hov;exact(Z8n C (hobj i ov hi)).2.2.1 j hj
 have hks:HasKs ks (ts.map (den (ρ0++more))):=by
   have hall:∀(i:Nat) k,ks[i]? =some k→∃t,ts[i]? =some t∧HasK k (den (ρ0++more) t):=by
     intro i k hk;have hlt:=(List.getElem?_eq_some_iff.1 hk).1;have:=List.all_eq_true.1 c6 i (List.mem_range.2 hlt);obtain⟨k',t,h1,h2,h3,h4⟩:=hvars (n+i) (by simpa using this);rw [e1]at h3;rw [e2,Nat.add_sub_cancel_left]at h3;rw [hk]at h3;cases h3;obtain⟨t',h5,h6⟩:=v2 i k hk;rw [h2]at h5;cases h5;exact⟨t,h6,h4.1⟩
   exact HasKs.of_all v1 hall
 refine⟨⟨Zl c σ2,m1,?_,f1.le⟩,hks,fun ys' hys'=>⟨t3 ys' (by rw [e2];exact hys'),fun o ho=>?_⟩⟩
 · have alive:∀ {h:Nat} {ov:OV D},(W0 (ρ0++ts.map (den (ρ0++more))) head.st).objs[h]? =some ov→ov.alive=true→∃q ov',c.om? h=some q∧(W0 (ρ0++more) ⟨xs.st.tmps,c.objs⟩).objs[q]? =some ov'∧ov'.alive=true∧Zl c σ2 h=σ2 q:=by
     intro h ov hov hal;simp only [W0,St.map,List.getElem?_map,Option.map_eq_some_iff]at hov;obtain⟨ov0,h0,rfl⟩:=hov;obtain⟨q,ov',q1,q2,q3⟩:=(Z8n C (hobj h ov0 h0)).2.2.2 (by cases ov0 <;> first|rfl|(simp [OV.map,OV.alive]at hal));refine⟨q,ov'.map (denL (ρ0++more)),q1,by simp [W0,St.map,q2],by cases ov' <;> first|rfl|(simp [OV.alive]at q3),?_⟩;have:=C.om _ (Z5r q1);simp only at this;simp [Zl,this,q1]
   have hF:=C.fits
   exact { sz:=by simp only [W0,St.map,List.length_map];rw [hsz,t1]
           tm:=fun i s v hs hv=>by
             simp only [W0,St.map,List.getElem?_map,Option.map_eq_some_iff]at hs;obtain⟨h',hh',rfl⟩:=hs;exact t2 i h' v hh' (by simpa using hv)
           dfr:=hF.dfr,mem:=hF.mem,le:=hF.le
           yld:=fun o ho=>by
             simp only [W0,St.map,List.getElem?_map,Option.map_eq_some_iff]at ho;obtain⟨ov0,h0,he⟩:=ho;cases ov0 <;> simp [OV.map]at he
             exact Zfb C (hobj o _ h0)
           sav:=fun o cs ho=>by
             simp only [W0,St.map,List.getElem?_map,Option.map_eq_some_iff]at ho;obtain⟨ov0,h0,he⟩:=ho;cases ov0 <;> simp [OV.map]at he
             exact Zfc C (hobj o _ h0)
           objs:=fun o ov hov=>by
             simp only [W0,St.map,List.getElem?_map,Option.map_eq_some_iff]at hov;obtain⟨ov0,h0,rfl⟩:=hov;exact(Z8n C (hobj o ov0 h0)).1
           sep:=fun o ov b hov hal hb=>by
             obtain⟨q,ov',q1,q2,q3,q4⟩:=alive hov hal;rw [q4]at hb;exact hF.sep q ov' b q2 q3 hb
           inj:=fun o o' ov ov' b h1 h2 a1 a2 b1 b2=>by
             obtain⟨q,u,q1,q2,q3,q4⟩:=alive h1 a1;obtain⟨q',u',q1',q2',q3',q4'⟩:=alive h2 a2;rw [q4]at b1;rw [q4']at b2;have:=hF.inj q q' u u' b q2 q2' q3 q3' b1 b2;subst this;have:=Z8D C.apart _ (Z5r q1) _ (Z5r q1') (.inr rfl);simpa using this
           dom:=fun o v hv=>by
             simp only [Zl]at hv;split at hv
             · rename_i hlt;rw [e3]at hlt;simpa [W0,St.map]using hlt
             · cases hv
           grow:=hF.grow,keep:=hF.keep,old:=hF.old,os:=hF.os,tape:=hF.tape,output:=hF.output,drawn:=hF.drawn}
 · obtain⟨i,hi⟩:=List.mem_iff_getElem?.1 ho;exact(Z8n C (hobj i o hi)).2.1 ys' (by rw [e2];exact hys')
def Spec.up (s:Spec):Spec:=fun args K=>∃K0,s args K0∧∀rs,K0 rs→K rs
def SpecX.up (s:SpecX):SpecX:=fun args K=>∃K0,s args K0∧∀rs,K0 rs→K rs
theorem Contract.up {P:Program} {f:FuncId} {s:Spec} (h:Contract P f s):Contract P f s.up:=by
 refine⟨h.1,fun args K hs ht w m vs hm hsz hv=>?_⟩;obtain⟨K0,h0,hK⟩:=hs;refine(h.2 args K0 h0 ht w m vs hm hsz hv).mono ?_;rintro e w' ⟨rs,v,m',h1,h2⟩;exact⟨rs,v,m',hK rs h1,h2⟩
theorem ContractX.up {P:Program} {f:FuncId} {pk:List PK} {upd:Bool} {s:SpecX} (h:ContractX P f pk upd s):ContractX P f pk upd s.up:=by
 refine⟨h.1,fun args K hs ht w m vs hm hv=>?_⟩;obtain⟨K0,h0,hK⟩:=hs;refine(h.2 args K0 h0 ht w m vs hm hv).mono ?_;rintro e w' ⟨rs,us,v,m',h1,h2⟩;exact⟨rs,us,v,m',hK rs h1,h2⟩
theorem Contract.weaken {P:Program} {f:FuncId} {s s':Spec} (h:Contract P f s) (hs:∀args K,Zr P f args→s' args K→s args K):Contract P f s':=
 ⟨h.1,fun args K h' ht=>h.2 args K (hs args K ht h') ht⟩
theorem YW {P:Program} {ρ:List D} {f:Fv} {args:List T} {res:List RK} {J J':List D→Prop} (h:JL P ρ f args res J) (hJ:∀rs,J rs→J' rs):JL P ρ f args res J':=by
 cases f with
 | fn f=>
   obtain⟨s,h1,h2⟩:=h;exact⟨s.up,h1.up,_,h2,fun rvs ⟨rs,g1,g3⟩=>⟨rs,g1,hJ rs g3⟩⟩
 | val t=>
   obtain⟨s,h1,h2⟩:=h;refine⟨s.up,?_,_,h2,fun rvs ⟨rs,g1,g2,g3⟩=>⟨rs,g1,g2,hJ rs g3⟩⟩;simp only [FvC]at h1 ⊢;split at h1
   · obtain⟨h0,s',hs',hc⟩:=h1;refine⟨h0,s'.up,hs'.up,?_⟩;rintro as_ K ⟨K0,h3,h4⟩;obtain⟨g1,g2⟩:=hc _ _ h3;exact⟨⟨K0,g1,h4⟩,g2⟩
   · exact h1
theorem Jq {P:Program} {F:Option Nat→List RV→Prop} {K K':Ags→List D→XExit→XS→Prop} (hK:∀ags ρ e xs,K ags ρ e xs→K' ags ρ e xs):∀(r:R) (ags:Ags) (ρ:List D),denR P F K r ags ρ→denR P F K' r ags ρ:=by
 intro r;induction r with
 |fail=>intro ags ρ h;exact h
 |need t r ih=>intro ags ρ h;exact⟨h.1,ih _ _ h.2⟩
 |fact t r ih=>intro ags ρ h;exact fun ht=>ih _ _ (h ht)
 |ite t a b iha ihb=>intro ags ρ h;exact⟨fun ht=>iha _ _ (h.1 ht),fun ht=>ihb _ _ (h.2 ht)⟩
 |lets ts r ih=>intro ags ρ h;exact ih _ _ h
 | call g f args res r ih=>
   intro ags ρ h;cases g with
   |none=>exact YW h fun rs hr=>ih _ _ hr
   | some c=>
     obtain⟨J,h1,h2,h3⟩:=h;exact⟨J,h1,h2,fun rs a b=>ih _ _ (h3 rs a b)⟩
 | loop l inits ks b ih=>
   intro ags ρ h;obtain⟨Inv,μ,h1,h2⟩:=h;exact⟨Inv,μ,h1,fun c xs a b=>ih _ _ (h2 c xs a b)⟩
 |again=>intro ags ρ h;exact h
 |leaf e xs=>intro ags ρ h;exact hK _ _ _ _ h
 |ret=>intro ags ρ h;exact h
 | callX u f args res r ih=>
   intro ags ρ h;obtain⟨pk,s,h1,ht,hu,h2⟩:=h;exact⟨pk,s.up,h1.up,ht,hu,_,h2,fun rvs ⟨rs,g1,g2⟩=>⟨rs,g1,ih _ _ g2⟩⟩
 | yield args r ih=>
   intro ags ρ h;obtain⟨c,h1,h2,h3⟩:=h;exact⟨c,h1,h2,fun b hb=>ih _ _ (h3 b hb)⟩
 |guess t r ih=>intro ags ρ h b hb;exact ih _ _ (h b hb)
 |mix f sz sh r ih=>intro ags ρ h;exact⟨h.1,ih _ _ h.2⟩
 | iter l t i ks pk b d ihb ihd=>
   intro ags ρ h;obtain⟨xs,Inv,h1,h2,h3,h4,h5⟩:=h;exact⟨xs,Inv,h1,h2,h3,fun i x fx c ys a1 a2 a3 a4 a5=>ihb _ _ (h4 i x fx c ys a1 a2 a3 a4 a5),fun c ys a1 a2=>ihd _ _ (h5 c ys a1 a2)⟩
 | join l ks b c ihb ihc=>
   intro ags ρ h;obtain⟨Inv,h1,h2⟩:=h;exact⟨Inv,ihb _ _ h1,fun c xs a1 a2=>ihc _ _ (h2 c xs a1 a2)⟩
theorem Z3J {P:Program} {F:Option Nat→List RV→Prop} {K:Ags→List D→XExit→XS→Prop} {n:Nat}:∀(r:R) (ags:Ags) (ρ:List D),r.lvlOk n=true→denR P F K r ags ρ→
   denR P F (fun ags' ρ' e xs=>K ags' ρ' e xs∧(∀l,l < n→ags'.inv l=ags.inv l)∧∃more,ρ'=ρ++more) r ags ρ:=by
 intro r;induction r with
 |fail=>intro ags ρ _ h;exact h
 |need t r ih=>intro ags ρ hl h;exact⟨h.1,ih _ _ hl h.2⟩
 |fact t r ih=>intro ags ρ hl h;exact fun ht=>ih _ _ hl (h ht)
 | ite t a b iha ihb=>
   intro ags ρ hl h;simp only [R.lvlOk,Bool.and_eq_true]at hl;exact⟨fun ht=>iha _ _ hl.1 (h.1 ht),fun ht=>ihb _ _ hl.2 (h.2 ht)⟩
 | lets ts r ih=>
   intro ags ρ hl h;refine Jq ?_ r _ _ (ih _ _ hl h);rintro ags' ρ' e xs ⟨h1,h2,more,rfl⟩;exact⟨h1,h2,_,List.append_assoc _ _ _⟩
 | call g f args res r ih=>
   intro ags ρ hl h;have step:∀rs,denR P F K r ags (ρ++rs)→denR P F (fun ags' ρ' e xs=>K ags' ρ' e xs∧(∀l,l < n→ags'.inv l=ags.inv l)∧∃more,ρ'=ρ++more) r ags (ρ++rs):=by
     intro rs hr;refine Jq ?_ r _ _ (ih _ _ hl hr);rintro ags' ρ' e xs ⟨h1,h2,more,rfl⟩;exact⟨h1,h2,_,List.append_assoc _ _ _⟩
   cases g with
   |none=>exact YW h step
   | some c=>
     obtain⟨J,h1,h2,h3⟩:=h;exact⟨J,h1,h2,fun rs a b=>step rs (h3 rs a b)⟩
 | loop l inits ks b ih=>
   intro ags ρ hl h;simp only [R.lvlOk,Bool.and_eq_true,decide_eq_true_eq]at hl;obtain⟨Inv,μ,h1,h2⟩:=h;refine⟨Inv,μ,h1,fun cc xs a c=>?_⟩;refine Jq ?_ b _ _ (ih _ _ hl.2 (h2 cc xs a c));rintro ags' ρ' e xs' ⟨g1,g2,more,rfl⟩;refine⟨g1,fun l' hl'=>?_,_,List.append_assoc _ _ _⟩;rw [g2 l' hl'];simp only [Jh,Ags.wc];rw [if_neg (by omega)]
 |again=>intro ags ρ _ h;exact h
 |leaf e xs=>intro ags ρ _ h;exact⟨h,fun _ _=>rfl,[],by simp⟩
 |ret=>intro ags ρ _ h;exact h
 | callX u f args res r ih=>
   intro ags ρ hl h;obtain⟨pk,s,h1,ht,hu,h2⟩:=h;refine⟨pk,s.up,h1.up,ht,hu,_,h2,fun rvs ⟨rs,g1,g2⟩=>⟨rs,g1,?_⟩⟩;refine Jq ?_ r _ _ (ih _ _ hl g2);rintro ags' ρ' e xs ⟨h1,h2,more,rfl⟩;exact⟨h1,h2,_,List.append_assoc _ _ _⟩
 | yield args r ih=>
   intro ags ρ hl h;obtain⟨c,h1,h2,h3⟩:=h;refine⟨c,h1,h2,fun b hb=>?_⟩;refine Jq ?_ r _ _ (ih _ _ hl (h3 b hb));rintro ags' ρ' e xs ⟨h1,h2,more,rfl⟩;exact⟨h1,h2,_,List.append_assoc _ _ _⟩
 |mix f sz sh r ih=>intro ags ρ hl h;exact⟨h.1,ih _ _ hl h.2⟩
 | guess t r ih=>
   intro ags ρ hl h b hb;refine Jq ?_ r _ _ (ih _ _ hl (h b hb));rintro ags' ρ' e xs ⟨h1,h2,more,rfl⟩;exact⟨h1,h2,_,List.append_assoc _ _ _⟩
 | join l ks b c ihb ihc=>
   intro ags ρ hl h;simp only [R.lvlOk,Bool.and_eq_true,decide_eq_true_eq]at hl;obtain⟨Inv,h1,h2⟩:=h;refine⟨Inv,?_,fun c' xs a1 a2=>?_⟩
   · refine Jq ?_ b _ _ (ihb _ _ hl.1.2 h1);rintro ags' ρ' e xs' ⟨g1,g2,more,rfl⟩;refine⟨g1,fun l' hl'=>?_,more,rfl⟩;rw [g2 l' hl'];simp only [Jh];rw [if_neg (by omega)]
   · refine Jq ?_ c _ _ (ihc _ _ hl.2 (h2 c' xs a1 a2));rintro ags' ρ' e xs' ⟨g1,g2,more,rfl⟩;exact⟨g1,fun l' hl'=>by rw [g2 l' hl'];rfl,xs++more,by simp⟩
 | iter l t inits ks pk b d ihb ihd=>
   intro ags ρ hl h;simp only [R.lvlOk,Bool.and_eq_true,decide_eq_true_eq]at hl;obtain⟨xs,Inv,h1,h2,h3,h4,h5⟩:=h;refine⟨xs,Inv,h1,h2,h3,fun i x fx c ys a1 a2 a3 a4 a5=>?_,fun c ys a1 a2=>?_⟩
   · refine Jq ?_ b _ _ (ihb _ _ hl.1.2 (h4 i x fx c ys a1 a2 a3 a4 a5));rintro ags' ρ' e xs' ⟨g1,g2,more,rfl⟩;refine⟨g1,fun l' hl'=>?_,ys++fx++more,by simp⟩;rw [g2 l' hl'];simp only [Jh,Ags.wc];rw [if_neg (by omega)]
   · refine Jq ?_ d _ _ (ihd _ _ hl.2 (h5 c ys a1 a2));rintro ags' ρ' e xs' ⟨g1,g2,more,rfl⟩;exact⟨g1,g2,_,List.append_assoc _ _ _⟩
def Post (E:Env) (Kd:Ags→List D→XExit→XS→Prop):Exit→Act→World→Prop
 | .normal,a,w=>Ends E Kd .norm a w
 | .exit i,a,w=>Ends E Kd (.exit i) a w
 | .ret,a,w=>Ends E Kd .ret a w
 |_,_,_=>False
section
variable {E:Env} {F:Option Nat→List RV→Prop} {md:Mode}
theorem Z14 {Kd:Ags→List D→XExit→XS→Prop} {ags:Ags} {ops:Array Oper} {id:Nat} {draw:Bool} {xs:XS} {ρ:List D} {σ:Names} {m:Mem} {a:Act} {w:World} (hI:Z1z E md) (hon:E.Y.on=false→E.Y.exp=[]) (hY:Good E ags) (hf:Fits E σ m (W0 ρ xs.st) a w) (hx:XOk ρ xs)
   (h:denR E.P F Kd (Z2I E.P md ops.toList draw xs) ags ρ):(Code.region id ops draw).wpIn (fen E.r) 0 E.P (Post E Kd) a w:=by
 have hQ:∀a w,Ends E Kd .norm a w→Post E Kd .normal a w:=fun a w he=>he
 cases draw with
 | false=>
   simp only [Z2I,Bool.false_eq_true,if_false]at h;refine wpIn_region ?_;have:=Z8m (List.range ops.toList.length) hI hon hQ hY hf hx h;simpa using this
 | true=>
   simp only [Z2I,if_true]at h;split at h
   · rename_i hm;refine wpIn_region_any hm ?_;have D0:DInv E F Kd ags md ops (ZcC xs.st ops.toList ops.toList.length []) [] [] xs ρ σ m (Array.replicate ops.size false) a a {w with drawn:=w.drawn+1}:=
       ⟨hf.drew,hx,⟨_,h⟩,by simp,(fun j hj=>by rw [getD_replicate_false]at hj;cases hj),by simp,by simp,(fun j hj=>by rw [getD_replicate_false]at hj;cases hj),(fun p1 j p2 he=>by cases p1 <;> simp at he),rfl,fun _ _=>rfl,rfl⟩
     obtain⟨rest',pre',xs',b',D1,hN⟩:=D0.advance;refine Z7N hI hQ ops.size hY D1 hN ?_;have:(Array.replicate ops.size false).toList.count true=0:=by
       rw [List.count_eq_zero];simp
     omega
   · simp [denR]at h
theorem Z8A {K Kd':Ags→List D→XExit→XS→Prop} {ags:Ags} {ρ:List D} {c:T} (hc:den ρ c=.bool true) {rest:R} {xa:XS} (hlast:denR E.P F K rest ags ρ→Kd' ags ρ .norm xa):
   ∀(r:R) {l:List (Bool×T)},r.plainChain=some (l,xa)→denR E.P F K (R.chain c l rest) ags ρ→denR E.P F Kd' r ags ρ:=by
 intro r;induction r with
 | need t r ih=>
   intro l h hd;simp only [R.plainChain]at h;split at h <;> try contradiction
   rename_i l' xs' hr;cases h;simp only [R.chain,denR,T.imp,den,hc,D.cond]at hd;exact⟨hd.1,ih hr hd.2⟩
 | fact t r ih=>
   intro l h hd;simp only [R.plainChain]at h;split at h <;> try contradiction
   rename_i l' xs' hr;cases h;simp only [R.chain,denR,T.imp,den,hc,D.cond]at hd;exact fun ht=>ih hr (hd ht)
 | leaf e xs=>
   intro l h hd;cases e with
   | norm=>
     simp only [R.plainChain,Option.some.injEq,Prod.mk.injEq]at h;obtain⟨rfl,rfl⟩:=h;exact hlast hd
   |_=>simp [R.plainChain]at h
 |_=>intro l h;simp [R.plainChain]at h
theorem Z0s {K:Ags→List D→XExit→XS→Prop} {ags:Ags} {ρ:List D} {c:T} (hc:den ρ c=.bool false) {rest:R}:∀ {l:List (Bool×T)},denR E.P F K (R.chain c l rest) ags ρ→denR E.P F K rest ags ρ
 | [],h=>h
 | (true,t)::l,h=>by
   simp only [R.chain,denR]at h;exact Z0s hc h.2
 | (false,t)::l,h=>by
   simp only [R.chain,denR,T.imp,den,hc,D.cond]at h;exact Z0s hc (h trivial)
theorem ZaM {ρ:List D} {t:T} {b:Bool} (hb:den ρ t=.bool b):∀ {ta tb:List T},ta.length=tb.length→(iteT t ta tb).map (den ρ)=(if b then ta else tb).map (den ρ)
 | [],[],_=>by cases b <;> rfl
 | [],_::_,h=>by simp at h
 |_::_,[],h=>by simp at h
 | x::ta,y::tb,h=>by
   simp only [iteT,List.map_cons,ZaM hb (show ta.length=tb.length by simpa using h)];cases b <;> simp [den,hb,D.cond]
theorem Zff {Kd:Ags→List D→XExit→XS→Prop} {ags:Ags} {ρ:List D} {n:Nat} {ks:List K} {head xa:XS} {ta us:List T} (hn:ρ.length=n) (hnv:head.nv=n+ks.length) (hm:Z2C n ks head xa=some ta) (hu:us.map (den ρ)=ta.map (den ρ))
   (hK:Kd ags (ρ++us.map (den ρ)) .norm head) {σ:Names} {m:Mem} {a:Act} {w:World} (hY:Good E ags) (hf:Fits E σ m (W0 ρ xa.st) a w) (hx:XOk ρ xa):Ends E Kd .norm a w:=by
 obtain⟨⟨σ',m',h1,_⟩,h2,h3⟩:=Z4H (more:=[]) (by simpa using hf) (by simpa using hx.all) hn hm;simp only [List.append_nil]at h1 h2;rw [hu]at hK;refine .here hY h1 ⟨h3 _ h2,?_⟩ hK;rw [List.length_append,hn,hnv,h2.length]
theorem Zck {Kd:Ags→List D→XExit→XS→Prop} {ags:Ags} {ρ:List D} {xs:XS} {t:T} {ra rb:R} {b:Bool} (hx:XOk ρ xs) (hb:den ρ t=.bool b) (h:denR E.P F Kd (Z5x xs t ra rb) ags ρ):
   ∃Kd',denR E.P F Kd' (if b then ra else rb) ags ρ∧∀e a w,Post E Kd' e a w→Post E Kd e a w:=by
 have plain:denR E.P F Kd (.ite t ra rb) ags ρ→∃Kd',denR E.P F Kd' (if b then ra else rb) ags ρ∧∀e a w,Post E Kd' e a w→Post E Kd e a w:=by
   intro h;simp only [denR]at h;refine⟨Kd,?_,fun _ _ _ h=>h⟩;cases b
   · exact h.2 hb
   · exact h.1 hb
 unfold Z5x at h;split at h
 · rename_i la xa lb xb ha hbb;split at h
   · rename_i hnv;generalize hg:Z9r xs.nv xs.nl xa [xb]=g at h;obtain⟨head,ks⟩:=g;simp only at h;split at h
     · rename_i ta tb hma hmb;split at h
       · rename_i hhn;have hlen:ta.length=tb.length:=by
           have l1:ta.length=ks.length:=by
             unfold Z2C at hma;split at hma <;> try contradiction
             split at hma <;> try contradiction
             split at hma <;> try contradiction
             simp only at hma;split at hma <;> try contradiction
             exact(Z58 hma).1
           have l2:tb.length=ks.length:=by
             unfold Z2C at hmb;split at hmb <;> try contradiction
             split at hmb <;> try contradiction
             split at hmb <;> try contradiction
             simp only at hmb;split at hmb <;> try contradiction
             exact(Z58 hmb).1
           omega
         have hit:=ZaM hb hlen;have post:∀ {x:XS} {tx:List T},Z2C xs.nv ks head x=some tx→(iteT t ta tb).map (den ρ)=tx.map (den ρ)→
             ∀e a w,Post E (fun ags' ρ' e xs'=>ags'=ags∧ρ'=ρ∧e=.norm∧xs'=x∧Kd ags (ρ++(iteT t ta tb).map (den ρ)) .norm head) e a w→Post E Kd e a w:=by
           intro x tx hmx hux e a w hp;cases e with
           | normal=>
             obtain⟨B,ags',ρ',xs',σ',m',hB,hY',⟨rfl,rfl,_,rfl,hK⟩,hf',hx'⟩:=hp;exact(Zff (E:=E.re B) hx.nv hhn hmx hux hK hY' hf' hx').re hB
           |exit i=>obtain⟨B,ags',ρ',xs',σ',m',_,_,⟨_,_,he,_⟩,_⟩:=hp;cases he
           |ret=>obtain⟨B,ags',ρ',xs',σ',m',_,_,⟨_,_,he,_⟩,_⟩:=hp;cases he
           |goto l=>exact hp
           |panic c=>exact hp
           |outgrown=>exact hp
         cases b with
         | true=>
           refine⟨_,?_,post hma hit⟩;refine Z8A hb (fun hr=>?_) ra ha h;have:=Z0s (c:=T.notB t) (by simp [T.notB,den,hb,O1.eval]) hr;exact⟨rfl,rfl,rfl,rfl,this⟩
         | false=>
           refine⟨_,?_,post hmb hit⟩;have h2:=Z0s hb h;refine Z8A (c:=T.notB t) (by simp [T.notB,den,hb,O1.eval]) (fun hr=>?_) rb hbb h2;exact⟨rfl,rfl,rfl,rfl,hr⟩
       · exact plain h
     · exact plain h
   · exact plain h
 · exact plain h
end
section
variable {E:Env} {σ:Names} {m:Mem} {st:St D} {a:Act} {w:World} {ags:Ags}
theorem Fits.turn (hf:Fits E σ m st a w) {l:Nat} {o o':Obj} (hl:w.heap[l]? =some o) (hc:holds o=false) (hml:m l=none) (hE:E.w0.heap.size≤l∨E.mine l) (hmk:∀D,mark D∈a.defers→D≠l):Fits E σ m st a (w.putObj l o'):=by
 refine hf.other (O:=fun b=>b=l) (fun b _ hb=>World.putObj_heap_other hb) (by simp) rfl rfl rfl (Nat.le_refl _) (Mem.le_refl m) (fun _ _ _=>rfl) (fun b ob hb=>?_) ?_ ?_ hmk
 · have:b≠l:=fun e=>by subst e;rw [hml]at hb;cases hb
   rw [World.putObj_heap_other this];exact hf.mem b ob hb
 · rintro b ⟨q,ov,h1,h2,h3⟩ rfl;obtain⟨ob,hcells,hho⟩:=(hf.objs q ov h1).cells h2 h3;rw [hl]at hcells;cases hcells;rw [hc]at hho;cases hho
 · rintro b rfl;exact hE
theorem Fits.frame (hf:Fits E σ m st a w) {ts:List (SV D)} {a':Act} (hsz:a'.tmps.size=ts.length) (htm:∀(i:Nat) s v,ts[i]? =some s→a'.tmps[i]? =some v→RepS σ m s v) (hd:Marks E m a'.defers w):Fits E σ m ⟨ts,st.objs⟩ a' w:=
 {sz:=hsz,tm:=htm,dfr:=hd,yld:=hf.yld,sav:=hf.sav,mem:=hf.mem,le:=hf.le,objs:=hf.objs,sep:=hf.sep,inj:=hf.inj,dom:=hf.dom,grow:=hf.grow,keep:=hf.keep,old:=hf.old,os:=hf.os,tape:=hf.tape,output:=hf.output,drawn:=hf.drawn}
def hold (σ:Names) (st:St D) (a:Act) (b:Nat):Prop:=WY σ st b∨mark b∈a.defers
def Env.sub (E:Env) (σ:Names) (m:Mem) (st:St D) (a:Act) (w:World) (r:Option Nat):Env:= {E with w0:=w,m0:=m,mine:=hold σ st a,own:=Z1b E w,r:=r}
theorem ZJ (hf:Fits E σ m st a w) {b:Nat} (h:WY σ st b):b < w.heap.size∧m b=none∧(E.w0.heap.size≤b∨E.mine b)∧∃ob,w.heap[b]? =some ob∧holds ob=true:=by
 obtain⟨o,ov,h1,h2,h3⟩:=h;exact⟨(hf.objs o ov h1).lt h2 h3,(hf.sep o ov b h1 h2 h3).1,(hf.sep o ov b h1 h2 h3).2,(hf.objs o ov h1).cells h2 h3⟩
theorem YU (hf:Fits E σ m st a w) {D:Nat} (h:mark D∈a.defers):w.heap[D]? =some (.deferred (some []))∧m D=none∧(E.w0.heap.size≤D∨E.mine D):=by
 obtain⟨Ds,h1,h2,h3⟩:=hf.dfr;rw [h1]at h;obtain⟨D',hD',he⟩:=List.mem_map.1 h;have:D'=D:=by simpa [mark]using he
 subst this;exact h3 D' hD'
theorem Z7C (hf:Fits E σ m st a w) {b:Nat} (h:hold σ st a b):b < w.heap.size∧(E.w0.heap.size≤b∨E.mine b):=by
 rcases h with h|h
 · exact⟨(ZJ hf h).1,(ZJ hf h).2.2.1⟩
 · exact⟨(Array.getElem?_eq_some_iff.1 (YU hf h).1).1,(YU hf h).2.2⟩
theorem Z2P (hY:Good E ags) (hf:Fits E σ m st a w) {b:Nat} (hb:b < w.heap.size) (h:E.w0.heap.size≤b∨E.mine b):Z1b E w b:=h.elim (fun h=>.inr ⟨h,hb⟩) fun h=>.inl (hY.sub b h).1
theorem Fits.sub (hf:Fits E σ m st a w) (r:Option Nat):Fits (E.sub σ m st a w r) σ m st a w:=
 { sz:=hf.sz,tm:=hf.tm
   dfr:=by
     obtain⟨Ds,h1,h2,h3⟩:=hf.dfr;exact⟨Ds,h1,h2,fun D hD=>⟨(h3 D hD).1,(h3 D hD).2.1,.inr (.inr (by rw [h1];exact List.mem_map_of_mem hD))⟩⟩
   yld:=hf.yld,sav:=hf.sav,mem:=hf.mem,le:=Mem.le_refl m,objs:=hf.objs
   sep:=fun o ov b ho ha hb=>⟨(hf.sep o ov b ho ha hb).1,.inr (.inl ⟨o,ov,ho,ha,hb⟩)⟩
   inj:=hf.inj,dom:=hf.dom,grow:=Nat.le_refl _,keep:=fun _ _ _=>rfl,old:=fun _ _ _=>rfl,os:=rfl,tape:=rfl,output:=rfl,drawn:=Nat.le_refl _}
theorem Good.sub_env (hY:Good E ags) (hf:Fits E σ m st a w) (r:Option Nat):Good (E.sub σ m st a w r) ags:=
 ⟨hY.yok,fun hon=>hY.J hon hf,hY.exp,fun b hb=>by
   obtain⟨h1,h2⟩:=Z7C hf hb;exact⟨Z2P hY hf h1 h2,h1⟩,hY.lim⟩
structure SubEnd (E:Env) (σ:Names) (m:Mem) (st:St D) (a:Act) (w:World) (σ':Names) (m':Mem) (st':St D) (a':Act) (w':World) (B2:Base):Prop where
 same:∀b,b < w.heap.size→¬hold σ st a b→Z1b E w b∨E.Y.on=false→w'.heap[b]? =w.heap[b]?∧m' b=m b
 alive:∀b,b < w.heap.size→hold σ' st' a' b→hold σ st a b
 size:w.heap.size≤w'.heap.size
 os:w'.os=w.os
 tape:w'.tape=w.tape
 output:w'.output=w.output
 drawn:w.drawn≤w'.drawn
 le:m.le m'
 mine:∀b,b < w.heap.size→(E.w0.heap.size≤b∨E.mine b)→B2.w0.heap.size≤b∨B2.mine b
theorem Z2J (hf:Fits E σ m st a w) (hY:Good E ags) {r:Option Nat} {B':Base} {σ':Names} {m':Mem} {st':St D} {a':Act} {w':World} {ags':Ags} (hTo:(E.sub σ m st a w r).To B') (hG:Good ((E.sub σ m st a w r).re B') ags')
   (hf':Fits ((E.sub σ m st a w r).re B') σ' m' st' a' w'):∃B2,E.To B2∧Good (E.re B2) ags'∧Fits (E.re B2) σ' m' st' a' w'∧SubEnd E σ m st a w σ' m' st' a' w' B2:=by
 have hle:m.le m':=Mem.le_trans hTo.le hf'.le;have hsz:w.heap.size≤w'.heap.size:=Nat.le_trans hTo.size hf'.grow;have hos:w'.os=w.os:=hf'.os.trans hTo.os;have htape:w'.tape=w.tape:=hf'.tape.trans hTo.tape;have hout:w'.output=w.output:=hf'.output.trans hTo.output;have hdr:w.drawn≤w'.drawn:=Nat.le_trans hTo.drawn hf'.drawn;have same:∀b,b < w.heap.size→¬hold σ st a b→Z1b E w b∨E.Y.on=false→w'.heap[b]? =w.heap[b]?∧m' b=m b:=by
   intro b hb hna ho;have hnm:¬B'.mine b:=fun h=>hna (hTo.mine b hb h)
   have h1:=hf'.keep b (Nat.lt_of_lt_of_le hb hTo.size) hnm;have h2:=hf'.old b (Nat.lt_of_lt_of_le hb hTo.size) hnm;rcases ho with ho|hoff
   · obtain⟨k1,k2⟩:=hTo.keep b hb ho hna;exact⟨h1.trans k1,h2.trans k2⟩
   · have:=hTo.off hoff;subst this;exact⟨h1,h2⟩
 have alive:∀b,b < w.heap.size→hold σ' st' a' b→hold σ st a b:=by
   intro b hb ha;obtain⟨_,h⟩:=Z7C hf' ha;rcases h with h|h
   · have:B'.w0.heap.size≤b:=h;have:=hTo.size;exact absurd hb (by have h3:w.heap.size≤B'.w0.heap.size:=hTo.size;omega)
   · exact hTo.mine b hb h
 have sepB:∀b,hold σ st a b→E.w0.heap.size≤b∨E.mine b:=fun b h=>(Z7C hf h).2
 cases hon:E.Y.on with
 | false=>
   have hB':=hTo.off hon;subst hB';refine⟨E.toBase,E.to_self,?_,?_,⟨same,alive,hsz,hos,htape,hout,hdr,hle,fun b _ h=>h⟩⟩
   · have hexp:ags'.exp=E.Y.exp:=hG.exp;exact⟨hY.yok,fun h=>(by have h:E.Y.on=true:=h;rw [hon]at h;cases h),hexp,hY.sub,hG.lim⟩
   · exact { sz:=hf'.sz,tm:=hf'.tm
             dfr:=by
               obtain⟨Ds,h1,h2,h3⟩:=hf'.dfr;refine⟨Ds,h1,h2,fun D hD=>?_⟩;obtain⟨g1,g2,g3⟩:=h3 D hD;exact⟨g1,g2,g3.elim (fun h=>.inl (Nat.le_trans hf.grow h)) (sepB D)⟩
             yld:=hf'.yld,sav:=hf'.sav,mem:=hf'.mem,le:=Mem.le_trans hf.le hle,objs:=hf'.objs
             sep:=fun o ov b ho ha hb=>by
               obtain⟨g1,g2⟩:=hf'.sep o ov b ho ha hb;exact⟨g1,g2.elim (fun h=>.inl (Nat.le_trans hf.grow h)) (sepB b)⟩
             inj:=hf'.inj,dom:=hf'.dom,grow:=Nat.le_trans hf.grow hsz
             keep:=fun b hb hmb=>by
               have hna:¬hold σ st a b:=fun h=>(sepB b h).elim (fun h=>absurd hb (Nat.not_lt.2 h)) hmb
               rw [(same b (Nat.lt_of_lt_of_le hb hf.grow) hna (.inr hon)).1];exact hf.keep b hb hmb
             old:=fun b hb hmb=>by
               have hna:¬hold σ st a b:=fun h=>(sepB b h).elim (fun h=>absurd hb (Nat.not_lt.2 h)) hmb
               rw [(same b (Nat.lt_of_lt_of_le hb hf.grow) hna (.inr hon)).2];exact hf.old b hb hmb
             os:=hos.trans hf.os,tape:=htape.trans hf.tape,output:=hout.trans hf.output,drawn:=Nat.le_trans hf.drawn hdr}
 | true=>
   have hBsz:w.heap.size≤B'.w0.heap.size:=hTo.size;have hBlt:∀b,B'.mine b→b < B'.w0.heap.size:=fun b h=>(hG.sub b h).2
   refine⟨⟨B'.w0,B'.m0,fun b=>b < B'.w0.heap.size∧(B'.mine b∨E.mine b∨(E.w0.heap.size≤b∧b < w.heap.size)),B'.own⟩,?_,?_,?_,⟨same,alive,hsz,hos,htape,hout,hdr,hle,?_⟩⟩
   · refine⟨fun h=>(by rw [hon]at h;cases h),Nat.le_trans hf.grow hBsz,hTo.os.trans hf.os,hTo.tape.trans hf.tape,hTo.output.trans hf.output,Nat.le_trans hf.drawn hTo.drawn,Mem.le_trans hf.le hTo.le,?_,fun b ho=>hTo.own b (.inl ho),?_⟩
     · rintro b hb ⟨_,h|h|h⟩
       · exact(sepB b (hTo.mine b (Nat.lt_of_lt_of_le hb hf.grow) h)).resolve_left (by omega)
       · exact h
       · omega
     · intro b hb ho hmb;have hlt:=Nat.lt_of_lt_of_le hb hf.grow;have hna:¬hold σ st a b:=fun h=>(sepB b h).elim (fun h=>by omega) hmb
       obtain⟨k1,k2⟩:=hTo.keep b hlt (.inl ho) hna;exact⟨k1.trans (hf.keep b hb hmb),k2.trans (hf.old b hb hmb)⟩
   · refine⟨hY.yok,hG.j,hG.exp,?_,hG.lim⟩;rintro b ⟨hb,h|h|h⟩
     · exact hG.sub b h
     · exact⟨hTo.own b (.inl (hY.sub b h).1),hb⟩
     · exact⟨hTo.own b (.inr h),hb⟩
   · exact { sz:=hf'.sz,tm:=hf'.tm
             dfr:=by
               obtain⟨Ds,h1,h2,h3⟩:=hf'.dfr;refine⟨Ds,h1,h2,fun D hD=>?_⟩;obtain⟨g1,g2,g3⟩:=h3 D hD;exact⟨g1,g2,g3.elim .inl fun h=>.inr ⟨hBlt D h,.inl h⟩⟩
             yld:=hf'.yld,sav:=hf'.sav,mem:=hf'.mem,le:=hf'.le,objs:=hf'.objs
             sep:=fun o ov b ho ha hb=>by
               obtain⟨g1,g2⟩:=hf'.sep o ov b ho ha hb;exact⟨g1,g2.elim .inl fun h=>.inr ⟨hBlt b h,.inl h⟩⟩
             inj:=hf'.inj,dom:=hf'.dom,grow:=hf'.grow
             keep:=fun b hb hmb=>hf'.keep b hb (fun h=>hmb ⟨hb,.inl h⟩)
             old:=fun b hb hmb=>hf'.old b hb (fun h=>hmb ⟨hb,.inl h⟩)
             os:=hf'.os,tape:=hf'.tape,output:=hf'.output,drawn:=hf'.drawn}
   · intro b hb h;by_cases hb2:B'.w0.heap.size≤b
     · exact .inl hb2
     · exact .inr ⟨by omega,h.elim (fun h=>.inr (.inr ⟨h,hb⟩)) fun h=>.inr (.inl h)⟩
end
section
variable {E:Env} {ρ:List D} {σ:Names} {m:Mem} {st:St TK} {a:Act} {w:World}
def Z1M (tmps:Array Value):ResultVar→Sem Value
 | .tmp t=>pure (tmps.getD t undef)
 | .cell a t=>do loadVar t (←asAddr (tmps.getD a undef))
theorem ZbW (hf:Fits E σ m (W0 ρ st) a w) (hok:st.Ok ρ) {r:ResultVar} {sv:SV TK} (h:ZbX E.P st r=some sv):∃v,(Z1M a.tmps r).run E.P w=.ok v w∧RS σ m ρ sv v∧SV.Ok ρ sv:=by
 cases r with
 | tmp t=>
   simp only [ZbX,Option.some.injEq]at h;subst h;have hl:=look_ok hf hok (.tmp t);have ht:=Z7f hf hok hl.1 hl.2;exact⟨a.tmps.getD t undef,by simp [Z1M],ht.1,ht.2⟩
 | cell b t=>
   simp only [ZbX]at h;have hl:=look_ok hf hok (.tmp b);split at h <;> try contradiction
   rename_i o hb;have hl1:RS σ m ρ (.ptr o 0) (a.tmps.getD b undef):=by
     have:=hl.1;simp only [look,hb,Act.eval]at this;exact this
   split at h <;> try contradiction
   rename_i cs ho;split at h <;> try contradiction
   rename_i hsize;simp only [Option.map_eq_some_iff]at h;obtain⟨v0,hp,rfl⟩:=h;have hro:=hf.objs o _ (show(W0 ρ st).objs[o]? =some (OV.map (denL ρ) (.box cs)) by simp [W0,St.map,ho]);have hko:=hok.objs _ (List.mem_of_getElem? ho);have kcs:∀c∈cs,SV.Ok ρ c:=by cases hko;assumption
   simp only [OV.map]at hro;generalize hmcs:cs.map (SV.map (denL ρ))=mcs at hro;simp only [RS,SV.map]at hl1;generalize hev:a.tmps.getD b undef=ev at hl1;cases hro with
   |box hs hb2 hsz hv=>
   rename_i blk arr bt;cases hl1 with
   |ptr hσ=>
   rw [hs]at hσ;cases hσ;have hn:arr.size=cs.length:=by rw [hsz, ←hmcs];simp
   have hst:W2 arr 0 (E.P.cellsOf t)=arr.toList:=by
     simp only [W2,List.drop_zero];rw [←hsize, ←hn];exact List.take_of_length_le (by simp)
   obtain⟨ag,hag,h1,hr,ha⟩:=Z7o (σ:=σ) (m:=m) (ρ:=ρ) (vals:=W2 arr 0 (E.P.cellsOf t)) hp (by rw [hst,Array.length_toList];exact hn) (fun i c u hc hu=>hv i _ u (by rw [←hmcs];simp [hc]) (by rw [hst]at hu;simpa using hu)) kcs;have run:=Z4p (P:=E.P) (w:=w) (t:=t) (off:=0) hag rfl hb2 (by omega) (fun e=>by rw [←hsize];exact h1 e);have ht:=Z7f hf hok hr ha;refine⟨_,?_,ht.1,ht.2⟩;simp only [Z1M,hev];simpa [Instr.loadAt,Instr.sureAddr,asAddr]using run
end
theorem Z6w:∀ {l:List Nat},l.length=(nub l).length→l.Nodup∧nub l=l
 | [],_=>⟨List.nodup_nil,rfl⟩
 | x ::l,h=>by
   have hle:∀l:List Nat,(nub l).length≤l.length:=by
     intro l;induction l with
     |nil=>simp [nub]
     |cons y l ih=>simp only [nub];split <;> simp <;> omega
   simp only [nub]at h ⊢;split at h
   · have:=hle l;simp at h;omega
   · rename_i hc;rw [if_neg hc];obtain⟨h1,h2⟩:=Z6w (l:=l) (by simpa using h);rw [h2]at hc;exact⟨List.nodup_cons.2 ⟨by simpa using hc,h1⟩,by rw [h2]⟩
section
variable {E:Env} {ρ:List D} {σ:Names} {m:Mem} {st:St TK} {a:Act} {w:World}
theorem Z1L (hf:Fits E σ m (W0 ρ st) a w) (hok:st.Ok ρ):∀ {rs:List ResultVar} {svs:List (SV TK)},Z0E E.P st rs=some svs→
   ∃vals:List Value,(rs.mapM (Z1M a.tmps)).run E.P w=.ok vals w∧vals.length=svs.length∧(∀(i:Nat) sv v,svs[i]? =some sv→vals[i]? =some v→RS σ m ρ sv v)∧∀sv∈svs,SV.Ok ρ sv
 | [],svs,h=>by simp [Z0E]at h;subst h;exact⟨[],by simp,rfl,by simp,by simp⟩
 | r ::rs,svs,h=>by
   simp only [Z0E]at h;split at h <;> try contradiction
   rename_i sv svs' h1 h2;cases h;obtain⟨v,r1,q1,k1⟩:=ZbW hf hok h1;obtain⟨vals,r2,l2,q2,k2⟩:=Z1L hf hok h2;refine⟨v::vals,by simp [List.mapM_cons,r1,r2],by simp [l2],?_,?_⟩
   · intro i sv' v' hs hv;cases i with
     |zero=>simp at hs hv;subst hs hv;exact q1
     |succ i=>exact q2 i sv' v' (by simpa using hs) (by simpa using hv)
   · intro sv' hs;rcases List.mem_cons.1 hs with rfl|hs
     · exact k1
     · exact k2 sv' hs
theorem Z3d {P:Program} {fn:Func} {tmps:Array Value} {vals:List Value} (h:(fn.results.toList.mapM (Z1M tmps)).run P w=.ok vals w):
   (results fn tmps).run P w=.ok (if h:vals.toArray.size=1 then vals.toArray[0]else .tuple vals.toArray) w:=by
 have e:results fn tmps=(fn.results.mapM (Z1M tmps) >>= fun vs=>pure (if h:vs.size=1 then vs[0]else .tuple vs)):=by
   unfold results;rfl
 rw [e,Array.mapM_eq_mapM_toList];simp [h]
theorem Z5l {ts:List (SV TK)} {nb:List Nat}:∀ {vs:List (SV TK)} {vals:List Value} {objs objs':List (OV TK)} {xs:List (Option TK)} {m:Mem},Fits E σ m (W0 ρ ⟨ts,objs⟩) a w→(∀o∈objs,OV.Ok ρ o)→Z6g nb objs vs=some (xs,objs')→
   (∀(i:Nat) c v,vs[i]? =some c→vals[i]? =some v→RS σ m ρ c v)→vals.length=vs.length→(∀c∈vs,SV.Ok ρ c)→
   ∃m',FrOk E ρ σ ts a w m objs' objs.length m'∧xs.length=vs.length∧∀(i:Nat) x v,xs[i]? =some (some x)→vals[i]? =some v→LOk ρ x∧RepD m' (denL ρ x) v
 | [],vals,objs,objs',xs,m,hf,hok,h,hr,hl,hk=>by
   simp [Z6g]at h;obtain⟨rfl,rfl⟩:=h;exact⟨m,⟨Mem.le_refl m,hf,hok,rfl⟩,rfl,by simp⟩
 | v ::vs,vals,objs,objs',xs,m,hf,hok,h,hr,hl,hk=>by
   cases vals with
   |nil=>simp at hl
   |cons u vals=>
   simp only [Z6g]at h;split at h
   · split at h <;> try contradiction
     rename_i xs1 o1 h1;cases h;obtain⟨m1,f1,l1,r1⟩:=Z5l (vals:=vals) hf hok h1 (fun i c v hc hv=>hr (i+1) c v (by simpa using hc) (by simpa using hv)) (by simpa using hl) (fun c hc=>hk c (List.mem_cons_of_mem _ hc));refine⟨m1,f1,by simp [l1],fun i x v' hx hv=>?_⟩;cases i with
     |zero=>simp at hx
     |succ i=>exact r1 i x v' (by simpa using hx) (by simpa using hv)
   · split at h <;> try contradiction
     rename_i x o1 h1;split at h <;> try contradiction
     rename_i xs1 o2 h2;cases h;obtain⟨m1,f1,k1,r1⟩:=Zw 6 hf hok h1 (hr 0 _ _ rfl rfl) (hk _ List.mem_cons_self);obtain⟨m2,f2,l2,r2⟩:=Z5l (vals:=vals) f1.fits f1.ok h2 (fun i c v hc hv=>(hr (i+1) c v (by simpa using hc) (by simpa using hv)).mono (Names.le_refl σ) f1.le) (by simpa using hl) (fun c hc=>hk c (List.mem_cons_of_mem _ hc));refine⟨m2,⟨Mem.le_trans f1.le f2.le,f2.fits,f2.ok,by rw [f2.len,f1.len]⟩,by simp [l2],fun i x' v' hx hv=>?_⟩;cases i with
     |zero=>simp at hx hv;subst hx hv;exact⟨k1,r1.mono f2.le⟩
     |succ i=>exact r2 i x' v' (by simpa using hx) (by simpa using hv)
theorem Z1N {nb:List Nat}:∀ {vs:List (SV TK)} {objs objs':List (OV TK)} {xs:List (Option TK)},Z6g nb objs vs=some (xs,objs')→∀(i:Nat) o,xs[i]? =some none→vs[i]? =some (.ptr o 0)→nb.contains o=true
 | [],objs,objs',xs,h,i,o,hx,hv=>by simp at hv
 | v ::vs,objs,objs',xs,h,i,o,hx,hv=>by
   simp only [Z6g]at h;split at h
   · rename_i q hq;split at h <;> try contradiction
     rename_i xs1 o1 h1;cases h;cases i with
     | zero=>
       simp at hv;subst hv;simp only [Z2E]at hq;split at hq
       · assumption
       · cases hq
     |succ i=>exact Z1N h1 i o (by simpa using hx) (by simpa using hv)
   · split at h <;> try contradiction
     rename_i x o1 h1;split at h <;> try contradiction
     rename_i xs1 o2 h2;cases h;cases i with
     |zero=>simp at hx
     |succ i=>exact Z1N h2 i o (by simpa using hx) (by simpa using hv)
end
section
variable {E:Env} {ρ:List D} {σ:Names} {m:Mem} {ts:List (SV TK)} {a:Act} {w:World}
inductive OutR (objs:List (OV TK)):SV TK→Option TK→RT×TK→Prop
 |d {v:SV TK} {x:TK}:OutR objs v (some x) (.d x.t,x)
 |own {o e:Nat} {y:TK} (h:objs[o]? =some (.arr e y)):OutR objs (.own o) none (.own e y.t,y)
 |ice {o:Nat} {y:TK} (h:objs[o]? =some (.farr y)):OutR objs (.own o) none (.d y.t,y)
 |box {o:Nat} {cs:List (SV TK)} {ys:List TK} (h:objs[o]? =some (.box cs)) (hy:allD cs=some ys):OutR objs (.ptr o 0) none (.box (T.list (ys.map (·.t))),⟨T.list (ys.map (·.t)),.agg (ys.map (·.k))⟩)
theorem Z6f {objs:List (OV TK)}:∀ {vs:List (SV TK)} {xs:List (Option TK)} {rs:List (RT×TK)},Z2b objs vs xs=some rs→rs.length=vs.length∧∀(i:Nat) r,rs[i]? =some r→∃v x,vs[i]? =some v∧xs[i]? =some x∧OutR objs v x r
 | [],[],rs,h=>by simp [Z2b]at h;subst h;exact⟨rfl,by simp⟩
 | [],_::_,_,h=>by simp [Z2b]at h
 |_::_,[],_,h=>by simp [Z2b]at h
 | v ::vs,x::xs,rs,h=>by
   have cons:∀ {r:RT×TK} {rs':List (RT×TK)},Z2b objs vs xs=some rs'→OutR objs v x r→(r::rs').length=(v::vs).length∧∀(i:Nat) r',(r::rs')[i]? =some r'→∃v' x',(v::vs)[i]? =some v'∧(x::xs)[i]? =some x'∧OutR objs v' x' r':=by
     intro r rs' h1 h2;obtain⟨l,g⟩:=Z6f h1;refine⟨by simp [l],fun i r' hr=>?_⟩;cases i with
     |zero=>simp at hr;subst hr;exact⟨v,x,rfl,rfl,h2⟩
     | succ i=>
       obtain⟨v',x',a1,a2,a3⟩:=g i r' (by simpa using hr);exact⟨v',x',by simpa using a1,by simpa using a2,a3⟩
   simp only [Z2b]at h;split at h <;> try contradiction
   · rename_i y rs' h1;cases h;exact cons h1 .d
   · rename_i rs' h1;split at h <;> try contradiction
     · rename_i o;split at h <;> try contradiction
       · rename_i e y ho;cases h;exact cons h1 (.own ho)
       · rename_i y ho;cases h;exact cons h1 (.ice ho)
     · rename_i o;split at h <;> try contradiction
       rename_i cs ho;split at h <;> try contradiction
       rename_i ys hy;cases h;exact cons h1 (.box ho hy)
theorem Z6q {nb:List Nat} {objs:List (OV TK)}:∀ {vs:List (SV TK)},(Z3o nb objs vs).Nodup→∀(i j:Nat) v v' o o',i≠j→vs[i]? =some v→vs[j]? =some v'→Z2E nb objs v=some o→Z2E nb objs v'=some o'→o≠o'
 | [],_,i,j,v,v',o,o',_,h,_,_,_=>by simp at h
 | x ::vs,hn,i,j,v,v',o,o',hne,hi,hj,h1,h2=>by
   have memid:∀ {v:SV TK} {q:Nat} {k:Nat},vs[k]? =some v→Z2E nb objs v=some q→q∈Z3o nb objs vs:=fun h hq=>List.mem_filterMap.2 ⟨_,List.mem_of_getElem? h,hq⟩
   have tail:(Z3o nb objs vs).Nodup:=by
     unfold Z3o at hn ⊢;rw [List.filterMap_cons]at hn;split at hn
     · exact hn
     · exact(List.nodup_cons.1 hn).2
   have headne:∀ {v':SV TK} {q q' k:Nat},Z2E nb objs x=some q→vs[k]? =some v'→Z2E nb objs v'=some q'→q≠q':=by
     intro v' q q' k hq hk hq' he;subst he;unfold Z3o at hn;rw [List.filterMap_cons,hq]at hn;exact(List.nodup_cons.1 hn).1 (memid hk hq')
   cases i with
   | zero=>
     simp at hi;subst hi;cases j with
     |zero=>exact absurd rfl hne
     |succ j=>exact headne h1 (by simpa using hj) h2
   | succ i=>
     cases j with
     |zero=>simp at hj;subst hj;exact fun e=>headne h2 (by simpa using hi) h1 e.symm
     |succ j=>exact Z6q tail i j v v' o o' (by omega) (by simpa using hi) (by simpa using hj) h1 h2
end
def OutK (ρ:List D) (o:RT×TK):Prop:=LOk ρ o.2∧((o.1=.d o.2.t)∨(∃e xs,o.1=.own e o.2.t∧den ρ o.2.t=.slice xs)∨(o.1=.box o.2.t∧∃cs,den ρ o.2.t=.agg cs))
theorem Z5Y {P:Program} {ρ:List D}:∀ {tys:List TypeId} {os:List (RT×TK)} {rk:List RK},Z8 P false tys=some rk→YJ P tys (os.map (·.2))=true→os.length=tys.length→tys.all (fun t=>(rkOf P t).isSome)=true→
   (∀o∈os,OutK ρ o)→os.all Zfd=true→∃ds,RV.all rk (os.map fun o=>RT.den ρ o.1)=some ds∧HasKs (RK.all rk) ds
 | [],[],rk,h,_,_,_,_,_=>by simp [Z8]at h;subst h;exact⟨[],by simp [RV.all],by simp [RK.all,HasKs]⟩
 | [],_::_,_,_,_,h,_,_,_=>by simp at h
 |_::_,[],_,_,_,h,_,_,_=>by simp at h
 | t ::tys,o::os,rk,h,hm,hl,hsm,hall,hnb=>by
   simp only [List.all_cons,Bool.and_eq_true]at hnb;simp only [List.all_cons,Bool.and_eq_true,Option.isSome_iff_exists]at hsm;obtain⟨⟨k,hk⟩,hsm⟩:=hsm;simp only [Z8,hk]at h;split at h <;> try contradiction
   rename_i ks hks;have h:k::ks=rk:=by simpa using h
   subst h;simp only [List.map_cons,YJ,hk,Bool.and_eq_true]at hm;obtain⟨ds,h1,h2⟩:=Z5Y hks hm.2 (by simpa using hl) hsm (fun o ho=>hall o (List.mem_cons_of_mem _ ho)) hnb.2;obtain⟨lk,form⟩:=hall o List.mem_cons_self;have hnob:o.1≠.box o.2.t:=fun e=>by
     obtain⟨o1,o2⟩:=o;simp only at e;subst e;simp [Zfd]at hnb
   have hk1:=Z5v lk hm.1;have key:∃d1,RV.cells k (RT.den ρ o.1)=some d1∧HasKs k.kinds d1:=by
     have hplain:(∃kk,k=.cell kk)∨∃kk,k=.agg kk:=by
       unfold rkOf at hk;split at hk <;> try contradiction
       split at hk
       · cases hk;exact .inr ⟨_,rfl⟩
       · split at hk <;> try contradiction
         cases hk;exact .inl ⟨_,rfl⟩
     rcases hplain with⟨kk,rfl⟩|⟨kk,rfl⟩
     · simp only [RK.kind,denL]at hk1;rcases form with e|⟨e,xs,he,hxs⟩|⟨e,_⟩
       rotate_left 2
       · exact absurd e hnob
       · rw [e];exact⟨_,rfl,by simp only [RK.kinds,HasKs,and_true];exact hk1⟩
       · rw [he];simp only [RT.den,hxs]at hk1 ⊢;exact⟨[.slice xs],by simp [RV.cells],by simp only [RK.kinds,HasKs,and_true];exact hk1⟩
     · simp only [RK.kind,denL]at hk1;obtain⟨cs,hcs,hk3⟩:∃cs,den ρ o.2.t=.agg cs∧HasKs kk cs:=by
         generalize den ρ o.2.t=d at hk1;cases d <;> simp [HasK]at hk1
         exact⟨_,rfl,hk1⟩
       rcases form with e|⟨e,xs,he,hxs⟩|⟨e,_⟩
       rotate_left 2
       · exact absurd e hnob
       · rw [e];refine⟨cs,?_,hk3⟩;simp only [RT.den,RV.cells,hcs];rw [if_pos hk3.length]
       · rw [hcs]at hxs;cases hxs
   obtain⟨d1,e1,e2⟩:=key;refine⟨d1++ds,by simp only [List.map_cons,RV.all,e1,h1],?_⟩;exact e2.append h2
theorem Z3l {ρ:List D}:∀ {back:List RK} {os:List (RT×TK)},JI back os=true→(∀o∈os,OutK ρ o)→os.length=back.length∧∃ds,RV.all back (os.map fun o=>RT.den ρ o.1)=some ds∧HasKs (RK.all back) ds
 | [],[],_,_=>⟨rfl,[],by simp [RV.all],by simp [RK.all,HasKs]⟩
 | [],_::_,h,_=>by simp [JI]at h
 |_::_,[],h,_=>by simp [JI]at h
 | k ::back,(r,x)::os,h,hall=>by
   cases k with
   |cell _=>simp [JI]at h
   |agg _=>simp [JI]at h
   |any=>simp [JI]at h
   | own ks=>
     cases r with
     |d _=>simp [JI]at h
     |box _=>simp [JI]at h
     |own e t=>
     simp only [JI,Bool.and_eq_true,beq_iff_eq]at h;obtain⟨⟨rfl,hk⟩,h⟩:=h;obtain⟨hl,ds,h1,h2⟩:=Z3l h (fun o ho=>hall o (List.mem_cons_of_mem _ ho));obtain⟨lk,form⟩:=hall _ List.mem_cons_self;rcases form with he|⟨e,xs,he,hxs⟩|⟨he,_⟩
     · cases he
     · simp only [RT.own.injEq]at he;obtain⟨rfl,rfl⟩:=he;have hkk:=K.eq_of_beq hk;have:=lk.1;simp only at hxs hkk this;rw [hkk,hxs]at this;exact⟨by simp [hl],.slice xs::ds,by
         have e:RT.den ρ (.own ks.length x.t)=.own ks.length xs:=by simp [RT.den,hxs]
         simp only [List.map_cons,e,RV.all,RV.cells,if_true,h1,List.singleton_append],⟨this,h2⟩⟩
     · cases he
   | box ks=>
     cases r with
     |d _=>simp [JI]at h
     |own _ _=>simp [JI]at h
     |box t=>
     simp only [JI,Bool.and_eq_true]at h;obtain⟨hk,h⟩:=h;obtain⟨hl,ds,h1,h2⟩:=Z3l h (fun o ho=>hall o (List.mem_cons_of_mem _ ho));obtain⟨lk,form⟩:=hall _ List.mem_cons_self;rcases form with he|⟨e,xs,he,hxs⟩|⟨he,cs,hcs⟩
     · cases he
     · cases he
     · simp only [RT.box.injEq]at he;subst he;have hk1:=Z5v lk hk;simp only [denL]at hk1;simp only at hcs;rw [hcs]at hk1;simp only [HasK]at hk1;refine⟨by simp [hl],cs++ds,?_,?_⟩
       · have e:RT.den ρ (.box x.t)=.box cs:=by simp [RT.den,hcs,D.list]
         simp only [List.map_cons,e,RV.all,RV.cells,hk1.length,if_true,h1]
       · exact hk1.append h2
theorem RV.all_append {a b:List RK}:∀ {x y:List RV} {ds es:List D},RV.all a x=some ds→RV.all b y=some es→RV.all (a++b) (x++y)=some (ds++es):=by
 induction a with
 | nil=>
   intro x y ds es h1 h2;cases x with
   |nil=>simp [RV.all]at h1;subst h1;simpa using h2
   |cons v vs=>simp [RV.all]at h1
 | cons k a ih=>
   intro x y ds es h1 h2;cases x with
   |nil=>simp [RV.all]at h1
   | cons v vs=>
     simp only [RV.all]at h1;split at h1 <;> try contradiction
     rename_i p q hp hq;cases h1;simp only [List.cons_append,RV.all,hp,ih hq h2,List.append_assoc]
theorem RK.all_append (a b:List RK):RK.all (a++b)=RK.all a++RK.all b:=by simp [RK.all]
theorem Z3X:∀ {n:Nat} {back:List RK},(Zp n back).length=back.length
 |_,[]=>rfl
 |n,k::back=>by cases k <;> simp [Zp,Z3X]
theorem Z22:∀ {n:Nat} {back:List RK} {i:Nat} {c:SV TK},(Zp n back)[i]? =some c→c=.own (n+i)∨c=.ptr (n+i) 0
 |_,[],i,c,h=>by simp [Zp]at h
 |n,k::back,0,c,h=>by cases k <;> simp [Zp]at h <;> subst h <;> simp
 | n,k::back,i+1,c,h=>by
   have h':(Zp (n+1) back)[i]? =some c:=by cases k <;> simpa [Zp]using h
   have:=Z22 h';rw [show n+1+i=n+(i+1) by omega]at this;exact this
section
variable {E:Env} {ρ:List D} {σ:Names} {m:Mem} {a:Act} {w:World}
structure ResOut (E:Env) (ρ:List D) (σ:Names) (w:World) (tys:List TypeId) (back:List RK) (rs:List RT) (us ext:List Value) (m':Mem):Prop where
 rep:RepRs m' w (fun b=>E.w0.heap.size≤b∨E.mine b) (rs.map (RT.den ρ)) (us++ext)
 le:E.m0.le m'
 mem:MemOk m' w
 old:∀b,b < E.w0.heap.size→¬E.mine b→m' b=E.m0 b
 typed:∀rk,Z8 E.P false tys=some rk→∃ds,RV.all (rk++back) (rs.map (RT.den ρ))=some ds∧HasKs (RK.all (rk++back)) ds
theorem Z2a {st:St TK} {fn:Func} {rs:List RT} {back:List RK} {backs:List (SV TK)} {ext:List Value} {tys:List TypeId} (hf:Fits E σ m (W0 ρ st) a w) (hok:st.Ok ρ) (h:JZ E.P st fn.results.toList tys backs back=some rs)
   (xl:ext.length=backs.length) (hext:∀(i:Nat) c v,backs[i]? =some c→ext[i]? =some v→RS σ m ρ c v) (hbk:∀c∈backs,SV.Ok ρ c):
   ∃us m',(results fn a.tmps).run E.P w=.ok (Z2A us) w∧ResOut E ρ σ w tys back rs us ext m':=by
 unfold JZ at h;split at h <;> try contradiction
 rename_i svs hvs;simp only at h;split at h <;> try contradiction
 rename_i hback;simp only [Bool.not_eq_true',Bool.not_eq_false]at hback;split at h <;> try contradiction
 rename_i xs objs hfr;split at h <;> try contradiction
 rename_i hnub;split at h <;> try contradiction
 rename_i os hos;split at h <;> try contradiction
 rename_i hty;cases h;simp only [Bool.and_eq_true,decide_eq_true_eq]at hty;obtain⟨⟨⟨⟨ty1,ty0⟩,ty2⟩,tynb⟩,ty3⟩:=hty;obtain⟨vals,r1,l1,q1,k1⟩:=Z1L hf hok hvs;have q1':∀(i:Nat) c v,(svs++backs)[i]? =some c→(vals++ext)[i]? =some v→RS σ m ρ c v:=by
   intro i c v hc hv;rw [List.getElem?_append]at hc hv;rw [l1]at hv;split at hc
   · rename_i hi;rw [if_pos hi]at hv;exact q1 i c v hc hv
   · rename_i hi;rw [if_neg hi]at hv;exact hext _ c v hc hv
 have k1':∀c∈svs++backs,SV.Ok ρ c:=by
   intro c hc;rcases List.mem_append.1 hc with hc|hc
   · exact k1 c hc
   · exact hbk c hc
 obtain⟨m1,f1,l2,q2⟩:=Z5l (ts:=st.tmps) (by exact hf) hok.objs hfr q1' (by simp [l1,xl]) k1';obtain⟨l3,q3⟩:=Z6f hos;obtain⟨hnd,_⟩:=Z6w hnub;have hF:=f1.fits;have objof:∀ {o:Nat} {ov:OV TK},objs[o]? =some ov→RepO σ m1 w o (ov.map (denL ρ))∧OV.Ok ρ ov:=fun {o ov} ho=>
   ⟨hF.objs o _ (by simp [W0,St.map,ho]),f1.ok _ (List.mem_of_getElem? ho)⟩
 have hlen:(vals++ext).length=os.length:=by rw [l3];simp [l1,xl]
 have boxd:∀ {cs:List (SV TK)} {ys:List TK},OV.Ok ρ (.box cs)→allD cs=some ys→LOk ρ ⟨T.list (ys.map (·.t)),.agg (ys.map (·.k))⟩∧den ρ (T.list (ys.map (·.t)))=.agg (ys.map (denL ρ)):=by
   intro cs ys ko hy;have hys:∀y∈ys,LOk ρ y:=by
     intro y hy';cases ko with
     | box hh=>
       have:=hh (.d y) (by rw [Z3Z hy];exact List.mem_map_of_mem hy');cases this;assumption
   have e:(ys.map (·.t)).map (den ρ)=ys.map (denL ρ):=by simp [denL]
   refine⟨LOk.list ?_ ?_,by rw [W9,e]⟩
   · clear hy ko;induction ys with
     |nil=>trivial
     |cons y ys ih=>exact⟨(hys y List.mem_cons_self).1,ih (fun z hz=>hys z (List.mem_cons_of_mem _ hz)) (by simp [denL])⟩
   · intro t ht rs;obtain⟨y,hy',rfl⟩:=List.mem_map.1 ht;exact(hys y hy').2 rs
 have mine:∀ {i:Nat} {v:SV TK} {x:Option TK} {o0:RT×TK} {u:Value} {b:Nat},(svs++backs)[i]? =some v→xs[i]? =some x→OutR objs v x o0→RS σ m ρ v u→(RT.den ρ o0.1).isOwn=true→blk u=some b→
     ∃q ov,Z2E (Z3V backs) objs v=some q∧(W0 ρ ⟨st.tmps,objs⟩).objs[q]? =some ov∧ov.alive=true∧(σ q).bind blk=some b:=by
   intro i v x o0 u b hv hx ho hrs hown hb;cases ho with
   |d=>simp [RT.den,RV.isOwn]at hown
   |ice _=>simp [RT.den,RV.isOwn]at hown
   | own hob=>
     rename_i o e y;simp only [RS,SV.map]at hrs;cases hrs with
     |own hσ=>exact⟨o,.arr e (denL ρ y),by simp [Z2E,hob],by simp [W0,St.map,hob,OV.map],rfl,by simp [hσ,hb]⟩
   | box hob hy=>
     rename_i o cs ys;simp only [RS,SV.map]at hrs;cases hrs with
     | ptr hσ=>
       have hlt:=Z1N hfr i o hx hv;refine⟨o,OV.map (denL ρ) (.box cs),by simp only [Z2E,hlt,if_true,hob,hy,Option.isSome_some],by simp [W0,St.map,hob],rfl,?_⟩;simp only [hσ,Option.bind_some];simpa [blk]using hb
 have hK:∀o∈os,OutK ρ o:=by
   intro o ho;obtain⟨i,hi⟩:=List.mem_iff_getElem?.1 ho;obtain⟨v,x,hv,hx,hor⟩:=q3 i o hi;have hvl:i < (vals++ext).length:=by rw [hlen];exact(List.getElem?_eq_some_iff.1 hi).1
   have hu:=List.getElem?_eq_getElem hvl;cases hor with
   |d=>exact⟨(q2 i _ _ hx hu).1,.inl rfl⟩
   | own hob=>
     rename_i o e y;obtain⟨ro,ko⟩:=objof hob;have ky:LOk ρ y:=by cases ko;assumption
     refine⟨ky,.inr (.inl ⟨e,?_⟩)⟩;simp only [OV.map,denL]at ro;generalize den ρ y.t=d at ro ⊢;cases ro with
     |none hs=>exact⟨_,rfl,rfl⟩
     |arr hs=>exact⟨_,rfl,rfl⟩
   | ice hob=>
     obtain⟨ro,ko⟩:=objof hob;exact⟨by cases ko;assumption,.inl rfl⟩
   | box hob hy=>
     rename_i o cs ys;obtain⟨ro,ko⟩:=objof hob;obtain⟨g1,g2⟩:=boxd ko hy;exact⟨g1,.inr (.inr ⟨rfl,_,g2⟩)⟩
 refine⟨vals,m1,Z3d r1,⟨by simp [hlen],?_,?_⟩,hF.le,hF.mem,fun b hb hm=>hF.old b hb hm,?_⟩
 · intro i r u hr hu;simp only [List.getElem?_map,Option.map_eq_some_iff]at hr;obtain⟨rt,⟨o0,ho0,rfl⟩,rfl⟩:=hr;obtain⟨v,x,hv,hx,ho⟩:=q3 i o0 ho0;have hrs:=q1' i v u hv hu;cases ho with
   | d=>
     obtain⟨_,g2⟩:=q2 i _ u hx hu;exact .d g2
   | own hob=>
     rename_i o e y;simp only [RS,SV.map]at hrs;cases hrs with
     |own hσ=>
     obtain⟨ro,ko⟩:=objof hob;have hal:(W0 ρ ⟨st.tmps,objs⟩).objs[o]? =some (.arr e (denL ρ y)):=by simp [W0,St.map,hob,OV.map]
     simp only [OV.map]at ro;generalize hd:denL ρ y=d at ro hal;have hd':den ρ y.t=d:=hd;simp only [RT.den,hd'];cases ro with
     |none hs=>rw [hs]at hσ;cases hσ;exact .none
     | arr hs hb h0 hc hcc hcap hsz he hv2=>
       rw [hs]at hσ;cases hσ;rename_i xs' b c' arr bt;obtain⟨s1,s2⟩:=hF.sep o _ b hal rfl (by simp only [hs,Option.bind_some];exact Z9 h0);exact .own s2 s1 hb h0 hc hcc hcap hsz he hv2
   | ice hob=>
     rename_i o y;simp only [RS,SV.map]at hrs;cases hrs with
     |own hσ=>
     obtain⟨ro,ko⟩:=objof hob;simp only [OV.map]at ro;cases ro with
     |farr hs hrep=>rw [hs]at hσ;cases hσ;exact .d hrep
   | box hob hy=>
     rename_i o cs ys;simp only [RS,SV.map]at hrs;cases hrs with
     |ptr hσ=>
     obtain⟨ro,ko⟩:=objof hob;obtain⟨g1,g2⟩:=boxd ko hy;have hal:(W0 ρ ⟨st.tmps,objs⟩).objs[o]? =some (OV.map (denL ρ) (.box cs)):=by simp [W0,St.map,hob]
     simp only [OV.map]at ro;have hcs:=Z3Z hy;cases ro with
     | box hs hb hsz hv2=>
       rw [hs]at hσ;cases hσ;rename_i b' arr bt;obtain⟨s1,s2⟩:=hF.sep o _ b' hal rfl (by rw [hs];rfl);simp only [RT.den,g2,D.list];refine .box s2 s1 hb (by simpa [hcs]using hsz) fun j d u hd hu=>?_
       simp only [List.getElem?_map,Option.map_eq_some_iff]at hd;obtain⟨y,hy',rfl⟩:=hd;have:=hv2 j (SV.map (denL ρ) (.d y)) u (by simp [hcs,hy']) hu;simp only [SV.map]at this;cases this;assumption
 · intro i j r r' u u' b hne hr hr' hu hu' hown hown' hb hb';simp only [List.getElem?_map,Option.map_eq_some_iff]at hr hr';obtain⟨rt,⟨o0,ho0,rfl⟩,rfl⟩:=hr;obtain⟨rt',⟨o0',ho0',rfl⟩,rfl⟩:=hr';obtain⟨v,x,hv,hx,ho⟩:=q3 i o0 ho0;obtain⟨v',x',hv',hx',ho'⟩:=q3 j o0' ho0';have hrs:=q1' i v u hv hu;have hrs':=q1' j v' u' hv' hu';obtain⟨p,op,e1,e2,e3,e4⟩:=mine hv hx ho hrs hown hb;obtain⟨p',op',e1',e2',e3',e4'⟩:=mine hv' hx' ho' hrs' hown' hb';exact Z6q hnd i j v v' p p' hne hv hv' e1 e1' (hF.inj p p' _ _ b e2 e2' e3 e3' e4 e4')
 · intro rk hrk;have hsl:svs.length≤os.length:=by rw [l3];simp
   obtain⟨d1,e1,e2⟩:=Z5Y (os:=os.take svs.length) hrk ty2 (by rw [List.length_take,Nat.min_eq_left hsl,ty1]) ty0 (fun o ho=>hK o (List.mem_of_mem_take ho)) tynb;obtain⟨_,d2,e3,e4⟩:=Z3l ty3 (fun o ho=>hK o (List.mem_of_mem_drop ho));refine⟨d1++d2,?_,by rw [RK.all_append];exact e2.append e4⟩;have:=RV.all_append e1 e3;rw [←List.map_append,List.take_append_drop]at this;rw [List.map_map];exact this
end
theorem Wt:∀ {pk:List PK} {n o:Nat},(Z2 n o pk).length=pk.length
 | [],_,_=>rfl
 | .cell k::pk,n,o=>by simp [Z2,Wt]
 | .agg k::pk,n,o=>by simp [Z2,Wt]
 | .any::pk,n,o=>by simp [Z2,Wt]
 | .own k::pk,n,o=>by simp [Z2,Wt]
 | .box k::pk,n,o=>by simp [Z2,Wt]
theorem JO {σ:Names} {m:Mem}:∀ {pk:List PK} {args:List D} {ρ0 ρ more:List D} {vs:List Value} {n o:Nat},pk.all PK.plain=true→Jr pk args=some ρ→HasKs (Y1 pk) ρ→ρ0.length=n→vs.length=args.length→
   (∀(i:Nat) d v,args[i]? =some d→vs[i]? =some v→RepD m d v)→
   (Z2 n o pk).length=vs.length∧(∀(i:Nat) s v,(Z2 n o pk)[i]? =some s→vs[i]? =some v→RS σ m (ρ0++ρ++more) s v)∧∀s∈Z2 n o pk,SV.Ok (ρ0++ρ++more) s
 | [],[],ρ0,ρ,more,vs,n,o,hp,h,hk,hn,hl,hr=>by
   cases vs with
   |nil=>exact⟨rfl,by simp [Z2],by simp [Z2]⟩
   |cons v vs=>simp at hl
 | [],_::_,_,_,_,_,_,_,_,h,_,_,_,_=>by simp [Jr]at h
 | .cell k::pk,[],_,_,_,_,_,_,_,h,_,_,_,_=>by simp [Jr]at h
 | .agg k::pk,[],_,_,_,_,_,_,_,h,_,_,_,_=>by simp [Jr]at h
 | .own k::pk,_,_,_,_,_,_,_,hp,_,_,_,_,_=>by simp [PK.plain]at hp
 | .box k::pk,_,_,_,_,_,_,_,hp,_,_,_,_,_=>by simp [PK.plain]at hp
 | .any::pk,[],_,_,_,_,_,_,_,h,_,_,_,_=>by simp [Jr]at h
 | .any::pk,d::args,ρ0,ρ,more,vs,n,o,hp,h,hk,hn,hl,hr=>by
   cases vs with
   |nil=>simp at hl
   |cons v vs=>
   simp only [Jr]at h;have hkk:Y1 (.any::pk)=Y1 pk:=rfl;rw [hkk]at hk;obtain⟨l,r,oo⟩:=JO (σ:=σ) (ρ0:=ρ0) (more:=more) (vs:=vs) (n:=n) (o:=o) (by simpa [PK.plain]using hp) h hk hn (by simpa using hl) (fun i d v h1 h2=>hr (i+1) d v (by simpa using h1) (by simpa using h2));refine⟨by simp [Z2,PK.kinds,l],?_,?_⟩
   · intro i s u hs hu;cases i with
     |zero=>simp [Z2,Zm]at hs hu;subst hs hu;exact .any
     |succ i=>exact r i s u (by simpa [Z2,PK.kinds]using hs) (by simpa using hu)
   · intro s hs;simp only [Z2,Zm,List.mem_cons]at hs;rcases hs with rfl|hs
     · exact .any
     · exact oo s (by simpa [PK.kinds]using hs)
 | .cell k::pk,d::args,ρ0,ρ,more,vs,n,o,hp,h,hk,hn,hl,hr=>by
   cases vs with
   |nil=>simp at hl
   |cons v vs=>
   simp only [Jr,Option.map_eq_some_iff]at h;obtain⟨ρ',h',rfl⟩:=h;have hkk:Y1 (.cell k::pk)=k::Y1 pk:=rfl;rw [hkk]at hk;simp only [HasKs]at hk;obtain⟨l,r,oo⟩:=JO (σ:=σ) (ρ0:=ρ0++[d]) (more:=more) (vs:=vs) (n:=n+1) (o:=o) (by simpa [PK.plain]using hp) h' hk.2 (by simp [hn]) (by simpa using hl) (fun i d v h1 h2=>hr (i+1) d v (by simpa using h1) (by simpa using h2));have hvar:(ρ0++d::ρ'++more)[n]? =some d:=by rw [←hn];simp
   have e:ρ0++[d]++ρ'++more=ρ0++d::ρ'++more:=by simp
   rw [e]at r oo;refine⟨by simp [Z2,PK.kinds,l],?_,?_⟩
   · intro i s u hs hu;cases i with
     | zero=>
       simp [Z2,Zm]at hs hu;subst hs hu;refine .d ?_;rw [Zx hvar];exact hr 0 _ _ rfl rfl
     |succ i=>exact r i s u (by simpa [Z2,PK.kinds]using hs) (by simpa using hu)
   · intro s hs;simp only [Z2,Zm,List.mem_cons]at hs;rcases hs with rfl|hs
     · exact .d (.var hvar hk.1)
     · exact oo s (by simpa [PK.kinds]using hs)
 | .agg ks::pk,d::args,ρ0,ρ,more,vs,n,o,hp,h,hk,hn,hl,hr=>by
   cases vs with
   |nil=>simp at hl
   |cons v vs=>
   cases d <;> simp only [Jr]at h <;> try (cases h;done)
   rename_i cs;split at h <;> try contradiction
   rename_i hlen;simp only [Option.map_eq_some_iff]at h;obtain⟨ρ',h',rfl⟩:=h;have hkk:Y1 (.agg ks::pk)=ks++Y1 pk:=rfl;rw [hkk]at hk;obtain⟨k1,k2⟩:=HasKs.unappend hlen hk;obtain⟨l,r,oo⟩:=JO (σ:=σ) (ρ0:=ρ0++cs) (more:=more) (vs:=vs) (n:=n+ks.length) (o:=o) (by simpa [PK.plain]using hp) h' k2 (by simp [hn,hlen]) (by simpa using hl) (fun i d v h1 h2=>hr (i+1) d v (by simpa using h1) (by simpa using h2));have e:ρ0++cs++ρ'++more=ρ0++(cs++ρ')++more:=by simp
   rw [e]at r oo;have hV:Vars (ρ0++(cs++ρ')++more) n cs:=by
     intro i d hd;have hlt:=(List.getElem?_eq_some_iff.1 hd).1;rw [List.append_assoc,List.getElem?_append_right (by omega), ←hn,Nat.add_sub_cancel_left,List.append_assoc,List.getElem?_append_left hlt];exact hd
   obtain⟨c1,c2,c3⟩:=Jm hV k1;refine⟨by simp [Z2,PK.kinds,l],?_,?_⟩
   · intro i s u hs hu;cases i with
     | zero=>
       simp [Z2,Zm]at hs hu;subst hs hu;have hd:=hr 0 _ _ rfl rfl;cases hd with
       |agg _ arr hsz hvv=>
       simp only [RS,SV.map,SV.mapL_eq,List.map_map];refine .agg (by simp [hsz,c1]) fun i c v hc hu=>?_
       simp only [List.getElem?_map,Option.map_eq_some_iff]at hc;obtain⟨y,hy,rfl⟩:=hc;have hlt:i < cs.length:=by rw [←c1];exact(List.getElem?_eq_some_iff.1 hy).1
       refine .d ?_;rw [c3 i y _ hy (List.getElem?_eq_getElem hlt)];exact hvv i _ v (List.getElem?_eq_getElem hlt) hu
     |succ i=>exact r i s u (by simpa [Z2,PK.kinds]using hs) (by simpa using hu)
   · intro s hs;simp only [Z2,Zm,List.mem_cons]at hs;rcases hs with rfl|hs
     · exact .agg fun c hc=>by obtain⟨y,hy,rfl⟩:=List.mem_map.1 hc;exact .d (c2 y hy)
     · exact oo s (by simpa [PK.kinds]using hs)
def ZgQ (P:Program) (md:Mode) (f:FuncId) (pk:List PK):Spec:=fun args K=>
 ∃ρ,Jr pk args=some ρ∧HasKs (Y1 pk) ρ∧denR P (fun _ rs=>K rs) (fun _ _ _ _=>False) (sxFn P md f pk) .none ρ
section
variable {E:Env} {ρ:List D} {σ:Names} {m:Mem} {st:St TK} {a:Act} {w:World}
theorem Fits.retmp {sd:St D} (h:Fits E σ m sd a w) {t:Nat} {s:SV D} (hs:∀v,a.tmps[t]? =some v→RepS σ m s v):Fits E σ m ⟨sd.tmps.set t s,sd.objs⟩ a w:=
 { sz:=by simp [h.sz]
   tm:=by
     intro i s' v' h1 h2;simp only at h1;rcases Y0 h1 with⟨rfl,rfl,_⟩|⟨hne,h1⟩
     · exact hs v' h2
     · exact h.tm i s' v' h1 h2
   dfr:=h.dfr,yld:=h.yld,sav:=h.sav,mem:=h.mem,le:=h.le,objs:=h.objs,sep:=h.sep,inj:=h.inj,dom:=h.dom,grow:=h.grow,keep:=h.keep,old:=h.old,os:=h.os,tape:=h.tape,output:=h.output,drawn:=h.drawn}
theorem Z70 {t:Nat} {s:SV TK} {objs:List (OV TK)}:W0 ρ ⟨st.tmps.set t s,objs⟩=⟨(W0 ρ ⟨st.tmps,objs⟩).tmps.set t (SV.map (denL ρ) s),(W0 ρ ⟨st.tmps,objs⟩).objs⟩:=by
 simp [W0,St.map,List.map_set]
theorem Z4g {t:Nat} {s:SV TK} (hok:∀v∈st.tmps,SV.Ok ρ v) (hs:SV.Ok ρ s):∀v∈st.tmps.set t s,SV.Ok ρ v:=by
 intro v hv;obtain⟨k,hk,rfl⟩:=List.mem_iff_getElem.1 hv;have:=List.getElem?_eq_getElem hk;rcases Y0 this with⟨_,h,_⟩|⟨_,h⟩
 · rw [h];exact hs
 · exact hok _ (List.mem_of_getElem? h)
theorem Zbk (hf:Fits E σ m (W0 ρ st) a w) (hok:st.Ok ρ) {own:Bool} (r:ResultVar) (ty:TypeId):∃σ',σ.le σ'∧Fits E σ' m (W0 ρ (Z8z E.P own st r ty)) a w∧(Z8z E.P own st r ty).Ok ρ:=by
 have hg:∀c,(none:Option T)=some c→den ρ c=.bool true:=fun c h=>by cases h
 have same:∃σ',σ.le σ'∧Fits E σ' m (W0 ρ st) a w∧st.Ok ρ:=⟨σ,Names.le_refl σ,hf,hok⟩
 unfold Z8z;split
 · rename_i t;have htmp:∀s,st.tmps.getD t .any=s→s≠.any→∀v,a.tmps[t]? =some v→RS σ m ρ s v:=by
     intro s hs hne v hv;have hlt:t < st.tmps.length:=by
       rcases Nat.lt_or_ge t st.tmps.length with h|h
       · exact h
       · rw [List.getD_eq_getElem?_getD,List.getElem?_eq_none h]at hs;exact absurd hs.symm hne
     refine hf.tm t _ v ?_ hv;rw [List.getD_eq_getElem?_getD,List.getElem?_eq_getElem hlt]at hs;have hs:st.tmps[t]=s:=hs;simp [W0,St.map,hlt,hs]
   split
   · rename_i o hto;split
     · rename_i q e h ho;split
       · rename_i e' z hq;split
         · rename_i hc;simp only [Bool.and_eq_true,beq_iff_eq]at hc;obtain⟨rfl,hsk⟩:=hc;obtain⟨xs,ad,cp,hxs,hσ,hxc,hcap,kz,hmem⟩:=Z78 hf hok hg hq;obtain⟨l1,n1,nn1,cc1,ad1,d1,d2,s1,s2,i1,i2,i3,k1,k2⟩:=Z1A hf hok hg ho;rw [hσ]at s1;cases s1;simp only [den,D.int.injEq,true_and]at d1;have hl0:l1=0:=by omega
           subst hl0;simp only at d2 k2;rw [WE hf hok hg]at s2;have hle2:σ.le (σ.add st.objs.length (.slice ad n1 cp)):=by
             have:=Names.le_add hf.dom (Nat.le_refl _) (.slice ad n1 cp);rw [Z6]at this;exact this
           obtain⟨ks,hks⟩:=Option.isSome_iff_exists.1 hsk;have hzk:z.k=.slice ks:=by
             cases hzk:z.k <;> rw [hzk]at hks <;> simp [Za3]at hks
             rw [hks]
           have dnew:den ρ (.sub z.t (.int .i64 0) h)=.slice (xs.take n1):=by simp [den,hxs,d2,D.sub]
           have hlen:(xs.take n1).length=n1:=by simp;omega
           have knew:LOk ρ ⟨.sub z.t (.int .i64 0) h,z.k⟩:=LOk.sub (.inr ⟨ks,hzk⟩) kz (.int .i64 0 (by decide)) k2;have hq':(W0 ρ st).objs[q]? =some (OV.map (denL ρ) (.arr e' z)):=by simp [W0,St.map,hq]
           have hA :=hf.moveObj (w':=w) (v0:=.slice ad n1 cp) (ov':=OV.map (denL ρ) (.arr e' ⟨.sub z.t (.int .i64 0) h,z.k⟩)) (row:=none) hq' rfl ⟨rfl,rfl,rfl,Nat.le_refl _,fun _ _ _=>rfl,Nat.le_refl _⟩ (by simp) (by
               rw [Z6];simp only [OV.map,denL,dnew];rcases hmem with⟨hc0,hx0⟩|⟨hpos,hcm,b,arr,bt,had,hb,hsz,he,hv⟩
               · subst hc0 hx0;have:n1=0:=by simp at i2;exact i2
                 subst this;exact .none (J1 _ _ _)
               · subst had;exact .arr (by rw [J1,hlen]) hb hpos (by omega) hcm (by omega) hsz (fun x hx=>he x (List.mem_of_mem_take hx)) (fun i j x d v hi hj hu=>by
                   have hlt:=(List.getElem?_eq_some_iff.1 hi).1;rw [hlen]at hlt;rw [List.getElem?_take,if_pos hlt]at hi;exact hv i j x d v hi hj hu))
             (fun b hb=>by left;rw [hσ];simp only [Option.bind_some];revert hb;cases ad <;> simp [blk]) rfl
           rw [Z6]at hA;have hB:=hA.retmp (t:=t) (s:=.own st.objs.length) (fun v hv=>by
             have:=htmp _ hto (by intro e;cases e) v hv;rw [Z0I hf hok hg this s2];exact .own (J1 _ _ _))
           refine⟨σ.add st.objs.length (.slice ad n1 cp),hle2,?_,⟨Z4g hok.tmps .own,?_⟩⟩
           · have e1:=Zf (ρ:=ρ) (st:=⟨st.tmps,st.objs.set q .dead⟩) (.arr e' ⟨.sub z.t (.int .i64 0) h,z.k⟩);dsimp only at e1;rw [Z70,e1,Ye];exact hB
           · intro p hp;rcases List.mem_append.1 hp with hp|hp
             · obtain⟨k,hk',rfl⟩:=List.mem_iff_getElem.1 hp;have:=List.getElem?_eq_getElem hk';rcases Y0 this with⟨_,h,_⟩|⟨_,h⟩
               · rw [h];exact .dead
               · exact hok.objs _ (List.mem_of_getElem? h)
             · simp at hp;subst hp;exact .arr knew
         · exact same
       · exact same
     · exact same
   · rename_i hto;split
     · split
       · rename_i ks hrk;have hA:=hf.newObj (v0:=.slice none 0 0) (ov:=OV.map (denL ρ) (.arr ks.length ⟨.nils,.slice ks⟩)) (.none (J1 _ _ _)) (fun b hb=>by simp [Zn]at hb) (by simp [OV.map]) (by simp [OV.map]);rw [Z6]at hA;have hB:=hA.retmp (t:=t) (s:=.own st.objs.length) (fun v hv=>by
           have:=htmp _ hto (by intro e;cases e) v hv;simp only [RS,SV.map]at this;cases this;exact .own (J1 _ _ _))
         have hle2:σ.le (σ.add st.objs.length (.slice none 0 0)):=by
           have:=Names.le_add hf.dom (Nat.le_refl _) (.slice none 0 0);rw [Z6]at this;exact this
         refine⟨σ.add st.objs.length (.slice none 0 0),hle2,?_,⟨Z4g hok.tmps .own,?_⟩⟩
         · rw [Z70,Zf];exact hB
         · intro p hp;rcases List.mem_append.1 hp with hp|hp
           · exact hok.objs p hp
           · simp at hp;subst hp;exact .arr (.nils ks)
       · exact same
     · exact same
   · exact same
 · exact same
theorem Z3R {own:Bool}:∀(rs:List ResultVar) (tys:List TypeId) {σ:Names} {st:St TK},Fits E σ m (W0 ρ st) a w→st.Ok ρ→∃σ',σ.le σ'∧Fits E σ' m (W0 ρ (Z50 E.P own st rs tys)) a w∧(Z50 E.P own st rs tys).Ok ρ
 | [],_,σ,st,h,k=>⟨σ,Names.le_refl σ,h,k⟩
 |_::_,[],σ,st,h,k=>⟨σ,Names.le_refl σ,h,k⟩
 | r::rs,t::ts,σ,st,h,k=>by
   obtain⟨σ1,l1,h1,k1⟩:=Zbk h k (own:=own) r t;obtain⟨σ2,l2,h2,k2⟩:=Z3R rs ts h1 k1;exact⟨σ2,fun o v h=>l2 o v (l1 o v h),h2,k2⟩
end
section
variable {E:Env} {F:Option Nat→List RV→Prop} {md:Mode}
theorem Post.re {E:Env} {Kd:Ags→List D→XExit→XS→Prop} {e:Exit} {a:Act} {w:World} {B:Base} (hB:E.To B) (h:Post (E.re B) Kd e a w):Post E Kd e a w:=by
 cases e with
 |normal=>exact Ends.re hB h
 |exit i=>exact Ends.re hB h
 |ret=>exact Ends.re hB h
 |goto l=>exact h
 |panic c=>exact h
 |outgrown=>exact h
theorem Z6m {P:Program} {Kd:Ags→List D→XExit→XS→Prop} {k:XExit→XS→R} {e:Exit} {a:Act} {w:World} (h:Post E (fun ags ρ e xs=>denR P F Kd (k e xs) ags ρ) e a w):
   (∃B ags ρ xs σ m,e=.normal∧E.To B∧Good (E.re B) ags∧denR P F Kd (k .norm xs) ags ρ∧Fits (E.re B) σ m (W0 ρ xs.st) a w∧XOk ρ xs)∨
   (∃i B ags ρ xs σ m,e=.exit i∧E.To B∧Good (E.re B) ags∧denR P F Kd (k (.exit i) xs) ags ρ∧Fits (E.re B) σ m (W0 ρ xs.st) a w∧XOk ρ xs)∨
   (∃B ags ρ xs σ m,e=.ret∧E.To B∧Good (E.re B) ags∧denR P F Kd (k .ret xs) ags ρ∧Fits (E.re B) σ m (W0 ρ xs.st) a w∧XOk ρ xs):=by
 cases e with
 |normal=>obtain⟨B,ags,ρ,xs,σ,m,hB,hY,h1,h2,h3⟩:=h;exact .inl ⟨B,ags,ρ,xs,σ,m,rfl,hB,hY,h1,h2,h3⟩
 |exit i=>obtain⟨B,ags,ρ,xs,σ,m,hB,hY,h1,h2,h3⟩:=h;exact .inr (.inl ⟨i,B,ags,ρ,xs,σ,m,rfl,hB,hY,h1,h2,h3⟩)
 |ret=>obtain⟨B,ags,ρ,xs,σ,m,hB,hY,h1,h2,h3⟩:=h;exact .inr (.inr ⟨B,ags,ρ,xs,σ,m,rfl,hB,hY,h1,h2,h3⟩)
 |goto l=>exact h.elim
 |panic c=>exact h.elim
 |outgrown=>exact h.elim
end
theorem Z77 {σ:Names} {m:Mem} {ρ:List D}:∀ {ps:List Tmp} {svs:List (SV TK)} {vs:List Value} {l:List (SV TK)} {arr:Array Value},arr.size=l.length→svs.length=ps.length→vs.length=ps.length→
   (∀(i:Nat) s v,l[i]? =some s→arr[i]? =some v→RS σ m ρ s v)→(∀(i:Nat) s v,svs[i]? =some s→vs[i]? =some v→RS σ m ρ s v)→(∀s∈l,SV.Ok ρ s)→(∀s∈svs,SV.Ok ρ s)→
   ((ps.zip vs).foldl (fun t (x:Tmp×Value)=>t.setIfInBounds x.1 x.2) arr).size=(ZY ps svs l).length∧
   (∀(i:Nat) s v,(ZY ps svs l)[i]? =some s→((ps.zip vs).foldl (fun t (x:Tmp×Value)=>t.setIfInBounds x.1 x.2) arr)[i]? =some v→RS σ m ρ s v)∧∀s∈ZY ps svs l,SV.Ok ρ s
 | [],svs,vs,l,arr,h1,h2,h3,h4,h5,h6,h7=>by
   cases svs with
   |cons s svs=>simp at h2
   |nil=>exact⟨by simpa [ZY]using h1,by simpa [ZY]using h4,by simpa [ZY]using h6⟩
 | p ::ps,svs,vs,l,arr,h1,h2,h3,h4,h5,h6,h7=>by
   cases svs with
   |nil=>simp at h2
   |cons s svs=>
   cases vs with
   |nil=>simp at h3
   |cons v vs=>
   simp only [List.zip_cons_cons,List.foldl_cons,ZY];refine Z77 (l:=l.set p s) (by simp [h1]) (by simpa using h2) (by simpa using h3) ?_ (fun i s' v' a b=>h5 (i+1) s' v' (by simpa using a) (by simpa using b)) ?_ (fun s' hs'=>h7 s' (List.mem_cons_of_mem _ hs'))
   · intro i s' v' a b;rcases Y0 a with⟨rfl,rfl,_⟩|⟨hne,a⟩
     · rcases Yc b with⟨_,rfl,_⟩|⟨hne,_⟩
       · exact h5 0 _ _ rfl rfl
       · exact absurd rfl hne
     · rcases Yc b with⟨he,_⟩|⟨_,b⟩
       · exact absurd he hne
       · exact h4 i s' v' a b
   · intro s' hs';rcases List.mem_or_eq_of_mem_set hs' with hs'|rfl
     · exact h6 s' hs'
     · exact h7 _ List.mem_cons_self
theorem Zcj {objs:List (OV TK)} (h:Z1f objs=true) {o:Nat} {cs:List (SV TK)}:objs[o]? ≠some (.sav cs):=by
 intro ho;have:=List.all_eq_true.1 h _ (List.mem_of_getElem? ho);simp at this
theorem Fits.resav {E:Env} {ρ:List D} {st:St TK} {σ:Names} {m:Mem} {a:Act} {w:World} (h:Fits E σ m (W0 ρ st) a w) (hs:Z1f st.objs=true) (E':Env) (e1:E'.toBase=E.toBase) (e2:E'.Y.l=E.Y.l):Fits E' σ m (W0 ρ st) a w:=by
 have b0:E'.w0=E.w0:=by rw [←show E'.toBase.w0=E'.w0 from rfl,e1]
 have b1:E'.m0=E.m0:=by rw [←show E'.toBase.m0=E'.m0 from rfl,e1]
 have b2:E'.mine=E.mine:=by rw [←show E'.toBase.mine=E'.mine from rfl,e1]
 exact { sz:=h.sz,tm:=h.tm
         dfr:=by
           obtain⟨Ds,h1,h2,h3⟩:=h.dfr;exact⟨Ds,h1,h2,fun D hD=>by rw [b0,b2];exact h3 D hD⟩
         yld:=fun o ho=>by rw [e2];exact h.yld o ho
         sav:=fun o cs ho=>by
           simp only [W0,St.map,List.getElem?_map,Option.map_eq_some_iff]at ho;obtain⟨ov,h1,h2⟩:=ho;cases ov <;> simp [OV.map]at h2
           exact absurd h1 (Zcj hs)
         mem:=h.mem,le:=by rw [b1];exact h.le,objs:=h.objs,sep:=by rw [b0,b2];exact h.sep,inj:=h.inj,dom:=h.dom,grow:=by rw [b0];exact h.grow
         keep:=by rw [b0,b2];exact h.keep,old:=by rw [b0,b1,b2];exact h.old,os:=by rw [b0];exact h.os,tape:=by rw [b0];exact h.tape,output:=by rw [b0];exact h.output,drawn:=by rw [b0];exact h.drawn}
structure ItIn (E:Env) (ρ:List D) (st:St TK) (a:Act) (l d:Nat) (O:Nat→Prop) (m:Mem) (W:World) (σ:Names) (B:Base):Prop where
 to:E.To B
 fits:Fits (E.re B) σ m (W0 ρ st) a W
 apart:∀b,WY σ (W0 ρ st) b→¬O b
 mine:∀b,(O b∨b=l∨b=d)→B.w0.heap.size≤b∨B.mine b
structure ItCom (l d:Nat) (O:Nat→Prop) (m:Mem) (W:World):Prop where
 O:∀b,O b→l < b∧d < b∧b < W.heap.size
 ml:m l=none
 md:m d=none
 hd:W.heap[d]? =some (.deferred (some []))
theorem ItIn.step {E:Env} {ρ:List D} {st:St TK} {a:Act} {l d:Nat} {O O':Nat→Prop} {m m':Mem} {W W':World} {σ:Names} {B:Base} (h:ItIn E ρ st a l d O m W σ B) (hc:ItCom l d O m W) (hl:l < W.heap.size) (hmk:∀D,mark D∈a.defers→D < d)
   (h1:∀b,b < W.heap.size→¬O b→W'.heap[b]? =W.heap[b]?) (h2:W.heap.size≤W'.heap.size) (h3:W'.os=W.os) (h4:W'.tape=W.tape) (h5:W'.output=W.output) (hdr:W.drawn≤W'.drawn) (h6:m.le m') (h7:∀b,b < W.heap.size→¬O b→m' b=m b)
   (h8:MemOk m' W') (h9:∀b,O' b↔(O b∨(W.heap.size≤b∧b < W'.heap.size))):ItIn E ρ st a l d O' m' W' σ B:=by
 refine⟨h.to,h.fits.other h1 h2 h3 h4 h5 hdr h6 h7 h8 h.apart (fun b hb=>h.mine b (.inl hb)) (fun D hD hO=>?_),?_,?_⟩
 · have:=(hc.O D hO).2.1;have:=hmk D hD;omega
 · intro b hb hO;rcases(h9 b).1 hO with hO|⟨hO,_⟩
   · exact h.apart b hb hO
   · have:=(ZJ h.fits hb).1;omega
 · rintro b (hb|hb)
   · rcases(h9 b).1 hb with hb|⟨hb,_⟩
     · exact h.mine b (.inl hb)
     · exact .inl (Nat.le_trans h.fits.grow hb)
   · exact h.mine b (.inr hb)
theorem ItCom.step {l d:Nat} {O O':Nat→Prop} {m m':Mem} {W W':World} (hc:ItCom l d O m W) (hl:l < W.heap.size)
   (h1:∀b,b < W.heap.size→¬O b→W'.heap[b]? =W.heap[b]?) (h2:W.heap.size≤W'.heap.size) (h7:∀b,b < W.heap.size→¬O b→m' b=m b)
   (h9:∀b,O' b↔(O b∨(W.heap.size≤b∧b < W'.heap.size))):ItCom l d O' m' W':=by
 have hd:=(Array.getElem?_eq_some_iff.1 hc.hd).1;have nl:¬O l:=fun h=>by have:=(hc.O l h).1;omega
 have nd:¬O d:=fun h=>by have:=(hc.O d h).2.1;omega
 refine⟨fun b hb=>?_,by rw [h7 l hl nl];exact hc.ml,by rw [h7 d hd nd];exact hc.md,by rw [h1 d hd nd];exact hc.hd⟩;rcases(h9 b).1 hb with hb|⟨g1,g2⟩
 · have:=hc.O b hb;exact⟨this.1,this.2.1,Nat.lt_of_lt_of_le this.2.2 h2⟩
 · exact⟨by omega,by omega,g2⟩
end Go.Sx
