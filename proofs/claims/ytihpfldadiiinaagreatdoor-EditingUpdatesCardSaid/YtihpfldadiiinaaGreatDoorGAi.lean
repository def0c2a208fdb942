/-
 Part 9 of the proof: the executor over the kit's code with its soundness, or contracts of functions.
-/
import Derived.Test.YtihpfldadiiinaaGreatDoorGAh
set_option linter.unusedSimpArgs false
set_option linter.unusedVariables false
set_option linter.unusedSectionVars false
set_option linter.defProp false
set_option maxRecDepth 100000
namespace Go.Sx.La
open Go Go.Sx Go.RowKit Go.Proofs
theorem ZcY {m:Mem} {d:D} {v:Value} {k:K} (hr:RepD m d v) (hk:HasK k d) (hf:k.flat=true):v.oneCell'=true:=by
 cases hr <;> first|rfl|(cases k <;> simp [HasK,K.flat]at hk hf)
theorem Z2U {m:Mem} {e:Nat} {xs:List (List D)} {y:List D} {cur arr:Array Value} {news:List Value} {i:Nat} (h:Flat m e xs cur) (hy:y.length=e) (hny:∀(j:Nat) d v,y[j]? =some d→news[j]? =some v→RepD m d v)
   (hi:i≤xs.length) (hfit:(xs.length+1) * e≤arr.size) (h1:∀q,q < i * e→arr[q]? =cur[q]?) (h2:∀j,j < e→arr[i * e+j]? =news[j]?) (h3:∀q,i * e≤q→q < xs.length * e→arr[q+e]? =cur[q]?):
   Flat m e (xs.take i++y::xs.drop i) arr:=by
 have htl:(xs.take i).length=i:=by simp;omega
 have hmul:∀a b:Nat,a≤b→a * e≤b * e:=fun a b h=>Nat.mul_le_mul_right _ h
 have hsucc:∀a:Nat,(a+1) * e=a * e+e:=fun a=>by rw [Nat.add_mul,Nat.one_mul]
 refine⟨?_,?_,?_⟩
 · have:(xs.take i++y::xs.drop i).length=xs.length+1:=by simp;omega
   rw [this];exact hfit
 · intro x hx;rcases List.mem_append.1 hx with hx|hx
   · exact h.he x (List.mem_of_mem_take hx)
   · rcases List.mem_cons.1 hx with rfl|hx
     · exact hy
     · exact h.he x (List.mem_of_mem_drop hx)
 · intro p j x d v hp hj hv;rw [List.getElem?_append,htl]at hp;split at hp
   · rename_i hlt;have hx:xs[p]? =some x:=by rw [List.getElem?_take,if_pos hlt]at hp;exact hp
     have hje:j < e:=by rw [←h.he x (List.mem_of_getElem? hx)];exact(List.getElem?_eq_some_iff.1 hj).1
     have:=hmul (p+1) i (by omega);have:=hsucc p;rw [h1 _ (by omega)]at hv;exact h.hv p j x d v hx hj hv
   · rename_i hge;cases hpi:p - i with
     | zero=>
       rw [hpi]at hp;have hpe:p=i:=by omega
       subst hpe;obtain rfl:y=x:=by simpa using hp
       have hje:j < e:=by rw [←hy];exact(List.getElem?_eq_some_iff.1 hj).1
       rw [h2 j hje]at hv;exact hny j d v hj hv
     | succ q=>
       rw [hpi,List.getElem?_cons_succ,List.getElem?_drop]at hp;have hlt:=(List.getElem?_eq_some_iff.1 hp).1;have hje:j < e:=by rw [←h.he x (List.mem_of_getElem? hp)];exact(List.getElem?_eq_some_iff.1 hj).1
       have e1:p * e+j=((i+q) * e+j)+e:=by
         have:p=i+q+1:=by omega
         rw [this,hsucc];omega
       have:=hmul i (i+q) (by omega);have:=hmul (i+q+1) xs.length (by omega);have:=hsucc (i+q);rw [e1,h3 _ (by omega) (by omega)]at hv;exact h.hv (i+q) j x d v hp hj hv
def Z82 (K:List RV→Prop) (xs:List (List D)) (y:List D) (i:Nat) (v0:Value) (vb vc:Nat) (w:World) (m:Mem) (e:Ending) (w':World):Prop:=
 ∃rs us v m',K rs∧JW Tryz.prog 191 (if false=true then Ya [.own mvKs,.cell (.int .i64),.own mvKs]else []) rs∧e=.returned v∧v=Z2A us∧
       RepRs m' w' (fun b=>w.heap.size≤b∨Zi [.own 5 xs,.d (.int .i64 i),.own 5 [y]] [v0,.int .i64 i,.slice (some ⟨vb,0,none⟩) 1 vc] b) rs (us++if false=true then W5 [.own 5 xs,.d (.int .i64 i),.own 5 [y]] [v0,.int .i64 i,.slice (some ⟨vb,0,none⟩) 1 vc]else [])∧
       m.le m'∧MemOk m' w'∧(∀b,b < w.heap.size→¬Zi [.own 5 xs,.d (.int .i64 i),.own 5 [y]] [v0,.int .i64 i,.slice (some ⟨vb,0,none⟩) 1 vc] b→m' b=m b)∧Apart (Zi [.own 5 xs,.d (.int .i64 i),.own 5 [y]] [v0,.int .i64 i,.slice (some ⟨vb,0,none⟩) 1 vc]) w w'
theorem JA (W:World) (g:Nat) (A:Array Value):(W.setRow g A).heap.size=W.heap.size:=by simp [World.setRow]
set_option maxHeartbeats 2000000 in
theorem ZaQ:ContractX Tryz.prog 191 [.own mvKs,.cell (.int .i64),.own mvKs] false fun args K=>∃(xs:List (List D)) (i:Nat) (y:List D),i≤xs.length∧xs.length≤1000000∧args=[.own 5 xs,.d (.int .i64 i),.own 5 [y]]∧K [.own 5 (xs.take i++y::xs.drop i)]:=by
 have hcl:J2 Tryz.prog 191=true:=by kernel_rfl
 have hres:Z8 Tryz.prog false (Zs Tryz.prog 191)=some [.cell (.slice mvKs)]:=by kernel_rfl
 refine⟨hcl,?_⟩;rintro _ K ⟨xs,i,y,hi,hlen,rfl,hK⟩ ⟨ρ,hρ,hks⟩ w m vs hm hr;have hρ':ρ=[.slice xs,.int .i64 i,.slice [y]]:=by
   simp [Wc]at hρ;exact hρ.symm
 subst hρ';have hkx:HasK (.slice mvKs) (.slice xs):=hks.1;have hky:HasKs mvKs y:=by
   have:=hks.2.2.1;exact this y (by simp)
 have hyl:y.length=5:=hky.length;have hxl:∀x∈xs,x.length=5:=fun x hx=>(hkx x hx).length
 have hout:HasKs [.slice mvKs] [.slice (xs.take i++y::xs.drop i)]:=by
   refine⟨?_,trivial⟩;intro x hx;rcases List.mem_append.1 hx with hx|hx
   · exact hkx x (List.mem_of_mem_take hx)
   · rcases List.mem_cons.1 hx with rfl|hx
     · exact hky
     · exact hkx x (List.mem_of_mem_drop hx)
 have hty:JW Tryz.prog 191 [] [.own 5 (xs.take i++y::xs.drop i)]:=by
   intro rk hrk;rw [hres]at hrk;cases hrk;exact⟨[.slice (xs.take i++y::xs.drop i)],rfl,hout⟩
 have hol:(xs.take i++y::xs.drop i).length=xs.length+1:=by simp;omega
 have hlen3:vs.length=3:=hr.len
 match vs,hlen3 with
 | [v0,v1,v2],_=>
 have r0:=hr.rep 0 _ v0 rfl rfl;have r1:=hr.rep 1 _ v1 rfl rfl;have r2:=hr.rep 2 _ v2 rfl rfl;obtain rfl:v1=.int .i64 i:=by cases r1 with|d h=>cases h;rfl
 obtain⟨vb,vc,vcur,tv,hv2,_,hvm,hvb,_,hvc,_,_,hvsz,_,hvv⟩:=Zas r2 (by simp);simp only [List.length_singleton]at hv2 hvc;subst hv2;have hvsz2:5≤vcur.size:=by omega
 have hnew:∀(j:Nat) d v,y[j]? =some d→(W2 vcur 0 5)[j]? =some v→RepD m d v:=by
   intro j d v hj hv;have hje:j < 5:=by rw [←hyl];exact(List.getElem?_eq_some_iff.1 hj).1
   rw [Y7 hje]at hv;exact hvv 0 j y d v rfl hj (by simpa using hv)
 have hl2:(W2 vcur 0 5).length=5:=J6 (by omega);have h1v:∀u∈W2 vcur 0 5,u.oneCell'=true:=by
   intro u hu;obtain⟨j,hj,rfl⟩:=List.mem_iff_getElem.1 hu;have hj2:j < y.length:=by omega
   obtain⟨d,hd,hkd⟩:=HasKs.get hky (i:=j) (k:=mvKs[j]'(by simp;omega)) (by simp);refine ZcY (hnew j d _ hd (by rw [List.getElem?_eq_getElem])) hkd ?_;have:j=0∨j=1∨j=2∨j=3∨j=4:=by omega
   rcases this with rfl|rfl|rfl|rfl|rfl <;> rfl
 have done:∀(e:Ending) (w':World) (rb c:Nat) (arr:Array Value) (t:TypeId),e=.returned (.slice (some ⟨rb,0,none⟩) (xs.length+1) c)→
     (w.heap.size≤rb∨v0=.slice (some ⟨rb,0,none⟩) xs.length c∧0 < c)→(∀b,b≠rb→b < w.heap.size→w'.heap[b]? =w.heap[b]?)→w'.heap[rb]? =some (.cells arr t (0,0))→m rb=none→Flat m 5 (xs.take i++y::xs.drop i) arr→arr.size=c * 5→xs.length+1≤c→c≤maxLen→
     (w'.os=w.os∧w'.tape=w.tape∧w'.output=w.output∧w.drawn≤w'.drawn∧w.heap.size≤w'.heap.size)→
     Z82 K xs y i v0 vb vc w m e w':=by
   intro e w' rb c arr t he hrb hoth hnb hmb hfl hsz hc hcm ⟨o1,o2,o3,o4,o5⟩;have hB:w.heap.size≤rb∨Zi [.own 5 xs,.d (.int .i64 i),.own 5 [y]] [v0,.int .i64 i,.slice (some ⟨vb,0,none⟩) 1 vc] rb:=by
     rcases hrb with h|⟨h,h0⟩
     · exact .inl h
     · exact .inr ⟨0,_,v0,rfl,rfl,rfl,by rw [h];simp [blk];omega⟩
   refine⟨[.own 5 (xs.take i++y::xs.drop i)],[.slice (some ⟨rb,0,none⟩) (xs.length+1) c],_,m,hK,hty,he,rfl,⟨rfl,?_,?_⟩,Mem.le_refl m,?_,fun _ _ _=>rfl,⟨o1,o2,o3,o4,o5,?_⟩⟩
   · intro p r u h2 h3;cases p with
     |succ p=>simp at h2
     | zero=>
       simp at h2 h3;subst h2 h3;have:=RepR.own (m:=m) (w:=w') (B:=fun b=>w.heap.size≤b∨Zi [.own 5 xs,.d (.int .i64 i),.own 5 [y]] [v0,.int .i64 i,.slice (some ⟨vb,0,none⟩) 1 vc] b) (e:=5) (xs:=xs.take i++y::xs.drop i) (b:=rb) (c:=c) (arr:=arr) (t:=t) hB hmb hnb (by omega) (by omega) hcm (by rw [hol];unfold cap;omega) hsz hfl.he hfl.hv;rw [hol]at this;exact this
   · intro p q r r' u u' b hpq h2 h3;have h4:=(List.getElem?_eq_some_iff.1 h2).1;have h5:=(List.getElem?_eq_some_iff.1 h3).1;simp only [List.length_singleton]at h4 h5;omega
   · intro b o ho;have hne:b≠rb:=by rintro rfl;rw [hmb]at ho;cases ho
     have hb:=hm b o ho;have hlt:b < w.heap.size:=(Array.getElem?_eq_some_iff.1 hb).1;rw [hoth b hne hlt];exact hb
   · intro b hb hnb';refine hoth b ?_ hb;rintro rfl;rcases hB with h|h
     · omega
     · exact hnb' h
 have hml:maxLen≤9223372036854775807:=by unfold maxLen;omega
 have hfresh:m w.heap.size=none:=by
   cases h:m w.heap.size with
   |none=>rfl
   | some o=>
     have:=hm _ _ h;have:=(Array.getElem?_eq_some_iff.1 this).1;omega
 have alloc_at:∀(W:World) (o:Obj),(W.alloc o).heap[W.heap.size]? =some o:=fun W o=>by
   show(W.heap.push o)[W.heap.size]? =_;exact Array.getElem?_push_size
 have grow_le:∀n c,n+1≤1000001→grownCap w (n+1) c 67≤maxLen∧n+1≤grownCap w (n+1) c 67:=fun n c hn=>⟨grownCap_le_maxLen w (n+1) c 67 (by unfold maxLen;omega),grownCap_ge w _ _ _⟩
 have endGrow:∀(base:Option Addr) (c:Nat) (olds:Array Value),v0=.slice base xs.length c→i=xs.length→(base=none→xs.length=0)→xs.length≤c→c < xs.length+1→
     (Builtin.firstCells 5 xs.length (.slice base xs.length c)).run Tryz.prog w.drew=.ok olds w.drew→olds.size=xs.length * 5→Flat m 5 xs olds→Calls Tryz.prog 191 #[v0,.int .i64 i,.slice (some ⟨vb,0,none⟩) 1 vc] w (Z82 K xs y i v0 vb vc w m):=fun base c olds hv0 hie hnil hnc hroom hold hos hfl=>by
   have hc:=Z6O base xs.length c vb vc olds vcur tv w hold hnil hvb hnc hroom hlen hvsz2;rw [←hv0, ←hie]at hc;refine hc.mono ?_;rintro e w' ⟨z,hz,he,rfl⟩;rw [hie]at he ⊢;obtain⟨g1,g2⟩:=grow_le xs.length c (by omega);have hzs:∀k,(Builtin.zeroCells z.cells k).size=k * 5:=fun k=>by simp [Builtin.zeroCells,hz]
   have hsz:(olds++(W2 vcur 0 5).toArray++Builtin.zeroCells z.cells (grownCap w (xs.length+1) c 67 - (xs.length+1))).size=grownCap w (xs.length+1) c 67 * 5:=by
     simp only [Array.size_append,List.size_toArray,hos,hl2,hzs];omega
   rw [←hie]at hsz g1 g2 he ⊢;refine done _ _ w.heap.size _ _ 67 (by rw [he,hie]) (.inl (Nat.le_refl _)) (fun b hb hbs=>heap_alloc_old w.drew _ hbs) (alloc_at w.drew _) hfresh ?_ hsz (by omega) g1 ⟨rfl,rfl,rfl,Nat.le_succ _,by show w.heap.size≤(w.heap.push _).size;simp⟩;refine Z2U hfl hyl hnew hi (by rw [hsz];omega) (fun q hq=>?_) (fun j hj=>?_) (fun q h1 h2=>by omega)
   · rw [Array.getElem?_append_left (by simp only [Array.size_append,List.size_toArray,hos,hl2];omega),Array.getElem?_append_left (by omega)]
   · rw [Array.getElem?_append_left (by simp only [Array.size_append,List.size_toArray,hos,hl2];omega),Array.getElem?_append_right (by omega),hos];simp [hie]
 show Calls Tryz.prog 191 #[v0,.int .i64 i,.slice (some ⟨vb,0,none⟩) 1 vc] w (Z82 K xs y i v0 vb vc w m);have hcase:(∃a,v0=.slice a 0 0∧xs=[])∨(∃b c cur t,v0=.slice (some ⟨b,0,none⟩) xs.length c∧m b=none∧w.heap[b]? =some (.cells cur t (0,0))∧0 < c∧xs.length≤c∧c≤maxLen∧cur.size=c * 5∧
     ∀(i j:Nat) x d v,xs[i]? =some x→x[j]? =some d→cur[i * 5+j]? =some v→RepD m d v):=by
   cases r0 with
   |none=>exact .inl ⟨_,rfl,rfl⟩
   |own hB hmb hb h0 hc hcc hcap hsz he hv=>exact .inr ⟨_,_,_,_,rfl,hmb,hb,h0,hc,hcc,hsz,hv⟩
 rcases hcase with⟨a,rfl,rfl⟩|⟨b,c,cur,t,rfl,hmb,hb,h0,hc,hcc,hsz,hv⟩
 · have hi0:i=0:=by simpa using hi
   refine endGrow a 0 #[] rfl (by simpa using hi0) (fun _=>rfl) (Nat.le_refl _) (by simp) ?_ rfl ⟨by simp,by simp,by simp⟩;cases a with
   |none=>simp [Builtin.firstCells]
   |some b=>simp [Builtin.firstCells,loadCells,loadCellsFrom]
 · have hbv:vb≠b:=by
     have:=hr.sep 0 2 _ _ _ _ b (by decide) rfl rfl rfl rfl rfl rfl (by simp [blk];omega);intro e;subst e;exact this (by simp [blk];omega)
   have hfl:Flat m 5 xs cur:=⟨by rw [hsz];exact Nat.mul_le_mul_right _ hc,hxl,hv⟩
   have hls:∀off n,off+n≤cur.size→(W2 cur off n).length=n:=fun off n h=>J6 h
   have h1c:∀u∈W2 cur 0 (xs.length * 5),u.oneCell'=true:=by
     intro u hu;obtain⟨q,hq,rfl⟩:=List.mem_iff_getElem.1 hu;rw [hls 0 _ (by omega)]at hq;have hqi:q / 5 < xs.length:=by omega
     have hx:=List.getElem_mem hqi;have hk:=hkx _ hx;have hxl2:=hxl _ hx;have hj:q % 5 < 5:=Nat.mod_lt _ (by omega);obtain⟨d,hd,hkd⟩:=HasKs.get hk (i:=q % 5) (k:=mvKs[q % 5]'(by simp;omega)) (by simp);refine ZcY (hv (q / 5) (q % 5) _ d _ (List.getElem?_eq_getElem hqi) hd ?_) hkd ?_
     · have e1:q / 5 * 5+q % 5=q:=by omega
       have:=Y7 (arr:=cur) (off:=0) hq;rw [e1];rw [Nat.zero_add]at this;rw [←this,List.getElem?_eq_getElem]
     · have:q % 5=0∨q % 5=1∨q % 5=2∨q % 5=3∨q % 5=4:=by omega
       rcases this with h|h|h|h|h <;> simp only [h] <;> rfl
   have hxs2:xs.length * 5≤c * 5:=Nat.mul_le_mul_right _ hc;rcases Nat.lt_or_ge xs.length c with hroom|hroom
   · -- room
     rcases Nat.lt_or_ge i xs.length with hlt|hge
     · refine(ZaR b xs.length c i vb vc cur vcur t tv w hb hvb hbv hlt hroom (by omega) hsz hvsz2 h1c h1v).mono ?_;rintro e w' ⟨he',rfl⟩;have hq1:=hls (i * 5) ((xs.length - i) * 5) (by omega);have hp1:=We cur ((i+1) * 5) (W2 cur (i * 5) ((xs.length - i) * 5)) (by rw [hq1];omega);have hs1:=Y9 cur ((i+1) * 5) (W2 cur (i * 5) ((xs.length - i) * 5));have k1:=setRow_heap w.drew b cur (putCells cur ((i+1) * 5) (W2 cur (i * 5) ((xs.length - i) * 5))) t (0,0) hb;generalize hA:putCells cur ((i+1) * 5) (W2 cur (i * 5) ((xs.length - i) * 5))=A at hp1 hs1 k1;have hp2:=We A (i * 5) (W2 vcur 0 5) (by rw [hl2];omega);have hs2:=Y9 A (i * 5) (W2 vcur 0 5);have k2:=setRow_heap _ b A (putCells A (i * 5) (W2 vcur 0 5)) t (0,0) k1;refine done _ _ b c _ t he' (.inr ⟨rfl,h0⟩) (fun g hg hgs=>?_) k2 hmb ?_ (by rw [hs2,hs1,hsz]) hroom hcc ⟨rfl,rfl,rfl,Nat.le_succ _,by rw [JA,JA];exact Nat.le_refl _⟩
       · rw [setRow_other _ b g _ hg,setRow_other _ b g _ hg];rfl
       · refine Z2U hfl hyl hnew hi (by rw [hs2,hs1,hsz];omega) (fun q hq=>?_) (fun j hj=>?_) (fun q h1 h2=>?_)
         · rw [hp2,if_neg (by omega),hp1,if_neg (by omega)]
         · rw [hp2,if_pos (by omega)];congr 1;omega
         · rw [hp2,if_neg (by omega),hp1,if_pos (by omega),Y7 (by omega)];congr 1;omega
     · have hie:i=xs.length:=by omega
       have e5:Value.int .i64 (i:Int)=.int .i64 ((xs.length:Nat):Int):=by rw [hie]
       rw [e5];refine(Z6N b xs.length c vb vc cur vcur t tv w hb hvb hroom (by omega) hsz hvsz2 h1v).mono ?_;rintro e w' ⟨he',rfl⟩;rw [show putCells cur (xs.length * 5) (W2 vcur 0 5)=putCells cur (i * 5) (W2 vcur 0 5) by rw [hie]];have hp2:=We cur (i * 5) (W2 vcur 0 5) (by rw [hl2];omega);have hs2:=Y9 cur (i * 5) (W2 vcur 0 5);have k2:=setRow_heap _ b cur (putCells cur (i * 5) (W2 vcur 0 5)) t (0,0) hb;refine done _ _ b c _ t he' (.inr ⟨rfl,h0⟩) (fun g hg hgs=>setRow_other _ b g _ hg) k2 hmb ?_ (by rw [hs2,hsz]) hroom hcc ⟨rfl,rfl,rfl,Nat.le_refl _,by rw [JA];exact Nat.le_refl _⟩;refine Z2U hfl hyl hnew hi (by rw [hs2,hsz];omega) (fun q hq=>?_) (fun j hj=>?_) (fun q h1 h2=>by omega)
       · rw [hp2,if_neg (by omega)]
       · rw [hp2,if_pos (by omega)];congr 1;omega
   · -- no room
     have hce:c=xs.length:=by omega
     rcases Nat.lt_or_ge i xs.length with hlt|hge
     · refine(Zco b xs.length c i vb vc cur vcur t tv w hb hvb hlt hc (by omega) hlen hsz hvsz2 h1c h1v).mono ?_;rintro e w' ⟨z,ROW,hz,hROW,he',rfl⟩;obtain⟨g1,g2⟩:=grow_le xs.length c (by omega);have hzs:∀k,(Builtin.zeroCells z.cells k).size=k * 5:=fun k=>by simp [Builtin.zeroCells,hz]
       have hq0:=hls 0 (i * 5) (by omega);have hRs:ROW.size=grownCap w (xs.length+1) c 67 * 5:=by
         rw [hROW];simp only [Array.size_append,List.size_toArray,hq0,hzs];omega
       have hRg:∀q,q < i * 5→ROW[q]? =cur[q]?:=fun q hq=>by
         rw [hROW,Array.getElem?_append_left (by simp only [Array.size_append,List.size_toArray,hq0];omega),Array.getElem?_append_left (by simp only [List.size_toArray,hq0];omega)];have:=Y7 (arr:=cur) (off:=0) hq;simpa using this
       generalize hG:grownCap w (xs.length+1) c 67=G at *;have hq1:=hls (i * 5) ((xs.length - i) * 5) (by omega);have hp1:=We ROW (i * 5) (W2 vcur 0 5) (by rw [hl2];omega);have hs1:=Y9 ROW (i * 5) (W2 vcur 0 5);have k0:=alloc_at w (.cells ROW 67);have k1:=setRow_heap ((w.alloc (.cells ROW 67)).drew) w.heap.size ROW (putCells ROW (i * 5) (W2 vcur 0 5)) 67 (0,0) k0;generalize putCells ROW (i * 5) (W2 vcur 0 5)=A at hp1 hs1 k1;have hp2:=We A ((i+1) * 5) (W2 cur (i * 5) ((xs.length - i) * 5)) (by rw [hq1];omega);have hs2:=Y9 A ((i+1) * 5) (W2 cur (i * 5) ((xs.length - i) * 5));have k2:=setRow_heap (((w.alloc (.cells ROW 67)).drew.setRow w.heap.size A).drew) w.heap.size A (putCells A ((i+1) * 5) (W2 cur (i * 5) ((xs.length - i) * 5))) 67 (0,0) k1;refine done _ _ w.heap.size G _ 67 he' (.inl (Nat.le_refl _)) (fun g hg hgs=>?_) k2 hfresh ?_ (by rw [hs2,hs1,hRs]) g2 g1 ⟨rfl,rfl,rfl,Nat.le_trans (Nat.le_succ _) (Nat.le_succ _),by rw [JA];show w.heap.size≤((w.alloc (.cells ROW 67)).drew.setRow w.heap.size A).heap.size;rw [JA];show w.heap.size≤(w.heap.push _).size;simp⟩
       · rw [setRow_other _ w.heap.size g _ hg];show(((w.alloc (.cells ROW 67)).drew.setRow w.heap.size A)).heap[g]? =_;rw [setRow_other _ w.heap.size g _ hg];exact heap_alloc_old w _ hgs
       · refine Z2U hfl hyl hnew hi (by rw [hs2,hs1,hRs];omega) (fun q hq=>?_) (fun j hj=>?_) (fun q h1 h2=>?_)
         · rw [hp2,if_neg (by omega),hp1,if_neg (by omega),hRg q hq]
         · rw [hp2,if_neg (by omega),hp1,if_pos (by omega)];congr 1;omega
         · rw [hp2,if_pos (by omega),Y7 (by omega)];congr 1;omega
     · refine endGrow (some ⟨b,0,none⟩) c (W2 cur 0 (xs.length * 5)).toArray rfl (by omega) (fun h=>by cases h) hc (by omega) (WC (w:=w.drew) hb 5 xs.length 0 _ _ (by omega)) (by simp only [List.size_toArray];exact hls 0 _ (by omega)) ⟨?_,hxl,?_⟩
       · simp only [List.size_toArray];rw [hls 0 _ (by omega)];omega
       · intro p j x d v hp hj hu;have hpl:=(List.getElem?_eq_some_iff.1 hp).1;have hje:j < 5:=by rw [←hxl x (List.mem_of_getElem? hp)];exact(List.getElem?_eq_some_iff.1 hj).1
         rw [List.getElem?_toArray,Y7 (by omega),Nat.zero_add]at hu;exact hv p j x d v hp hj hu
noncomputable def t209:R:=.call none (.fn 210) [Vl (Va 0) (Vl (Va 1) .lnil),Vl (Va 5) (Vl (Va 6) .lnil)] [.cell (.int .i64)] (.ret [.d (Va 7)])
theorem Zdy:fnO Tryz.prog mdA 209 [.agg mvKs,.agg [.int .i64,.int .i64]]=t209:=by kernel_rfl
theorem c209:J2 Tryz.prog 209=true:=by kernel_rfl
noncomputable def t160:R:=.call none (.fn 207) [Va 0,Vl (Va 1) (Vl (Va 2) .lnil),.fn 209] [.cell (.int .i64),.cell .bool] (.ret [.d (Va 3),.d (Va 4)])
theorem Zeb:fnO Tryz.prog mdA 160 [.cell (.slice mvKs),.agg [.int .i64,.int .i64]]=t160:=by kernel_rfl
noncomputable def t89:R:=.call none (.fn 91) [Vl (Va 0) (Vl (Va 1) (Vl (Va 2) (Vl (Va 3) (Vl (Va 4) (Vl (Va 5) (Vl (Va 6) (Vl (Va 7) (Vl (Va 8) .lnil))))))))] [.cell (.int .i64)] (.ite (.o2 .ne (Va 11) (Vn 0)) (.ret [.d (Vn 0),.d (.bool false),.d (Va 11)]) (.call none (.fn 159) [Vl (Va 9) (Vl (Va 10) .lnil)] [.cell (.int .i64)] (.ite (.o2 .ne (Va 12) (Vn 0)) (.ret [.d (Vn 0),.d (.bool false),.d (Va 12)]) (.call none (.fn 160) [Va 2,Vl (Va 9) (Vl (Va 10) .lnil)] [.cell (.int .i64),.cell .bool] (.ite (Va 14) (.ret [.d (Va 13),.d (.bool true),.d (Vn 0)]) (.ret [.d (Vn 0),.d (.bool false),.d (Vn 0)]))))))
theorem ZfU:fnO Tryz.prog mdA 89 [.agg J9,.agg [.int .i64,.int .i64]]=t89:=by kernel_rfl
theorem Zbr:Contract Tryz.prog 209 fun args K=>∃(m:Mov) (q:Par),m.Ok∧q.Ok∧args=[.agg m.enc,.agg q.enc]∧K [.d (.int .i64 (pcmp m.pa q))]:=by
 refine .of c209 Zdy ?_;rintro _ K ⟨m,q,hm,hq,rfl,hK⟩ hsm;refine⟨m.enc++q.enc,rfl,by exact(Mov.has hm).append (Par.has hq),?_⟩;refine Z0 Zaq ⟨m.pa,q,hm.1,hq,rfl,_,rfl,?_⟩;simp only [zz,reduceCtorEq,Mov.enc,Par.enc];exact hK
theorem Zbs {m:Mov} {p:Par} (hm:m.Ok) (hp:p.Ok):FvC Tryz.prog (.clo 209 []) fun as_ K=>as_=[.agg m.enc,.agg p.enc]∧K [.d (.int .i64 (pcmp m.pa p))]:=by
 refine FvC.of c209 Zbr ?_;rintro _ K ⟨rfl,hK⟩;refine⟨⟨m,p,hm,hp,rfl,hK⟩,J4 [some (.agg mvKs),some (.agg paKs)] (by kernel_rfl) ?_⟩;intro i rk d h1 h2
 match i,h1,h2 with
 |0,h1,h2=>simp at h1 h2;subst h1 h2;exact Mov.has hm
 |1,h1,h2=>simp at h1 h2;subst h1 h2;exact Par.has hp
theorem Z74:Contract Tryz.prog 160 fun args K=>∃(ms:List Mov) (p:Par),(∀m∈ms,m.Ok)∧p.Ok∧RightB ms∧Z3 p=0∧args=[.slice (ms.map Mov.enc),.agg p.enc]∧K [.d (.int .i64 (low ms p)),.d (.bool (ms.any fun m=>decide (m.pa=p)))]:=by
 refine .of (by kernel_rfl) Zeb ?_;rintro _ K ⟨ms,p,hms,hp,hR,hpp,rfl,hK⟩ hsm;refine⟨.slice (ms.map Mov.enc)::p.enc,rfl,by exact(show HasKs (.slice mvKs::paKs) _ from⟨Y6 fun m hm=>Mov.has (hms m hm),Par.has hp⟩),?_⟩;refine Z0 bsearchG_ok ⟨ms,p,209,hms,hp,hR,hpp,fun m hm=>Zbs (hms m hm) hp,by simp only [zz,reduceCtorEq,Par.enc],_,rfl,?_⟩;simp only [zz,reduceCtorEq,Par.enc];exact hK
theorem ZcM:Contract Tryz.prog 89 fun args K=>∃(c:Cue) (p:Par),c.Ok∧J5 c=0∧p.Ok∧Z3 p=0∧args=[.agg c.enc,.agg p.enc]∧
   K [.d (.int .i64 (if(Zb c.moves p).isSome then low c.moves p else 0)),.d (.bool (Zb c.moves p).isSome),.d (.int .i64 0)]:=by
 refine .of (by kernel_rfl) ZfU ?_;rintro _ K ⟨c,p,hc,hck,hp,hpp,rfl,hK⟩ hsm;refine⟨c.enc++p.enc,rfl,by exact(Cue.has hc).append (Par.has hp),?_⟩;refine Z0 Z1v ⟨c,hc,by simp only [zz,reduceCtorEq,Cue.enc,Par.enc],_,rfl,?_⟩;rw [hck];simp only [zz,reduceCtorEq,Cue.enc,Par.enc];refine Z0 Z71 ⟨p,hp,by simp only [zz,reduceCtorEq,Cue.enc,Par.enc],_,rfl,?_⟩;rw [hpp];simp only [zz,reduceCtorEq,Cue.enc,Par.enc];refine Z0 Z74 ⟨c.moves,p,hc.moves,hp,(Z3f (WW hck)).toB,hpp,by simp only [zz,reduceCtorEq,Cue.enc,Par.enc],_,rfl,?_⟩;rw [Z0k];simp only [zz,reduceCtorEq,Cue.enc,Par.enc];cases hs:(Zb c.moves p).isSome with
 | true=>
   rw [hs]at hK;exact⟨fun _=>hK,fun h=>by simp at h⟩
 | false=>
   rw [hs]at hK;exact⟨fun h=>by simp at h,fun _=>hK⟩
structure Early (l:Lis) (s:List UInt8) (n:Nat):Prop where
 ok:Lis.Ok {l with cues:=l.cues.take n}
 look:Z5B {l with cues:=l.cues.take n} s=(ZH (l.cues.take n) n,0)
noncomputable def t88:R:=.guess (.o2 .eq (.o1 .len (Va 0)) (Vn 0)) (.ite (Va 1) (.ret [.own 5 .nils]) (.need (.o2 .le (.o1 .len (.o2 .app .nils (Va 0))) (Vn 3518437208883)) (.ret [.own 5 (.o2 .app .nils (Va 0))])))
theorem ZfV:fnO Tryz.prog mdA 88 [.cell (.slice mvKs)]=t88:=by kernel_rfl
noncomputable def t94:R:=.guess (.o2 .eq (.o1 .len (Va 0)) (Vn 0)) (.ite (Va 1) (.ret [.own 6 .nils]) (.need (.o2 .le (.o1 .len (.o2 .app .nils (Va 0))) (Vn 2932031007402)) (.ret [.own 6 (.o2 .app .nils (Va 0))])))
theorem ZfP:fnO Tryz.prog mdA 94 [.cell (.slice tmKs)]=t94:=by kernel_rfl
noncomputable def t125:R:=.call none (.fn 94) [Va 3] [.own tmKs] (.ret [.box (Vl (Va 0) (Vl (Va 1) (Vl (Va 2) (Vl (Va 9) (Vl (Va 4) (Vl (Va 5) (Vl (Va 6) (Vl (Va 7) (Vl (Va 8) .lnil)))))))))])
theorem ZeA:fnUO Tryz.prog mdA 125 [.box J9]=t125:=by kernel_rfl
theorem Z73:Contract Tryz.prog 88 fun args K=>∃(ms:List Mov),(∀m∈ms,m.Ok)∧ms.length≤1000000∧args=[.slice (ms.map Mov.enc)]∧K [.own 5 (ms.map Mov.enc)]:=by
 refine .of (by kernel_rfl) ZfV ?_;rintro _ K ⟨cs,hcs,hlen,rfl,hK⟩ hsm;refine⟨[.slice (cs.map Mov.enc)],rfl,⟨Y6 fun m hm=>Mov.has (hcs m hm),trivial⟩,?_⟩;unfold t88;simp only [denR];intro b hb;simp only [zz,reduceCtorEq,List.length_map];cases b with
 | true=>
   have:=hb rfl;simp only [zz,reduceCtorEq,List.length_map]at this;have h0:cs=[]:=List.eq_nil_of_length_eq_zero (by omega);subst h0;exact⟨fun _=>hK,fun h=>by simp at h⟩
 |false=>exact⟨fun h=>by simp at h,fun _=>⟨by omega,hK⟩⟩
theorem Z72:Contract Tryz.prog 94 fun args K=>∃(ts:List Tim),(∀m∈ts,m.Ok)∧ts.length≤1000000∧args=[.slice (ts.map Tim.enc)]∧K [.own 6 (ts.map Tim.enc)]:=by
 refine .of (by kernel_rfl) ZfP ?_;rintro _ K ⟨cs,hcs,hlen,rfl,hK⟩ hsm;refine⟨[.slice (cs.map Tim.enc)],rfl,⟨Y6 fun m hm=>Tim.has (hcs m hm),trivial⟩,?_⟩;unfold t94;simp only [denR];intro b hb;simp only [zz,reduceCtorEq,List.length_map];cases b with
 | true=>
   have:=hb rfl;simp only [zz,reduceCtorEq,List.length_map]at this;have h0:cs=[]:=List.eq_nil_of_length_eq_zero (by omega);subst h0;exact⟨fun _=>hK,fun h=>by simp at h⟩
 |false=>exact⟨fun h=>by simp at h,fun _=>⟨by omega,hK⟩⟩
theorem Zfi:ContractX Tryz.prog 125 [.box J9] true fun args K=>∃c:Cue,c.Ok∧c.parts.length≤1000000∧args=[.box c.enc]∧K [.box c.enc]:=by
 refine .ofU (by kernel_rfl) ZeA ?_;rintro _ K ⟨c,hc,hlen,rfl,hK⟩;refine⟨c.enc,rfl,by exact Cue.has hc,?_⟩;refine Z0 Z72 ⟨c.parts,hc.parts,hlen,by simp only [zz,reduceCtorEq,Cue.enc],_,rfl,?_⟩;simp only [zz,reduceCtorEq,Cue.enc];exact hK
noncomputable def t124:R:=let x1:List K:=mvKs;let x2:T:=.idx (Va 1) (Va 4) 0 (.int .i64);let x3:T:=.idx (Va 1) (Va 4) 1 (.int .i64);let x4:T:=.o1 .len (Va 3);let x0:T:=Vl x2 (Vl x3 (Vl (.idx (Va 1) (Va 4) 2 (.int .i64)) (Vl (.idx (Va 1) (Va 4) 3 (.int .i64)) (Vl (.idx (Va 1) (Va 4) 4 (.int .i64)) .lnil))));.call none (.fn 88) [Va 0] [.own x1] (.fact (.o2 .le (.o1 .len (Va 1)) (Vn 140737488355328)) (.loop 0 [Va 2,Vn 0] [.slice x1,.int .i64] (.ite (.o2 .lt (Va 4) (.o1 .len (Va 1))) (.need (.o2 .le (Vn 0) (Va 4)) (.call none (.fn 160) [Va 3,Vl x2 (Vl x3 .lnil)] [.cell (.int .i64),.cell .bool] (.ite (Va 6) (.need (.o2 .le (Vn 0) (Va 5)) (.need (.o2 .lt (Va 5) x4) (.again 0 [.upd (Va 3) (Va 5) 0 x0,.o2 (.add .i64) (Va 4) (Vn 1)]))) (.callX false 191 [.own 5 (Va 3),.d (Va 5),.own 5 (.push .nils x0)] [.own x1] (.again 0 [Va 7,.o2 (.add .i64) (Va 4) (Vn 1)]))))) (.fact (.o2 .le x4 (Vn 140737488355328)) (.ite (.o2 .gt x4 (Vn 128)) (.ret [.d .nils,.d (Vn 5)]) (.ret [.own 5 (Va 3),.d (Vn 0)]))))))
theorem ZeB:fnO Tryz.prog mdA 124 [.cell (.slice mvKs),.cell (.slice mvKs)]=t124:=by kernel_rfl
noncomputable def t54:R:=let x0:T:=Vl (.str []) (Vl (.str []) (Vl .nils (Vl .nils (Vl (.bool false) (Vl (.bool false) (Vl (Vn 0) (Vl (.str []) (Vl (Vn 0) .lnil))))))));let x1:T:=.push .nils (Vl (.idx (Va 9) (Va 14) 0 (.int .i64)) (Vl (.idx (Va 9) (Va 14) 1 (.int .i64)) (Vl (.idx (Va 9) (Va 14) 2 (.int .i64)) (Vl (.idx (Va 9) (Va 14) 3 (.int .i64)) (Vl (Va 10) .lnil)))));let x2:T:=Vl (Va 3) (Vl (Va 4) (Vl (Va 5) (Vl (Va 6) (Vl (Va 7) (Vl (Va 8) .lnil)))));let x3:List K:=mvKs;let x4:T:=.o2 .lt (Va 10) (Vn 1);.call none (.fn 91) [Vl (Va 0) (Vl (Va 1) (Vl (Va 2) x2))] [.cell (.int .i64)] (.ite (.o2 .ne (Va 11) (Vn 0)) (.ret [.d x0,.d (Va 11)]) (.call none (.fn 52) [Va 9] [.cell (.int .i64)] (.ite (.o2 .ne (Va 12) (Vn 0)) (.ret [.d x0,.d (Va 12)]) (.fact (.ite (.o1 .not x4) (.o2 .le (.o1 .len (Va 3)) (Vn 140737488355328)) (.bool true)) (.ite (.ite x4 (.bool true) (.o2 .gt (Va 10) (.o1 .len (Va 3)))) (.ret [.d x0,.d (Vn 6)]) (.fact (.o2 .le (.o1 .len (Va 9)) (Vn 140737488355328)) (.loop 0 [.nils,Vn 0] [.slice x3,.int .i64] (.ite (.o2 .lt (Va 14) (.o1 .len (Va 9))) (.need (.o2 .le (Vn 0) (Va 14)) (.need (.o2 .le (.o1 .len (.o2 .app (Va 13) x1)) (Vn 3518437208883)) (.again 0 [.o2 .app (Va 13) x1,.o2 (.add .i64) (Va 14) (Vn 1)]))) (.call none (.fn 124) [Va 2,Va 13] [.cell (.slice x3),.cell (.int .i64)] (.ite (.o2 .ne (Va 16) (Vn 0)) (.ret [.d x0,.d (Va 16)]) (.callX true 125 [.box (Vl (Va 0) (Vl (Va 1) (Vl (Va 15) x2)))] [.box [.str,.str,.slice x3,.slice tmKs,.bool,.bool,.int .i64,.str,.int .i64]] (.ret [.d (Vl (Va 17) (Vl (Va 18) (Vl (Va 19) (Vl (Va 20) (Vl (Va 21) (Vl (Va 22) (Vl (Va 23) (Vl (Va 24) (Vl (Va 25) .lnil))))))))),.d (Vn 0)]))))))))))))
theorem Zgo:fnO Tryz.prog mdA 54 [.agg J9,.cell (.slice enKs),.cell (.int .i64)]=t54:=by kernel_rfl
noncomputable def t203:R:=let x0:T:=.o2 .app (Va 6) (.push .nils (Vl (Va 1) (Vl (Va 2) (Vl (Va 3) (Vl (Va 4) (Vl (Va 5) .lnil))))));let x3:T:=.o1 .not (Va 7);let x4:T:=.idx (Va 0) (Va 8) 0 (.int .i64);let x5:T:=.idx (Va 0) (Va 8) 1 (.int .i64);let x6:T:=.o2 .le (.o1 .len x0) (Vn 3518437208883);let x7:T:=.o1 .not (Va 9);let x8:T:=.o2 .le (Vn 0) (Va 8);let x1:T:=.o2 .app (Va 10) (.push .nils (Vl x4 (Vl x5 (Vl (.idx (Va 0) (Va 8) 2 (.int .i64)) (Vl (.idx (Va 0) (Va 8) 3 (.int .i64)) (Vl (.idx (Va 0) (Va 8) 4 (.int .i64)) .lnil))))));let x2:T:=.o1 .not (.o2 .band (.o2 .eq x4 (Va 1)) (.o2 .band (.o2 .eq x5 (Va 2)) (.bool true)));.loop 0 [.nils,.bool false,Vn 0] [.slice mvKs,.bool,.int .i64] (.fact (.o2 .le (.o1 .len (Va 0)) (Vn 140737488355328)) (.ite (.o2 .lt (Va 8) (.o1 .len (Va 0))) (.need (.ite x3 x8 (.bool true)) (.call (some x3) (.fn 50) [Vl x4 (Vl x5 .lnil),Vl (Va 1) (Vl (Va 2) .lnil)] [.cell .bool] (.need (.ite (.ite x3 x7 (.bool false)) x6 (.bool true)) (.lets [.ite (.ite x3 x7 (.bool false)) x0 (Va 6),.ite (.ite x3 x7 (.bool false)) (.bool true) (Va 7)] (.need x8 (.need (.ite x2 (.o2 .le (.o1 .len x1) (Vn 3518437208883)) (.bool true)) (.lets [.ite x2 x1 (Va 10)] (.again 0 [Va 12,Va 11,.o2 (.add .i64) (Va 8) (Vn 1)])))))))) (.need (.ite x3 x6 (.bool true)) (.lets [.ite x3 x0 (Va 6)] (.ret [.own 5 (Va 9)])))))
theorem ZdC:fnO Tryz.prog mdA 203 [.cell (.slice mvKs),.agg mvKs]=t203:=by kernel_rfl
noncomputable def t147:R:=let x0:List K:=mvKs;.need (.o2 .le (.o1 .len (.o2 .app .nils (Va 0))) (Vn 3518437208883)) (.loop 0 [.o2 .app .nils (Va 0),Vn 0] [.slice x0,.int .i64] (.fact (.o2 .le (.o1 .len (Va 1)) (Vn 140737488355328)) (.ite (.o2 .lt (Va 3) (.o1 .len (Va 1))) (.need (.o2 .le (Vn 0) (Va 3)) (.call none (.fn 203) [Va 2,Vl (.idx (Va 1) (Va 3) 0 (.int .i64)) (Vl (.idx (Va 1) (Va 3) 1 (.int .i64)) (Vl (.idx (Va 1) (Va 3) 2 (.int .i64)) (Vl (.idx (Va 1) (Va 3) 3 (.int .i64)) (Vl (.idx (Va 1) (Va 3) 4 (.int .i64)) .lnil))))] [.cell (.slice x0)] (.again 0 [Va 4,.o2 (.add .i64) (Va 3) (Vn 1)]))) (.ret [.d (Va 2)]))))
theorem Zej:fnO Tryz.prog mdA 147 [.cell (.slice mvKs),.cell (.slice mvKs)]=t147:=by kernel_rfl
noncomputable def t95:R:=.need (.o2 .le (.o1 .len (.o2 .app .nils (Va 3))) (Vn 2932031007402)) (.ret [.d (Vl (Va 0) (Vl (Va 1) (Vl (Va 9) (Vl (.o2 .app .nils (Va 3)) (Vl (Va 4) (Vl (Va 5) (Vl (Va 6) (Vl (Va 7) (Vl (Va 8) .lnil)))))))))])
theorem ZfO:fnO Tryz.prog mdA 95 [.agg J9,.cell (.slice mvKs)]=t95:=by kernel_rfl
noncomputable def t145:R:=let x0:T:=Vl (Vn 0) .lnil;.ret [.d (Vl (Va 0) (Vl (.str []) (Vl .nils (Vl (.rep (Vn 1) (Vl (Vn 0) (Vl (Vn 0) (Vl (Vn 0) (Vl (Vn 0) (Vl (Vn 0) x0)))))) (Vl (.bool false) (Vl (.bool false) (Vl (Vn (-1)) (Vl (.str []) x0))))))))]
noncomputable def t148:R:=let x0:T:=.push .nils (Vl (.idx (Va 0) (Va 3) 0 (.int .i64)) (Vl (.idx (Va 0) (Va 3) 1 (.int .i64)) (Vl (.idx (Va 0) (Va 3) 2 (.int .i64)) (Vl (.idx (Va 0) (Va 3) 3 (.int .i64)) (Vl (Va 1) .lnil)))));.loop 0 [.nils,Vn 0] [.slice mvKs,.int .i64] (.fact (.o2 .le (.o1 .len (Va 0)) (Vn 140737488355328)) (.ite (.o2 .lt (Va 3) (.o1 .len (Va 0))) (.need (.o2 .le (Vn 0) (Va 3)) (.need (.o2 .le (.o1 .len (.o2 .app (Va 2) x0)) (Vn 3518437208883)) (.again 0 [.o2 .app (Va 2) x0,.o2 (.add .i64) (Va 3) (Vn 1)]))) (.ret [.own 5 (Va 2)])))
theorem Zei:fnO Tryz.prog mdA 148 [.cell (.slice enKs),.cell (.int .i64)]=t148:=by kernel_rfl
theorem Z7E {es:List Ent} {p:Int} (h:∀e∈es,e.Ok) (hp:I64 p):∀m∈givM es p,m.Ok:=by
 intro m hm;obtain⟨e,he,rfl⟩:=List.mem_map.1 hm;exact⟨(h e he).1,(h e he).2,hp⟩
theorem Zal {ms:List Mov} {m:Mov} (h:∀x∈ms,x.Ok) (hm:m.Ok):∀x∈putM ms m,x.Ok:=fun x hx=>by
 rcases Z1h hx with rfl|hx
 · exact hm
 · exact h x hx
theorem ZaH {a b:List Mov} (ha:∀x∈a,x.Ok) (hb:∀x∈b,x.Ok):∀x∈Zh a b,x.Ok:=fun x hx=>by
 rcases Z1S hx with hx|hx
 · exact ha x hx
 · exact hb x hx
theorem ZG {c:Cue} (hc:c.Ok) {es:List Ent} (hes:∀e∈es,e.Ok) {p:Int} (hp:I64 p):(setC c es p).Ok:= {hc with moves:=ZaH hc.moves (Z7E hes hp)}
theorem JK {ms:List Mov} (h:∀m∈ms,m.Ok):HasK (.slice mvKs) (.slice (ms.map Mov.enc)):=Y6 fun m hm=>Mov.has (h m hm)
theorem ZaG:Contract Tryz.prog 124 fun args K=>∃(a b:List Mov),(∀m∈a,m.Ok)∧(∀m∈b,m.Ok)∧Jg a∧(∀m∈a,Z3 m.pa=0)∧(∀m∈b,Z3 m.pa=0)∧a.length≤128∧b.length≤10000∧
   args=[.slice (a.map Mov.enc),.slice (b.map Mov.enc)]∧(128 < (Zh a b).length→K [.d (.slice []),.d (.int .i64 5)])∧(¬128 < (Zh a b).length→K [.own 5 ((Zh a b).map Mov.enc),.d (.int .i64 0)]):=by
 refine .of (by kernel_rfl) ZeB ?_;rintro _ K ⟨a,b,ha,hb,hra,hpa,hpb,hla,hlb,rfl,hK1,hK2⟩ hsm;refine⟨[.slice (a.map Mov.enc),.slice (b.map Mov.enc)],rfl,⟨JK ha,JK hb,trivial⟩,?_⟩;refine Z0 Z73 ⟨a,ha,by omega,rfl,_,rfl,?_⟩;simp only [zz,reduceCtorEq,List.length_map];intro hcap;refine Ji b (fun _ l acc=>Zh acc l) (fun i acc=>[.slice (acc.map Mov.enc),.int .i64 i]) (fun i acc=>(∀m∈acc,m.Ok)∧Jg acc∧(∀m∈acc,Z3 m.pa=0)∧acc.length≤128+i) a (Zh a b) rfl ⟨ha,hra,hpa,by omega⟩ 1 (fun _ _=>rfl) rfl ?_ ?_
 · rintro i hi acc ⟨h1,h2,h3,h4⟩ hgo;have hbm:=List.getElem_mem hi;have hbo:=hb _ hbm;simp only [zz,reduceCtorEq,List.length_map,hi,J0 hi,Mov.enc];refine⟨by omega,?_⟩;refine Z0 Z74 ⟨acc,b[i].pa,h1,hbo.1,⟨h3,h2,by omega⟩,hpb _ hbm,by simp only [zz,reduceCtorEq,J0 hi,Mov.enc,Par.enc],_,rfl,?_⟩;rw [Z0k];have hl1:=Z2M b[i] acc;have inv:(∀m∈putM acc b[i],m.Ok)∧Jg (putM acc b[i])∧(∀m∈putM acc b[i],Z3 m.pa=0)∧(putM acc b[i]).length≤128+(i+1):=
     ⟨Zal h1 hbo,JS h2,fun x hx=>by
       rcases Z1h hx with rfl|hx
       · exact hpb _ hbm
       · exact h3 x hx,by omega⟩
   rcases Z8j (m:=b[i]) h2 with⟨⟨x,g1⟩,g2,g3⟩|⟨g1,g2,g3⟩
   · rw [g1];refine Y3 (by simp only [zz,reduceCtorEq,Option.isSome_some]) ?_;simp only [zz,reduceCtorEq,List.length_map,g2,J0 hi,Mov.enc,D.upd];refine⟨by omega,putM acc b[i],⟨?_,by rw [Z1] <;> omega⟩,inv,hgo⟩;rw [g3];exact ZgR g2 b[i]
   · rw [g1];refine J3 (by simp only [zz,reduceCtorEq,Option.isSome_none]) ?_;refine ZA ZaQ ⟨[.slice (acc.map Mov.enc),.int .i64 (low acc b[i].pa),.slice [b[i].enc]],by simp only [zz,reduceCtorEq,J0 hi,Mov.enc];rfl,?_⟩ (fun h=>by cases h) ⟨acc.map Mov.enc,low acc b[i].pa,b[i].enc,by simpa using g2,by simp;omega,by simp only [zz,reduceCtorEq,J0 hi,Mov.enc],_,rfl,?_⟩
     · exact⟨JK h1,Y2 ⟨by omega,by omega⟩,by intro x hx;simp at hx;subst hx;exact Mov.has hbo,trivial⟩
     · simp only [zz,reduceCtorEq];refine⟨putM acc b[i],⟨?_,by rw [Z1] <;> omega⟩,inv,hgo⟩;rw [g3];simp [List.map_take,List.map_drop]
 · rintro acc ⟨h1,h2,h3,h4⟩ hgo;have hgo:acc=Zh a b:=hgo;subst hgo;simp only [zz,reduceCtorEq,List.length_map,Nat.lt_irrefl];intro _;refine⟨fun h=>hK1 (by omega),fun h=>hK2 (by omega)⟩
theorem ZeZ {c:Cue} (hc:c.Ok) {es:List Ent} (hes:∀e∈es,e.Ok) {p:Int} (hp:I64 p):(setR c es p).1.Ok:=by
 have hz:zeroC.Ok:=⟨by simp [zeroC],by simp [zeroC],⟨by decide,by decide⟩,⟨by decide,by decide⟩⟩
 unfold setR;split; · exact hz
 split; · exact hz
 split; · exact hz
 split; · exact hz
 exact ZG hc hes hp
theorem Z7Q:Contract Tryz.prog 54 fun args K=>∃(c:Cue) (es:List Ent) (p:Int),c.Ok∧(∀e∈es,e.Ok)∧I64 p∧args=[.agg c.enc,.slice (es.map Ent.enc),.int .i64 p]∧
   K [.d (.agg (setR c es p).1.enc),.d (.int .i64 (setR c es p).2)]:=by
 refine .of (by kernel_rfl) Zgo ?_;rintro _ K ⟨c,es,p,hc,hes,hp,rfl,hK⟩ hsm;refine⟨c.enc++[.slice (es.map Ent.enc)]++[.int .i64 p],rfl,by exact(show HasKs ((J9++[.slice enKs])++[.int .i64]) _ from((Cue.has hc).append (show HasKs [.slice enKs] [.slice (es.map Ent.enc)]from⟨Jp hes,trivial⟩)).append (WV hp)),?_⟩;unfold setR at hK;refine Z0 Z1v ⟨c,hc,by simp only [zz,reduceCtorEq,Cue.enc],_,rfl,?_⟩;rcases Decidable.em (J5 c=0)with h1|h1
 rotate_left
 · rw [if_pos h1]at hK;refine Y3 (by simp only [zz,reduceCtorEq,Cue.enc,h1]) ?_;simp only [zz,reduceCtorEq,Cue.enc];exact hK
 rw [if_neg (by simpa using h1)]at hK;rw [h1];refine J3 (by simp only [zz,reduceCtorEq,Cue.enc]) ?_;refine Z0 Z5p ⟨es,hes,by simp only [zz,reduceCtorEq,Cue.enc],_,rfl,?_⟩;rcases Decidable.em (Zo es=0)with h2|h2
 rotate_left
 · rw [if_pos h2]at hK;refine Y3 (by simp only [zz,reduceCtorEq,Cue.enc,h2]) ?_;simp only [zz,reduceCtorEq,Cue.enc];exact hK
 rw [if_neg (by simpa using h2)]at hK;rw [h2];refine J3 (by simp only [zz,reduceCtorEq,Cue.enc]) ?_;have hE:=Z12 hes h2;have hC:=Z0H h1;have hp4:=hC.four;simp only [zz,reduceCtorEq,Cue.enc,List.length_map];intro _;by_cases h3:p < 1∨(c.parts.length:Int) < p
 · rw [if_pos h3]at hK;refine⟨fun _=>hK,fun h=>?_⟩;exfalso;rcases h3 with h3|h3
   · simp [h3]at h
   · by_cases h4:p < 1
     · simp [h4]at h
     · simp [h4]at h;omega
 rw [if_neg h3]at hK;have e0:(setC c es p).moves.length=(Zh c.moves (givM es p)).length:=rfl;rw [e0]at hK;simp only [not_or,Int.not_lt]at h3;refine⟨fun h=>?_,fun _=>?_⟩
 · exfalso;have h4:¬p < 1:=by omega
   simp [h4]at h;omega
 intro hcap;have hel:=hE.len;refine Ji es (fun _ l (acc:List Mov)=>acc++givM l p) (fun i acc=>[.slice (acc.map Mov.enc),.int .i64 i]) (fun i acc=>acc.length=i) [] (givM es p) rfl rfl 1 (fun _ _=>rfl) rfl ?_ ?_
 · intro i hi acc hI hgo;simp only [zz,reduceCtorEq,List.length_map,hi,J0 hi,Ent.enc,List.length_append];refine⟨by omega,by simp;omega,acc++[⟨es[i].pa,es[i].va,p⟩],⟨by simp [Mov.enc],by rw [Z1] <;> omega⟩,by simp [hI],by simp only [givM,List.append_assoc,List.singleton_append,List.map_cons,List.map_drop]at hgo ⊢;exact hgo⟩
 · intro acc hI hgo;simp only [givM,List.map_nil,List.append_nil]at hgo;have hgo:acc=givM es p:=hgo;subst hgo;simp only [zz,reduceCtorEq,List.length_map,Nat.lt_irrefl];refine Z0 ZaG ⟨c.moves,givM es p,hc.moves,Z7E hes hp,hC.rc.rising,fun m hm=>(hC.rc.each m hm).1,fun m hm=>(Z9p (n:=c.parts.length) hE h3.1 h3.2 m hm).1,hC.len,by simp [givM];omega,by simp only [zz,reduceCtorEq],fun h=>?_,fun h=>?_⟩
   · rw [if_pos h]at hK;refine⟨_,rfl,?_⟩;simp only [zz,reduceCtorEq];exact⟨fun _=>hK,fun h=>by simp at h⟩
   · rw [if_neg h]at hK;refine⟨_,rfl,?_⟩;refine J3 (by simp only [zz,reduceCtorEq]) ?_;have hS:=ZG hc hes hp;refine ZA Zfi ⟨(setC c es p).enc,by simp only [zz,reduceCtorEq,Cue.enc,setC];rfl,Cue.has hS⟩ (fun _=>by kernel_rfl) ?_;refine⟨setC c es p,hS,by show c.parts.length≤_;omega,by simp only [zz,reduceCtorEq,Cue.enc,setC],(setC c es p).enc,rfl,?_⟩;simp only [zz,reduceCtorEq,Cue.enc,setC];exact hK
theorem Zc1:Contract Tryz.prog 203 fun args K=>∃(ms:List Mov) (m:Mov),(∀x∈ms,x.Ok)∧m.Ok∧Jg ms∧ms.length≤100000∧args=[.slice (ms.map Mov.enc),.agg m.enc]∧K [.own 5 ((putM ms m).map Mov.enc)]:=by
 refine .of (by kernel_rfl) ZdC ?_;rintro _ K ⟨ms,m,hms,hm,hr,hlen,rfl,hK⟩ hsm;refine⟨[.slice (ms.map Mov.enc)]++m.enc,rfl,by exact(show HasKs (.slice mvKs::mvKs) _ from⟨JK hms,Mov.has hm⟩),?_⟩;rw [←Zam hr]at hK;unfold Zan at hK;simp only [zz,reduceCtorEq,t203,List.length_map,Mov.enc];refine Ji ms (fun _ xs a=>Wg m xs a) (fun i a=>[.slice (a.1.map Mov.enc),.bool a.2,.int .i64 i]) (fun i a=>a.1.length≤i+if a.2 then 1 else 0) ([],false) (Wg m ms ([],false)) rfl (by simp) 2 (fun _ _=>rfl) rfl ?_ ?_
 · rintro i hi ⟨out,d⟩ hI hgo;simp only at hI;have hxo:=hms _ (List.getElem_mem hi);have hpe:ms[i].pa=m.pa↔ms[i].pa.ch=m.pa.ch∧ms[i].pa.at_=m.pa.at_:=⟨fun h=>by rw [h];exact⟨rfl,rfl⟩,fun h=>Par.ext' h.1 h.2⟩
   simp only [zz,reduceCtorEq,List.length_map,hi,J0 hi,Mov.enc];intro hcap;refine⟨by cases d <;> simp,?_⟩;refine Z5 Z0R (!d) [.bool (!d&&W3 ms[i].pa m.pa)] (by cases d <;> simp only [zz,reduceCtorEq]) (fun h=>⟨ms[i].pa,m.pa,hxo.1,hm.1,by simp only [zz,reduceCtorEq,J0 hi,Mov.enc,Par.enc],by rw [h];rfl⟩) (fun h=>by rw [h];rfl) ?_;simp only [Wg]at hgo;have e1:(if(!d&&!(!d&&W3 ms[i].pa m.pa))=true then(out++[m],true)else(out,d))=(if(!d&&!W3 ms[i].pa m.pa)=true then(out++[m],true)else(out,d)):=by cases d <;> simp
   rw [←e1]at hgo;rw [e1]at hgo;generalize W3 ms[i].pa m.pa=b at hgo;cases d <;> cases b <;> simp only [zz,reduceCtorEq,List.length_map,hi,J0 hi,Mov.enc,List.length_append] <;> simp [zz] at hgo hI ⊢
   all_goals
     first
       |refine⟨by omega,.inr (by omega),?_⟩
       |refine⟨by omega,fun _=>by omega,?_⟩
       |refine⟨fun _=>by omega,?_⟩
       |refine⟨.inr (by omega),?_⟩
     rcases Decidable.em (ms[i].pa=m.pa)with he|he
     · have h2:=hpe.1 he;rw [if_pos he]at hgo;have hn:¬(¬ms[i].pa.ch=m.pa.ch∨¬ms[i].pa.at_=m.pa.at_):=by omega
       exact⟨_,⟨by rw [if_neg hn] <;> simp [Mov.enc],by rw [Z1] <;> omega⟩,by first|omega|(simp;omega),hgo⟩
     · rw [if_neg he]at hgo;have hn:(¬ms[i].pa.ch=m.pa.ch∨¬ms[i].pa.at_=m.pa.at_):=Decidable.not_and_iff_not_or_not.1 fun h=>he (hpe.2 h)
       exact⟨_,⟨by rw [if_pos hn] <;> simp [Mov.enc],by rw [Z1] <;> omega⟩,by first|omega|(simp;omega),hgo⟩
 · rintro⟨out,d⟩ hI hgo;simp only at hI;simp only [Wg]at hgo;rw [←hgo]at hK;simp only [zz,reduceCtorEq,List.length_map,Nat.lt_irrefl,List.length_append];intro _;cases d <;> simp at hK hI ⊢
   · exact⟨by omega,by simpa [Mov.enc]using hK⟩
   · exact hK
theorem Z7w:Contract Tryz.prog 147 fun args K=>∃(a b:List Mov),(∀m∈a,m.Ok)∧(∀m∈b,m.Ok)∧Jg a∧a.length≤10000∧b.length≤10000∧args=[.slice (a.map Mov.enc),.slice (b.map Mov.enc)]∧K [.d (.slice ((Zh a b).map Mov.enc))]:=by
 refine .of (by kernel_rfl) Zej ?_;rintro _ K ⟨a,b,ha,hb,hra,hla,hlb,rfl,hK⟩ hsm;refine⟨[.slice (a.map Mov.enc),.slice (b.map Mov.enc)],rfl,⟨JK ha,JK hb,trivial⟩,?_⟩;simp only [zz,reduceCtorEq,t147,List.length_map];refine⟨by omega,?_⟩;refine Ji b (fun _ l acc=>Zh acc l) (fun i acc=>[.slice (acc.map Mov.enc),.int .i64 i]) (fun i acc=>(∀m∈acc,m.Ok)∧Jg acc∧acc.length≤10000+i) a (Zh a b) rfl ⟨ha,hra,by omega⟩ 1 (fun _ _=>rfl) rfl ?_ ?_
 · rintro i hi acc ⟨h1,h2,h4⟩ hgo;have hbo:=hb _ (List.getElem_mem hi);have hl1:=Z2M b[i] acc;simp only [zz,reduceCtorEq,List.length_map,hi,J0 hi,Mov.enc];refine fun hcap=>⟨by omega,?_⟩
   refine Z0 Zc1 ⟨acc,b[i],h1,hbo,h2,by omega,by simp only [zz,reduceCtorEq,J0 hi,Mov.enc],_,rfl,?_⟩;simp only [zz,reduceCtorEq];exact⟨putM acc b[i],⟨rfl,by rw [Z1] <;> omega⟩,⟨Zal h1 hbo,JS h2,by omega⟩,hgo⟩
 · rintro acc ⟨h1,h2,h4⟩ hgo;have hgo:acc=Zh a b:=hgo;subst hgo;simp only [zz,reduceCtorEq,List.length_map,Nat.lt_irrefl];exact fun _=>hK
theorem Z9q:Contract Tryz.prog 148 fun args K=>∃(es:List Ent) (p:Int),(∀e∈es,e.Ok)∧I64 p∧es.length≤10000∧args=[.slice (es.map Ent.enc),.int .i64 p]∧K [.own 5 ((givM es p).map Mov.enc)]:=by
 refine .of (by kernel_rfl) Zei ?_;rintro _ K ⟨es,p,hes,hp,hlen,rfl,hK⟩ hsm;refine⟨[.slice (es.map Ent.enc),.int .i64 p],rfl,⟨Jp hes,Y2 hp,trivial⟩,?_⟩;refine Ji es (fun _ es (acc:List Mov)=>acc++givM es p) (fun i acc=>[.slice (acc.map Mov.enc),.int .i64 i]) (fun i acc=>acc.length=i) [] (givM es p) rfl rfl 1 (fun _ _=>rfl) rfl ?_ ?_
 · intro i hi acc hI hgo;simp only [zz,reduceCtorEq,List.length_map,hi,J0 hi,Ent.enc,List.length_append];refine fun hcap=>⟨by omega,by simp;omega,acc++[⟨es[i].pa,es[i].va,p⟩],⟨by simp [Mov.enc],by rw [Z1] <;> omega⟩,by simp [hI],by simp only [givM,List.append_assoc,List.singleton_append,List.map_cons,List.map_drop]at hgo ⊢;exact hgo⟩
 · intro acc hI hgo;simp only [zz,reduceCtorEq,List.length_map,Nat.lt_irrefl];simp only [givM,List.map_nil,List.append_nil]at hgo;rw [hgo];exact fun _=>hK
theorem Z3O:Contract Tryz.prog 95 fun args K=>∃(c:Cue) (ms:List Mov),c.Ok∧(∀m∈ms,m.Ok)∧c.parts.length≤1000000∧args=[.agg c.enc,.slice (ms.map Mov.enc)]∧K [.d (.agg (Cue.enc {c with moves:=ms}))]:=by
 refine .of (by kernel_rfl) ZfO ?_;rintro _ K ⟨c,ms,hc,hms,hl,rfl,hK⟩ hsm;refine⟨c.enc++[.slice (ms.map Mov.enc)],rfl,by exact(Cue.has hc).append (show HasKs [.slice mvKs] [.slice (ms.map Mov.enc)]from⟨JK hms,trivial⟩),?_⟩;simp only [zz,reduceCtorEq,t95,Cue.enc,List.length_map];exact⟨by omega,hK⟩
noncomputable def t58:R:=let x0:T:=Vl (.idx (Va 0) (Va 3) 1 (.int .i64)) (Vl (.idx (Va 0) (Va 3) 2 (.int .i64)) (Vl (.idx (Va 0) (Va 3) 3 (.int .i64)) .lnil));let x2:T:=.idx (Va 0) (Va 3) 0 (.int .i64);let x1:T:=.o2 .app (Va 2) (.push .nils (Vl x2 x0));.fact (.o2 .le (.o1 .len (Va 0)) (Vn 140737488355328)) (.loop 0 [.nils,Vn 0] [.slice enKs,.int .i64] (.ite (.o2 .lt (Va 3) (.o1 .len (Va 0))) (.need (.o2 .le (Vn 0) (Va 3)) (.call none (.val (Va 1)) [Vl x2 x0] [.cell .bool] (.need (.ite (Va 4) (.o2 .le (.o1 .len x1) (Vn 4398046511104)) (.bool true)) (.lets [.ite (Va 4) x1 (Va 2)] (.again 0 [Va 5,.o2 (.add .i64) (Va 3) (Vn 1)]))))) (.ret [.own 4 (Va 2)])))
theorem Zgk:fnO Tryz.prog mdA 58 [.cell (.slice enKs),.cell .fn]=t58:=by kernel_rfl
noncomputable def t68:R:=let x1:T:=Vl (.idx (Va 0) (Va 3) 1 (.int .i64)) .lnil;let x2:T:=.idx (Va 0) (Va 3) 0 (.int .i64);let x0:T:=.o2 .app (Va 2) (.push .nils (Vl x2 x1));.fact (.o2 .le (.o1 .len (Va 0)) (Vn 140737488355328)) (.loop 0 [.nils,Vn 0] [.slice [.int .i64,.int .i64],.int .i64] (.ite (.o2 .lt (Va 3) (.o1 .len (Va 0))) (.need (.o2 .le (Vn 0) (Va 3)) (.call none (.val (Va 1)) [Vl x2 x1] [.cell .bool] (.need (.ite (Va 4) (.o2 .le (.o1 .len x0) (Vn 8796093022208)) (.bool true)) (.lets [.ite (Va 4) x0 (Va 2)] (.again 0 [Va 5,.o2 (.add .i64) (Va 3) (Vn 1)]))))) (.ret [.own 2 (Va 2)])))
theorem Zga:fnO Tryz.prog mdA 68 [.cell (.slice [.int .i64,.int .i64]),.cell .fn]=t68:=by kernel_rfl
noncomputable def t173:R:=let x0:T:=Vl (.idx (Va 0) (Va 3) 1 (.int .i64)) (Vl (.idx (Va 0) (Va 3) 2 (.int .i64)) (Vl (.idx (Va 0) (Va 3) 3 (.int .i64)) (Vl (.idx (Va 0) (Va 3) 4 (.int .i64)) .lnil)));let x2:T:=.idx (Va 0) (Va 3) 0 (.int .i64);let x1:T:=.o2 .app (Va 2) (.push .nils (Vl x2 x0));.fact (.o2 .le (.o1 .len (Va 0)) (Vn 140737488355328)) (.loop 0 [.nils,Vn 0] [.slice mvKs,.int .i64] (.ite (.o2 .lt (Va 3) (.o1 .len (Va 0))) (.need (.o2 .le (Vn 0) (Va 3)) (.call none (.val (Va 1)) [Vl x2 x0] [.cell .bool] (.need (.ite (Va 4) (.o2 .le (.o1 .len x1) (Vn 3518437208883)) (.bool true)) (.lets [.ite (Va 4) x1 (Va 2)] (.again 0 [Va 5,.o2 (.add .i64) (Va 3) (Vn 1)]))))) (.ret [.own 5 (Va 2)])))
theorem ZdZ:fnO Tryz.prog mdA 173 [.cell (.slice mvKs),.cell .fn]=t173:=by kernel_rfl
noncomputable def t63:R:=let x0:T:=.push .nils (Vl (Va 4) (Vl (Va 5) (Vl (Va 6) (Vl (Va 7) .lnil))));let x1:List K:=enKs;.fact (.o2 .le (.o1 .len (Va 0)) (Vn 140737488355328)) (.loop 0 [.nils,Vn 0] [.slice x1,.int .i64] (.ite (.o2 .lt (Va 3) (.o1 .len (Va 0))) (.need (.o2 .le (Vn 0) (Va 3)) (.call none (.val (Va 1)) [Vl (.idx (Va 0) (Va 3) 0 (.int .i64)) (Vl (.idx (Va 0) (Va 3) 1 (.int .i64)) (Vl (.idx (Va 0) (Va 3) 2 (.int .i64)) (Vl (.idx (Va 0) (Va 3) 3 (.int .i64)) .lnil)))] [.agg x1] (.need (.o2 .le (.o1 .len (.o2 .app (Va 2) x0)) (Vn 4398046511104)) (.again 0 [.o2 .app (Va 2) x0,.o2 (.add .i64) (Va 3) (Vn 1)])))) (.ret [.own 4 (Va 2)])))
theorem Zgf:fnO Tryz.prog mdA 63 [.cell (.slice enKs),.cell .fn]=t63:=by kernel_rfl
noncomputable def t70:R:=let x0:T:=.push .nils (Vl (Va 4) (Vl (Va 5) (Vl (Va 6) (Vl (Va 7) .lnil))));let x1:List K:=enKs;.fact (.o2 .le (.o1 .len (Va 0)) (Vn 140737488355328)) (.loop 0 [.nils,Vn 0] [.slice x1,.int .i64] (.ite (.o2 .lt (Va 3) (.o1 .len (Va 0))) (.need (.o2 .le (Vn 0) (Va 3)) (.call none (.val (Va 1)) [Vl (.idx (Va 0) (Va 3) 0 (.int .i64)) (Vl (.idx (Va 0) (Va 3) 1 (.int .i64)) .lnil)] [.agg x1] (.need (.o2 .le (.o1 .len (.o2 .app (Va 2) x0)) (Vn 4398046511104)) (.again 0 [.o2 .app (Va 2) x0,.o2 (.add .i64) (Va 3) (Vn 1)])))) (.ret [.own 4 (Va 2)])))
theorem Zg8:fnO Tryz.prog mdA 70 [.cell (.slice [.int .i64,.int .i64]),.cell .fn]=t70:=by kernel_rfl
noncomputable def t53:R:=.call none (.fn 31) [Va 2,.clo 123 (Vl (.ptr (Vl (Va 3) .lnil)) .lnil)] [.cell (.int .i64)] (.ret [.d (Va 4)])
theorem Zgp:fnO Tryz.prog mdA 53 [.agg liKs,.cell .str]=t53:=by kernel_rfl
noncomputable def t123:R:=.ret [.d (.o2 .eq (Va 0) (.fld (Va 9) 0 .str))]
theorem ZeC:fnO Tryz.prog mdA 123 ([.agg J9]++[.cell (.ptr [.str])])=t123:=by kernel_rfl
theorem c123:J2 Tryz.prog 123=true:=by kernel_rfl
noncomputable def t57:R:=let x0:T:=Vl (.idx (Va 4) (Va 6) 0 (.int .i64)) (Vl (.idx (Va 4) (Va 6) 1 (.int .i64)) .lnil);let x1:T:=Vl (Vl (.idx (Va 4) (Va 6) 2 (.int .i64)) (Vl (.idx (Va 4) (Va 6) 3 (.int .i64)) .lnil)) .lnil;.ite (.o2 .ge (Va 3) (Vn 0)) (.need (.o2 .le (Vn 0) (Va 3)) (.need (.o2 .lt (Va 3) (.o1 .len (Va 2))) (.call none (.fn 18) [Vl (Va 0) (Vl (Va 1) (Vl (Va 2) .lnil)),.idx (Va 2) (Va 3) 0 .str] [.cell (.slice enKs),.cell (.int .i64)] (.fact (.o2 .le (.o1 .len (Va 4)) (Vn 140737488355328)) (.loop 0 [Vn 0,.nils] [.int .i64,.slice [.agg [.int .i64,.int .i64],.agg [.int .i64,.int .i64]]] (.ite (.o2 .lt (Va 6) (.o1 .len (Va 4))) (.need (.o2 .le (Vn 0) (Va 6)) (.again 0 [.o2 (.add .i64) (Va 6) (Vn 1),.ite (.o2 .ge (.o2 .find (Va 7) x0) (Vn 0)) (.upd (Va 7) (.o2 .find (Va 7) x0) 1 x1) (.push (Va 7) (Vl x0 x1))])) (.ret [.d (.clo 132 (Vl (.ptr (Vl (.o1 .mpd (Va 7)) .lnil)) .lnil))]))))))) (.ret [.d (.clo 132 (Vl (.ptr (Vl (.o1 .mpd .nils) .lnil)) .lnil))])
theorem Zgl:fnO Tryz.prog mdA 57 [.agg liKs,.cell (.int .i64)]=t57:=by kernel_rfl
noncomputable def t132:R:=let x2:List K:=[.int .i64,.int .i64];let x0:T:=.o1 .rows (.fld (Va 2) 0 (.mp [.agg x2,.agg x2]));let x1:T:=.o2 .find x0 (Vl (Va 0) (Vl (Va 1) .lnil));.ite (.o2 .ge x1 (Vn 0)) (.ret [.d (Vl (.sel (.idx x0 x1 1 (.agg x2)) (Vn 0) (.int .i64)) (Vl (.sel (.idx x0 x1 1 (.agg x2)) (Vn 1) (.int .i64)) .lnil))]) (.call none (.fn 100) [] [.agg x2] (.ret [.d (Vl (Va 3) (Vl (Va 4) .lnil))]))
theorem Zet:fnO Tryz.prog mdA 132 ([.agg [.int .i64,.int .i64]]++[.cell (.ptr [.mp [.agg paKs,.agg paKs]])])=t132:=by kernel_rfl
theorem c132:J2 Tryz.prog 132=true:=by kernel_rfl
noncomputable def t100:R:=.ret [.d (Vl (Vn (-1)) (Vl (Vn 0) .lnil))]
theorem ZeV:fnO Tryz.prog mdA 100 []=t100:=by kernel_rfl
noncomputable def t60:R:=.need (.o2 .le (Vn 0) (Va 3)) (.need (.o2 .lt (Va 3) (.o1 .len (Va 2))) (.call none (.fn 133) [.idx (Va 2) (Va 3) 2 (.slice mvKs),.clo 134 (Vl (.ptr (Vl (Va 4) (Vl (Va 5) .lnil))) .lnil)] [.cell .bool] (.ret [.d (Va 6)])))
theorem Zgi:fnO Tryz.prog mdA 60 [.agg liKs,.cell (.int .i64),.agg [.int .i64,.int .i64]]=t60:=by kernel_rfl
noncomputable def t134:R:=.ret [.d (.o2 .band (.o2 .eq (Va 0) (.fld (Va 5) 0 (.int .i64))) (.o2 .band (.o2 .eq (Va 1) (.fld (Va 5) 1 (.int .i64))) (.bool true)))]
theorem Zer:fnO Tryz.prog mdA 134 ([.agg mvKs]++[.cell (.ptr paKs)])=t134:=by kernel_rfl
theorem c134:J2 Tryz.prog 134=true:=by kernel_rfl
noncomputable def t61:R:=.ite (.o2 .ne (Va 3) (Vn 0)) (.ret [.d (Vl (Vn 0) (Vl (Vn 0) (Vl .nils .lnil))),.d (Va 3)]) (.ret [.d (Vl (Va 0) (Vl (Va 1) (Vl (Va 2) .lnil))),.d (Vn 0)])
theorem Zgh:fnO Tryz.prog mdA 61 [.agg liKs,.cell (.int .i64)]=t61:=by kernel_rfl
noncomputable def t62:R:=let x1:List K:=tmKs;let x2:List K:=mvKs;let x0:List K:=[.str,.str,.slice x2,.slice x1,.bool,.bool,.int .i64,.str,.int .i64];.need (.o2 .le (Vn 0) (Va 3)) (.need (.o2 .lt (Va 3) (.o1 .len (Va 2))) (.call none (.fn 54) [Vl (.idx (Va 2) (Va 3) 0 .str) (Vl (.idx (Va 2) (Va 3) 1 .str) (Vl (.idx (Va 2) (Va 3) 2 (.slice x2)) (Vl (.idx (Va 2) (Va 3) 3 (.slice x1)) (Vl (.idx (Va 2) (Va 3) 4 .bool) (Vl (.idx (Va 2) (Va 3) 5 .bool) (Vl (.idx (Va 2) (Va 3) 6 (.int .i64)) (Vl (.idx (Va 2) (Va 3) 7 .str) (Vl (.idx (Va 2) (Va 3) 8 (.int .i64)) .lnil)))))))),Va 4,Vn 1] [.agg x0,.cell (.int .i64)] (.ite (.o2 .ne (Va 14) (Vn 0)) (.ret [.d (Vl (Vn 0) (Vl (Vn 0) (Vl .nils .lnil))),.d (Va 14)]) (.call none (.fn 90) [Vl (Va 0) (Vl (Va 1) (Vl (Va 2) .lnil)),Va 3,Vl (Va 5) (Vl (Va 6) (Vl (Va 7) (Vl (Va 8) (Vl (Va 9) (Vl (Va 10) (Vl (Va 11) (Vl (Va 12) (Vl (Va 13) .lnil))))))))] [.agg [.int .i64,.int .i64,.slice x0]] (.ret [.d (Vl (Va 15) (Vl (Va 16) (Vl (Va 17) .lnil))),.d (Vn 0)])))))
theorem Zgg:fnO Tryz.prog mdA 62 [.agg liKs,.cell (.int .i64),.cell (.slice enKs)]=t62:=by kernel_rfl
noncomputable def t65:R:=let x0:T:=Vl (Va 1) (Vl (Va 2) .lnil);.call none (.fn 135) [Vl (Va 0) x0,Va 3] [.cell (.int .i64),.cell .bool,.cell (.int .i64)] (.lets [.ite (.ite (.o2 .eq (Va 6) (Vn 0)) (.o1 .not (Va 5)) (.bool false)) (Vn 6) (Va 6)] (.ret [.d (Vl (Va 0) x0),.d (Va 4),.d (Va 7)]))
theorem Zgd:fnO Tryz.prog mdA 65 [.agg liKs,.cell .str]=t65:=by kernel_rfl
noncomputable def t90:R:=.call none (.fn 137) [Va 2] [.own J9] (.need (.o2 .le (Vn 0) (Va 3)) (.need (.o2 .lt (Va 3) (.o1 .len (Va 13))) (.ret [.d (Vl (Va 0) (Vl (Va 1) (Vl (.upd (Va 13) (Va 3) 0 (Vl (Va 4) (Vl (Va 5) (Vl (Va 6) (Vl (Va 7) (Vl (Va 8) (Vl (Va 9) (Vl (Va 10) (Vl (Va 11) (Vl (Va 12) .lnil)))))))))) .lnil)))])))
theorem ZfT:fnO Tryz.prog mdA 90 [.agg liKs,.cell (.int .i64),.agg J9]=t90:=by kernel_rfl
def Z5T {X Y:Type} (P:Program) (fv:D) (enc:X→List D) (enc':Y→List D) (l:List X) (g:X→Y):Prop:=∃sf,FvC P fv sf∧∀x∈l,sf [.agg (enc x)] fun rs=>rs=[.d (.agg (enc' (g x)))]
theorem Z0d:Contract Tryz.prog 58 fun args K=>∃(l:List Ent) (p:Ent→Bool) (f:FuncId) (caps:List D),(∀x∈l,x.Ok)∧l.length≤100000∧args=[.slice (l.map Ent.enc),.clo f caps]∧YC Tryz.prog (.clo f caps) Ent.enc l p∧K [.own 4 ((l.filter p).map Ent.enc)]:=by
 refine .of (by kernel_rfl) Zgk ?_;rintro _ K ⟨l,p,f,caps,hl,hlen,rfl,⟨sf,hf,hs⟩,hK⟩ hsm;refine⟨[.slice (l.map Ent.enc),.clo f caps],rfl,⟨Y6 fun x hx=>Ent.has (hl x hx),trivial,trivial⟩,?_⟩;simp only [zz,reduceCtorEq,t58,List.length_map];intro hcap;refine Ji l (fun _ l' acc=>acc++l'.filter p) (fun i acc=>[.slice (acc.map Ent.enc),.int .i64 i]) (fun i acc=>acc.length≤i) [] (l.filter p) (by simp) (by simp) 1 (fun _ _=>rfl) rfl ?_ ?_
 · intro i hi acc hI hgo;simp only [zz,reduceCtorEq,List.length_map,hi,Ent.enc,J0 hi];refine⟨by omega,Z7 (FvC.up' (s:=sf) (fv:=.clo f caps) hf) ⟨fun rs=>rs=[.d (.bool (p l[i]))],?_,fun rs h=>⟨[.bool (p l[i])],by rw [h];rfl,by simp [RK.all,RK.kinds,HasKs,HasK],?_⟩⟩⟩
   · simp only [zz,reduceCtorEq,J0 hi,Ent.enc];exact hs l[i] (List.getElem_mem hi)
   · rw [List.filter_cons]at hgo;cases hp:p l[i]with
     | true=>
       simp only [zz,reduceCtorEq,List.length_map,List.length_append,J0 hi,Ent.enc];exact⟨by simp;omega,acc++[l[i]],⟨by simp [Ent.enc],by rw [Z1] <;> omega⟩,by simp;omega,by simpa [hp]using hgo⟩
     | false=>
       simp only [zz,reduceCtorEq,List.length_map,List.length_append];exact⟨acc,⟨by simp,by rw [Z1] <;> omega⟩,by omega,by simpa [hp]using hgo⟩
 · intro acc hI hgo;simp only [List.filter_nil,List.append_nil]at hgo;subst hgo;simp only [zz,reduceCtorEq,List.length_map,Nat.lt_irrefl];exact hK
theorem Z6S:Contract Tryz.prog 68 fun args K=>∃(l:List Par) (p:Par→Bool) (f:FuncId) (caps:List D),(∀x∈l,x.Ok)∧l.length≤100000∧args=[.slice (l.map Par.enc),.clo f caps]∧YC Tryz.prog (.clo f caps) Par.enc l p∧K [.own 2 ((l.filter p).map Par.enc)]:=by
 refine .of (by kernel_rfl) Zga ?_;rintro _ K ⟨l,p,f,caps,hl,hlen,rfl,⟨sf,hf,hs⟩,hK⟩ hsm;refine⟨[.slice (l.map Par.enc),.clo f caps],rfl,⟨Y6 fun x hx=>Par.has (hl x hx),trivial,trivial⟩,?_⟩;simp only [zz,reduceCtorEq,t68,List.length_map];intro hcap;refine Ji l (fun _ l' acc=>acc++l'.filter p) (fun i acc=>[.slice (acc.map Par.enc),.int .i64 i]) (fun i acc=>acc.length≤i) [] (l.filter p) (by simp) (by simp) 1 (fun _ _=>rfl) rfl ?_ ?_
 · intro i hi acc hI hgo;simp only [zz,reduceCtorEq,List.length_map,hi,Par.enc,J0 hi];refine⟨by omega,Z7 (FvC.up' (s:=sf) (fv:=.clo f caps) hf) ⟨fun rs=>rs=[.d (.bool (p l[i]))],?_,fun rs h=>⟨[.bool (p l[i])],by rw [h];rfl,by simp [RK.all,RK.kinds,HasKs,HasK],?_⟩⟩⟩
   · simp only [zz,reduceCtorEq,J0 hi,Par.enc];exact hs l[i] (List.getElem_mem hi)
   · rw [List.filter_cons]at hgo;cases hp:p l[i]with
     | true=>
       simp only [zz,reduceCtorEq,List.length_map,List.length_append,J0 hi,Par.enc];exact⟨by simp;omega,acc++[l[i]],⟨by simp [Par.enc],by rw [Z1] <;> omega⟩,by simp;omega,by simpa [hp]using hgo⟩
     | false=>
       simp only [zz,reduceCtorEq,List.length_map,List.length_append];exact⟨acc,⟨by simp,by rw [Z1] <;> omega⟩,by omega,by simpa [hp]using hgo⟩
 · intro acc hI hgo;simp only [List.filter_nil,List.append_nil]at hgo;subst hgo;simp only [zz,reduceCtorEq,List.length_map,Nat.lt_irrefl];exact hK
theorem Z6T:Contract Tryz.prog 173 fun args K=>∃(l:List Mov) (p:Mov→Bool) (f:FuncId) (caps:List D),(∀x∈l,x.Ok)∧l.length≤100000∧args=[.slice (l.map Mov.enc),.clo f caps]∧YC Tryz.prog (.clo f caps) Mov.enc l p∧K [.own 5 ((l.filter p).map Mov.enc)]:=by
 refine .of (by kernel_rfl) ZdZ ?_;rintro _ K ⟨l,p,f,caps,hl,hlen,rfl,⟨sf,hf,hs⟩,hK⟩ hsm;refine⟨[.slice (l.map Mov.enc),.clo f caps],rfl,⟨Y6 fun x hx=>Mov.has (hl x hx),trivial,trivial⟩,?_⟩;simp only [zz,reduceCtorEq,t173,List.length_map];intro hcap;refine Ji l (fun _ l' acc=>acc++l'.filter p) (fun i acc=>[.slice (acc.map Mov.enc),.int .i64 i]) (fun i acc=>acc.length≤i) [] (l.filter p) (by simp) (by simp) 1 (fun _ _=>rfl) rfl ?_ ?_
 · intro i hi acc hI hgo;simp only [zz,reduceCtorEq,List.length_map,hi,Mov.enc,J0 hi];refine⟨by omega,Z7 (FvC.up' (s:=sf) (fv:=.clo f caps) hf) ⟨fun rs=>rs=[.d (.bool (p l[i]))],?_,fun rs h=>⟨[.bool (p l[i])],by rw [h];rfl,by simp [RK.all,RK.kinds,HasKs,HasK],?_⟩⟩⟩
   · simp only [zz,reduceCtorEq,J0 hi,Mov.enc];exact hs l[i] (List.getElem_mem hi)
   · rw [List.filter_cons]at hgo;cases hp:p l[i]with
     | true=>
       simp only [zz,reduceCtorEq,List.length_map,List.length_append,J0 hi,Mov.enc];exact⟨by simp;omega,acc++[l[i]],⟨by simp [Mov.enc],by rw [Z1] <;> omega⟩,by simp;omega,by simpa [hp]using hgo⟩
     | false=>
       simp only [zz,reduceCtorEq,List.length_map,List.length_append];exact⟨acc,⟨by simp,by rw [Z1] <;> omega⟩,by omega,by simpa [hp]using hgo⟩
 · intro acc hI hgo;simp only [List.filter_nil,List.append_nil]at hgo;subst hgo;simp only [zz,reduceCtorEq,List.length_map,Nat.lt_irrefl];exact hK
theorem Z9i:Contract Tryz.prog 63 fun args K=>∃(l:List Ent) (g:Ent→Ent) (f:FuncId) (caps:List D),(∀x∈l,x.Ok)∧(∀x∈l,(g x).Ok)∧l.length≤100000∧args=[.slice (l.map Ent.enc),.clo f caps]∧Z5T Tryz.prog (.clo f caps) Ent.enc Ent.enc l g∧K [.own 4 ((l.map g).map Ent.enc)]:=by
 refine .of (by kernel_rfl) Zgf ?_;rintro _ K ⟨l,g,f,caps,hl,hg,hlen,rfl,⟨sf,hf,hs⟩,hK⟩ hsm;refine⟨[.slice (l.map Ent.enc),.clo f caps],rfl,⟨Y6 fun x hx=>Ent.has (hl x hx),trivial,trivial⟩,?_⟩;simp only [zz,reduceCtorEq,t63,List.length_map];intro hcap;refine Ji l (fun _ l' acc=>acc++l'.map g) (fun i acc=>[.slice (acc.map Ent.enc),.int .i64 i]) (fun i acc=>acc.length=i) [] (l.map g) (by simp) (by simp) 1 (fun _ _=>rfl) rfl ?_ ?_
 · intro i hi acc hI hgo;have hgo':=hg _ (List.getElem_mem hi);simp only [zz,reduceCtorEq,List.length_map,hi,Ent.enc,J0 hi];refine⟨by omega,Z7 (FvC.up' (s:=sf) (fv:=.clo f caps) hf) ⟨fun rs=>rs=[.d (.agg (g l[i]).enc)],?_,fun rs h=>⟨(g l[i]).enc,by rw [h];rfl,Ent.has hgo',?_⟩⟩⟩
   · simp only [zz,reduceCtorEq,J0 hi,Ent.enc];exact hs l[i] (List.getElem_mem hi)
   · simp only [zz,reduceCtorEq,List.length_map,List.length_append,Ent.enc];exact⟨by simp;omega,acc++[g l[i]],⟨by simp [Ent.enc],by rw [Z1] <;> omega⟩,by simp;omega,by simp only [List.append_assoc,List.singleton_append,List.map_cons,List.map_nil,List.map_append,List.map_drop]at hgo ⊢;exact hgo⟩
 · intro acc hI hgo;simp only [List.map_nil,List.append_nil]at hgo;subst hgo;simp only [zz,reduceCtorEq,List.length_map,Nat.lt_irrefl];exact hK
theorem Z9h:Contract Tryz.prog 70 fun args K=>∃(l:List Par) (g:Par→Ent) (f:FuncId) (caps:List D),(∀x∈l,x.Ok)∧(∀x∈l,(g x).Ok)∧l.length≤100000∧args=[.slice (l.map Par.enc),.clo f caps]∧Z5T Tryz.prog (.clo f caps) Par.enc Ent.enc l g∧K [.own 4 ((l.map g).map Ent.enc)]:=by
 refine .of (by kernel_rfl) Zg8 ?_;rintro _ K ⟨l,g,f,caps,hl,hg,hlen,rfl,⟨sf,hf,hs⟩,hK⟩ hsm;refine⟨[.slice (l.map Par.enc),.clo f caps],rfl,⟨Y6 fun x hx=>Par.has (hl x hx),trivial,trivial⟩,?_⟩;simp only [zz,reduceCtorEq,t70,List.length_map];intro hcap;refine Ji l (fun _ l' acc=>acc++l'.map g) (fun i acc=>[.slice (acc.map Ent.enc),.int .i64 i]) (fun i acc=>acc.length=i) [] (l.map g) (by simp) (by simp) 1 (fun _ _=>rfl) rfl ?_ ?_
 · intro i hi acc hI hgo;have hgo':=hg _ (List.getElem_mem hi);simp only [zz,reduceCtorEq,List.length_map,hi,Par.enc,J0 hi];refine⟨by omega,Z7 (FvC.up' (s:=sf) (fv:=.clo f caps) hf) ⟨fun rs=>rs=[.d (.agg (g l[i]).enc)],?_,fun rs h=>⟨(g l[i]).enc,by rw [h];rfl,Ent.has hgo',?_⟩⟩⟩
   · simp only [zz,reduceCtorEq,J0 hi,Par.enc];exact hs l[i] (List.getElem_mem hi)
   · simp only [zz,reduceCtorEq,List.length_map,List.length_append,Ent.enc];exact⟨by simp;omega,acc++[g l[i]],⟨by simp [Ent.enc],by rw [Z1] <;> omega⟩,by simp;omega,by simp only [List.append_assoc,List.singleton_append,List.map_cons,List.map_nil,List.map_append,List.map_drop]at hgo ⊢;exact hgo⟩
 · intro acc hI hgo;simp only [List.map_nil,List.append_nil]at hgo;subst hgo;simp only [zz,reduceCtorEq,List.length_map,Nat.lt_irrefl];exact hK
theorem Zfm:Contract Tryz.prog 123 fun args K=>∃(c:Cue) (s:List UInt8),c.Ok∧args=[.agg c.enc,.ptr [.str s]]∧K [.d (.bool (c.num==s))]:=by
 refine .of c123 ZeC ?_;rintro _ K ⟨c,s,hc,rfl,hK⟩ hsm;refine⟨c.enc++[.ptr [.str s]],rfl,by exact(Cue.has hc).append (show HasKs [.ptr [.str]] [.ptr [.str s]]from⟨⟨trivial,trivial⟩,trivial⟩),?_⟩;simp only [zz,reduceCtorEq,t123,Cue.enc];exact hK
theorem ZaP (l:List Cue) (hl:∀c∈l,c.Ok) (s:List UInt8):YC Tryz.prog (.clo 123 [.ptr [.str s]]) Cue.enc l (fun c=>c.num==s):=by
 refine⟨fun as_ K=>∃c:Cue,c.Ok∧as_=[.agg c.enc]∧K [.d (.bool (c.num==s))],FvC.of c123 Zfm ?_,fun c hc=>⟨c,hl c hc,rfl,rfl⟩⟩;rintro _ K ⟨c,hc,rfl,hK⟩;refine⟨⟨c,s,hc,rfl,hK⟩,J4 [some (.agg J9)] (by kernel_rfl) ?_⟩;intro i rk d h1 h2;cases i with
 |zero=>simp at h1 h2;subst h1 h2;exact Cue.has hc
 |succ i=>simp at h1
theorem ZbD:Contract Tryz.prog 53 fun args K=>∃(l:Lis) (s:List UInt8),l.Ok∧args=[.agg l.enc,.str s]∧K [.d (.int .i64 (place l.cues s))]:=by
 refine .of (by kernel_rfl) Zgp ?_;rintro _ K ⟨l,s,hl,rfl,hK⟩ hsm;refine⟨l.enc++[.str s],rfl,by exact Z1o hl,?_⟩;refine Z0 Z0O ⟨l.cues,fun c=>c.num==s,123,[.ptr [.str s]],hl.cues,rfl,ZaP l.cues hl.cues s,_,rfl,?_⟩;simp only [zz,reduceCtorEq,Lis.enc];exact hK
theorem YY:Contract Tryz.prog 90 fun args K=>∃(l:Lis) (i:Nat) (c:Cue),l.Ok∧c.Ok∧i < l.cues.length∧l.cues.length≤1000000∧args=[.agg l.enc,.int .i64 i,.agg c.enc]∧K [.d (.agg (Lis.enc {l with cues:=l.cues.set i c}))]:=by
 refine .of (by kernel_rfl) ZfT ?_;rintro _ K ⟨l,i,c,hl,hc,hi,hlen,rfl,hK⟩ hsm;refine⟨l.enc++[.int .i64 (i:Nat)]++c.enc,rfl,by exact(show HasKs ((liKs++[.int .i64])++J9) _ from((Lis.has hl).append (WV (v:=(i:Nat)) ⟨by omega,by omega⟩)).append (Cue.has hc)),?_⟩;refine Z0 Z3Q ⟨l.cues,hl.cues,hlen,by simp only [zz,reduceCtorEq,Lis.enc],_,rfl,?_⟩;simp only [zz,reduceCtorEq,Lis.enc,Cue.enc,List.length_map,hi,D.upd];refine⟨by omega,?_⟩;have e:=Za5 hi c;simp only [Lis.enc, ←e]at hK;exact hK
theorem ZaW {l:Lis} (hl:l.Ok) {i:Int} (hi:I64 i) {es:List Ent} (hes:∀e∈es,e.Ok):HasKs ((liKs++[.int .i64])++[.slice enKs]) ((l.enc++[.int .i64 i])++[.slice (es.map Ent.enc)]):=
 ((Lis.has hl).append (WV hi)).append (show HasKs [.slice enKs] [.slice (es.map Ent.enc)]from⟨Jp hes,trivial⟩)
def ZN (l:Lis) (i:Nat) (c:Cue) (es:List Ent):Lis×Int:=if(setR c es 1).2≠0 then(zeroL,(setR c es 1).2)else({l with cues:=l.cues.set i (setR c es 1).1},0)
theorem Z3E:Contract Tryz.prog 62 fun args K=>∃(l:Lis) (i:Nat) (es:List Ent) (hi:i < l.cues.length),l.Ok∧(∀e∈es,e.Ok)∧l.cues.length≤1000000∧args=[.agg l.enc,.int .i64 i,.slice (es.map Ent.enc)]∧
   K [.d (.agg (ZN l i l.cues[i] es).1.enc),.d (.int .i64 (ZN l i l.cues[i] es).2)]:=by
 refine .of (by kernel_rfl) Zgg ?_;rintro _ K ⟨l,i,es,hi,hl,hes,hlen,rfl,hK⟩ hsm;have h1:I64 1:=⟨by decide,by decide⟩
 refine⟨(l.enc++[.int .i64 (i:Nat)])++[.slice (es.map Ent.enc)],rfl,by exact ZaW hl ⟨by omega,by omega⟩ hes,?_⟩;have hc:=hl.cues _ (List.getElem_mem hi);simp only [zz,reduceCtorEq,t62,Lis.enc,List.length_map,hi];refine⟨by omega,?_⟩;refine Z0 Z7Q ⟨l.cues[i],es,1,hc,hes,h1,by simp only [zz,reduceCtorEq,J0 hi,Cue.enc,Lis.enc],_,rfl,?_⟩;have hS:=ZeZ hc hes h1;unfold ZN at hK;generalize setR l.cues[i] es 1=r at hK hS;obtain⟨c',e⟩:=r;simp only at hK hS;by_cases he:e=0
 · subst he;simp only [zz,reduceCtorEq,Lis.enc,Cue.enc];refine Z0 YY ⟨l,i,c',hl,hS,hi,hlen,by simp only [zz,reduceCtorEq,Lis.enc,Cue.enc],_,rfl,?_⟩;simp only [zz,reduceCtorEq,Lis.enc,Cue.enc];simpa [Lis.enc]using hK
 · rw [if_pos he]at hK;simp only [zz,reduceCtorEq,Lis.enc,Cue.enc,he];simpa [Lis.enc,zeroL]using hK
theorem Z9m:Contract Tryz.prog 134 fun args K=>∃(m:Mov) (p:Par),m.Ok∧p.Ok∧args=[.agg m.enc,.ptr p.enc]∧K [.d (.bool (decide (m.pa=p)))]:=by
 refine .of c134 Zer ?_;rintro _ K ⟨m,p,hm,hp,rfl,hK⟩ hsm;refine⟨m.enc++[.ptr p.enc],rfl,by exact(Mov.has hm).append (show HasKs [.ptr paKs] [.ptr p.enc]from⟨Par.has hp,trivial⟩),?_⟩;simp only [zz,reduceCtorEq,t134,Mov.enc,Par.enc];have e:decide (m.pa=p)=(decide (m.pa.ch=p.ch)&&decide (m.pa.at_=p.at_)):=by
   rw [Bool.eq_iff_iff];simp only [decide_eq_true_eq,Bool.and_eq_true];exact⟨fun h=>by rw [h];exact⟨rfl,rfl⟩,fun h=>Par.ext' h.1 h.2⟩
 rw [e]at hK;simpa using hK
theorem Z6L (l:List Mov) (hl:∀c∈l,c.Ok) {p:Par} (hp:p.Ok):YC Tryz.prog (.clo 134 [.ptr p.enc]) Mov.enc l (fun m=>decide (m.pa=p)):=by
 refine⟨fun as_ K=>∃m:Mov,m.Ok∧as_=[.agg m.enc]∧K [.d (.bool (decide (m.pa=p)))],FvC.of c134 Z9m ?_,fun c hc=>⟨c,hl c hc,rfl,rfl⟩⟩;rintro _ K ⟨c,hc,rfl,hK⟩;refine⟨⟨c,p,hc,hp,rfl,hK⟩,J4 [some (.agg mvKs)] (by kernel_rfl) ?_⟩;intro i rk d h1 h2;cases i with
 |zero=>simp at h1 h2;subst h1 h2;exact Mov.has hc
 |succ i=>simp at h1
theorem Z0o:Contract Tryz.prog 60 fun args K=>∃(l:Lis) (i:Nat) (p:Par) (hi:i < l.cues.length),l.Ok∧p.Ok∧l.cues.length≤1000000∧args=[.agg l.enc,.int .i64 i,.agg p.enc]∧K [.d (.bool (Wb p l.cues[i]))]:=by
 refine .of (by kernel_rfl) Zgi ?_;rintro _ K ⟨l,i,p,hi,hl,hp,hlen,rfl,hK⟩ hsm;refine⟨l.enc++[.int .i64 (i:Nat)]++p.enc,rfl,by exact(show HasKs ((liKs++[.int .i64])++paKs) _ from((Lis.has hl).append (WV (v:=(i:Nat)) ⟨by omega,by omega⟩)).append (Par.has hp)),?_⟩;have hc:=hl.cues _ (List.getElem_mem hi);simp only [zz,reduceCtorEq,t60,Lis.enc,List.length_map,hi];refine⟨by omega,?_⟩;refine Z0 Z0A ⟨l.cues[i].moves,fun m=>decide (m.pa=p),134,[.ptr p.enc],hc.moves,by simp only [zz,reduceCtorEq,J0 hi,Cue.enc,Par.enc,Lis.enc],Z6L _ hc.moves hp,_,rfl,?_⟩;simp only [zz,reduceCtorEq,Lis.enc,Par.enc];rw [Z0k];exact hK
theorem YP:Contract Tryz.prog 65 fun args K=>∃(l:Lis) (s:List UInt8),l.Ok∧args=[.agg l.enc,.str s]∧K [.d (.agg l.enc),.d (.int .i64 (Yp l s).1),.d (.int .i64 (Jf l s))]:=by
 refine .of (by kernel_rfl) Zgd ?_;rintro _ K ⟨l,s,hl,rfl,hK⟩ hsm;refine⟨l.enc++[.str s],rfl,by exact Z1o hl,?_⟩;refine Z0 Z5J ⟨l,s,hl,by simp only [zz,reduceCtorEq,Lis.enc],_,rfl,?_⟩;have e:Jf l s=if(Yp l s).2.2=0∧(Yp l s).2.1=false then 6 else(Yp l s).2.2:=by
   unfold Jf Yn Yp Ym;by_cases h1:W8 W4 l=0
   · simp only [h1,ne_eq,not_true_eq_false,if_false];by_cases h2:Z4 s=0
     · simp only [h2,ne_eq,not_true_eq_false,if_false];by_cases h3:place l.cues s < 0
       · have:¬0≤place l.cues s:=by omega
         simp [h3,this]
       · have:0≤place l.cues s:=by omega
         simp [h3,this]
     · simp [h2]
   · simp [h1]
 rw [e]at hK;simp only [zz,reduceCtorEq,Lis.enc];by_cases h1:(Yp l s).2.2=0
 · cases h2:(Yp l s).2.1 <;> simp [h1,h2,Lis.enc]at hK ⊢ <;> exact hK
 · simp [h1,Lis.enc]at hK ⊢;exact hK
theorem Z09:Contract Tryz.prog 100 fun args K=>args=[]∧K [.d (.agg hval.enc)]:=by
 refine .of (by kernel_rfl) ZeV ?_;rintro _ K ⟨rfl,hK⟩ hsm;exact⟨[],rfl,trivial,hK⟩
def rowE (e:Ent):List D:=[.agg e.pa.enc,.agg e.va.enc]
def Z10 (es:List Ent):List (List D):=es.map rowE
def wOf (es:List Ent) (p:Par):Val:=((Z2F es p).map (·.va)).getD hval
theorem Z0c (p:Par):∀(es:List Ent) (i:Nat),(Z2F es p=none∧D.findRow (.agg p.enc) (Z10 es) i= -1)∨∃(j:Nat) (hj:j < es.length),Z2F es p=some es[j]∧D.findRow (.agg p.enc) (Z10 es) i=((i+j:Nat):Int)
 | [],i=>.inl ⟨rfl,rfl⟩
 | e ::es,i=>by
   have e1:D.findRow (.agg p.enc) (Z10 (e::es)) i=if p=e.pa then(i:Int)else D.findRow (.agg p.enc) (Z10 es) (i+1):=by
     simp only [Z10,List.map_cons,D.findRow,rowE,List.headD_cons,Z8e,decide_eq_true_eq]
   rw [e1];by_cases h:p=e.pa
   · exact .inr ⟨0,by simp,by simp [Z2F,h],by rw [if_pos h];simp⟩
   · have h':¬e.pa=p:=fun x=>h x.symm
     have e2:Z2F (e::es) p=Z2F es p:=by simp [Z2F,h']
     rw [if_neg h,e2];rcases Z0c p es (i+1)with⟨h1,h2⟩|⟨j,hj,h1,h2⟩
     · exact .inl ⟨h1,h2⟩
     · exact .inr ⟨j+1,by simp;omega,by simpa using h1,by rw [h2];congr 1;omega⟩
theorem ZbU {es:List Ent} (h:∀e∈es,e.Ok):∀x∈Z10 es,HasKs [.agg paKs,.agg paKs] x:=by
 intro x hx;obtain⟨e,he,rfl⟩:=List.mem_map.1 hx;exact⟨Par.has (h e he).1,⟨Y2 (h e he).2.1,Y2 (h e he).2.2,trivial⟩,trivial⟩
theorem Z8K:Contract Tryz.prog 132 fun args K=>∃(p:Par) (es:List Ent),p.Ok∧(∀e∈es,e.Ok)∧args=[.agg p.enc,.ptr [.mp (Z10 es)]]∧K [.d (.agg (wOf es p).enc)]:=by
 refine .of c132 Zet ?_;rintro _ K ⟨p,es,hp,hes,rfl,hK⟩ hsm;refine⟨p.enc++[.ptr [.mp (Z10 es)]],rfl,by exact(Par.has hp).append (show HasKs [.ptr [.mp [.agg paKs,.agg paKs]]] [.ptr [.mp (Z10 es)]]from⟨⟨ZbU hes,trivial⟩,trivial⟩),?_⟩;unfold wOf at hK;rcases Z0c p es 0 with⟨h1,h2⟩|⟨j,hj,h1,h2⟩
 · rw [h1]at hK;refine J3 (by simp only [Par.enc]at h2;simp only [zz,reduceCtorEq,Par.enc,D.cells,D.cell,h2] <;> omega) ?_;refine Z0 Z09 ⟨rfl,_,rfl,?_⟩;simp only [zz,reduceCtorEq,Par.enc,Val.enc];exact hK
 · rw [h1]at hK;simp only [Par.enc,Nat.zero_add]at h2;have e1:(Z10 es).getD j []=rowE es[j]:=by simp [Z10,hj]
   refine Y3 (by simp only [zz,reduceCtorEq,Par.enc,D.cells,D.cell,h2] <;> omega) ?_;simp only [zz,reduceCtorEq,Par.enc,D.cells,D.cell,h2,Int.toNat_natCast,e1,rowE,D.cellAt,D.list,Val.enc];exact hK
def Z0U (fv:D) (W:Par→Val):Prop:=∃sf,FvC Tryz.prog fv sf∧∀p:Par,p.Ok→sf [.agg p.enc] fun rs=>rs=[.d (.agg (W p).enc)]
theorem Z24 {es:List Ent} (hes:∀e∈es,e.Ok):Z0U (.clo 132 [.ptr [.mp (Z10 es)]]) (wOf es):=by
 refine⟨fun as_ K=>∃p:Par,p.Ok∧as_=[.agg p.enc]∧K [.d (.agg (wOf es p).enc)],FvC.of c132 Z8K ?_,fun p hp=>⟨p,hp,rfl,rfl⟩⟩;rintro _ K ⟨p,hp,rfl,hK⟩;refine⟨⟨p,es,hp,hes,rfl,hK⟩,J4 [some (.agg paKs)] (by kernel_rfl) ?_⟩;intro i rk d h1 h2;cases i with
 |zero=>simp at h1 h2;subst h1 h2;exact Par.has hp
 |succ i=>simp at h1
theorem ZbL (cs:List Cue) (n:Nat) (hn:n≤cs.length) (p:Par):wOf (ZH cs n) p=W7 cs p n:=by
 unfold wOf ZH;have e:(Wl cs).map (fun p=>(⟨p,W7 cs p n⟩:Ent))=((Wl cs).filter fun _=>true).map fun p=>(⟨p,W7 cs p n⟩:Ent):=by rw [List.filter_eq_self.2 fun _ _=>rfl]
 rw [e,Z4W (fun _=>true) fun p=>W7 cs p n];by_cases h:p∈Wl cs
 · rw [if_pos ⟨h,rfl⟩];rfl
 · rw [if_neg fun x=>h x.1,Z32 cs p n hn];exact(Z9G fun c hc=>ZaA h c (List.mem_of_mem_take (List.mem_reverse.1 hc))).symm
theorem Z0V:Contract Tryz.prog 57 fun args K=>∃(l:Lis) (n:Nat),l.Ok∧W8 W4 l=0∧n≤l.cues.length∧args=[.agg l.enc,.int .i64 ((n:Int) - 1)]∧∀f caps,Z0U (.clo f caps) (fun p=>W7 l.cues p n)→K [.d (.clo f caps)]:=by
 refine .of (by kernel_rfl) Zgl ?_;rintro _ K ⟨l,n,hl,hck,hn,rfl,hK⟩ hsm;have hlen:=(Wd hck).len;have h64:I64 ((n:Int) - 1):=⟨by omega,by omega⟩
 refine⟨l.enc++[.int .i64 ((n:Int) - 1)],rfl,by exact ZaV hl h64,?_⟩;cases n with
 | zero=>
   refine J3 (by simp only [zz,reduceCtorEq,Lis.enc] <;> omega) ?_;have h:=Z24 (es:=[]) (by simp);have e:wOf []=fun p=>W7 l.cues p 0:=by funext p;simp [wOf,Z2F,W7,Z7x,Wn]
   rw [e]at h;exact hK _ _ h
 | succ n=>
   have hn':n < l.cues.length:=by omega
   have e1:(((n+1:Nat):Int) - 1)=(n:Int):=by omega
   rw [e1];refine Y3 (by simp only [zz,reduceCtorEq,Lis.enc] <;> omega) ?_;obtain⟨c1,c2,c3⟩:=Z8y hck hn';simp only [zz,reduceCtorEq,Lis.enc,List.length_map,hn'];refine⟨by omega,?_⟩;refine Z0 Z5D ⟨l,l.cues[n].num,hl,by simp only [zz,reduceCtorEq,Lis.enc,J0 hn',Cue.enc],?_⟩;have hlook:Z5B l l.cues[n].num=(ZH l.cues (n+1),0):=by unfold Z5B;rw [if_neg (by simp [c1]),c2]
   rw [hlook];have hR:=WG hl hck;have hes:=Z5C hR (n+1);have hll:=Z3z hR (n+1);have hnd:((ZH l.cues (n+1)).map (·.pa)).Nodup:=by
     simp only [ZH,List.map_map];have:((fun e:Ent=>e.pa) ∘ fun p=>(⟨p,W7 l.cues p (n+1)⟩:Ent))=id:=rfl;rw [this,List.map_id];exact Z6B _
   have hw:wOf (ZH l.cues (n+1))=fun p=>W7 l.cues p (n+1):=funext fun p=>ZbL _ _ hn p
   generalize ZH l.cues (n+1)=es at hes hll hnd hw;refine⟨_,rfl,?_⟩;simp only [zz,reduceCtorEq,List.length_map];intro hcap;refine Ji es (fun _ l' acc=>acc++l') (fun i acc=>[.int .i64 i,.slice (Z10 acc)]) (fun i acc=>acc=es.take i) [] es (by simp) (by simp) 0 (fun _ _=>rfl) rfl ?_ ?_
   · intro i hi acc hI hgo;simp only [zz,reduceCtorEq,List.length_map,hi,J0 hi,Ent.enc];refine⟨by omega,acc++[es[i]],⟨by rw [Z1] <;> omega,?_⟩,by rw [hI,List.take_succ_eq_append_getElem hi],by simpa using hgo⟩;have hno:Z2F acc es[i].pa=none:=List.find?_eq_none.2 fun x hx=>by
       rw [hI]at hx;obtain⟨k,hk,rfl⟩:=List.getElem_of_mem hx;simp only [decide_eq_true_eq];intro h;have hk2:k < i:=by simp at hk;omega
       have:=List.pairwise_iff_getElem.1 hnd k i (by simp;omega) (by simpa using hi) hk2;simp only [List.getElem_take]at h;exact this (by simpa using h)
     rcases Z0c es[i].pa acc 0 with⟨h1,h2⟩|⟨j,hj,h1,h2⟩
     · simp only [Par.enc]at h2;simp only [h2];simp [Z10,rowE,Par.enc,Val.enc]
     · rw [hno]at h1;cases h1
   · intro acc hI hgo;simp only [List.append_nil]at hgo;subst hgo;simp only [zz,reduceCtorEq,List.length_map,Nat.lt_irrefl];have h:=Z24 hes;rw [hw]at h;exact hK _ _ h
theorem Z2N:Contract Tryz.prog 61 fun args K=>∃(l:Lis) (e:Int),l.Ok∧I64 e∧args=[.agg l.enc,.int .i64 e]∧K [.d (.agg (if e=0 then l else zeroL).enc),.d (.int .i64 e)]:=by
 refine .of (by kernel_rfl) Zgh ?_;rintro _ K ⟨l,e,hl,he,rfl,hK⟩ hsm;refine⟨l.enc++[.int .i64 e],rfl,by exact ZaV hl he,?_⟩;simp only [zz,reduceCtorEq,t61,Lis.enc];refine⟨fun h=>?_,fun h=>?_⟩
 · rw [if_neg h]at hK;simpa [Lis.enc,zeroL]using hK
 · have h:e=0:=by simpa using h
   subst h;simpa [Lis.enc]using hK
noncomputable def t16:R:=let x1:T:=Vl (Va 1) (Vl (Va 2) .lnil);let x2:T:=Vl (Vn 0) (Vl (Vn 0) (Vl .nils .lnil));let x3:T:=Vl (Va 22) (Vl (Va 23) .lnil);let x5:List K:=enKs;let x6:T:=Vl (Va 38) (Vl (Va 39) (Vl (Va 40) .lnil));let x7:T:=Vl (Va 12) (Vl (Va 13) (Vl (Va 14) (Vl (Va 15) (Vl (Va 16) (Vl (Va 17) (Vl (Va 18) (Vl (Va 19) .lnil)))))));let x8:T:=Vl (.ptr (Vl (Va 29) .lnil)) .lnil;let x9:T:=Vl (Va 35) (Vl (Va 36) .lnil);let x10:T:=Vl (.ptr (Vl (Va 0) x1)) (Vl (.ptr (Vl (Va 28) .lnil)) .lnil);let x11:List K:=tmKs;let x12:List K:=mvKs;let x13:T:=.o2 .lt (Va 28) (.o1 .len (Va 2));let x14:T:=.o1 .not (Va 26);let x15:T:=.o1 .not (Va 6);let x16:T:=.o2 .ne (Va 20) (Vn 0);let x17:T:=.o2 .ne (Va 24) (Vn 0);let x18:T:=.o2 .le (Vn 0) (Va 28);let x19:T:=.idx (Va 2) (Va 28) 4 .bool;let x0:List K:=[.str,.str,.slice x12,.slice x11,.bool,.bool,.int .i64,.str,.int .i64];let x4:T:=.o1 .not (.ite x15 (.bool true) x14);.call none (.fn 29) [Vl (Va 0) x1] [.cell (.int .i64)] (.ite (.o2 .ne (Va 7) (Vn 0)) (.ret [.d x2,.d (Va 7)]) (.call none (.fn 51) [Va 3] [.cell (.int .i64)] (.ite (.o2 .ne (Va 8) (Vn 0)) (.ret [.d x2,.d (Va 8)]) (.call none (.fn 52) [Va 4] [.cell (.int .i64)] (.ite (.o2 .ne (Va 9) (Vn 0)) (.ret [.d x2,.d (Va 9)]) (.call none (.fn 53) [Vl (Va 0) x1,Va 3] [.cell (.int .i64)] (.ite (.o2 .ge (Va 10) (Vn 0)) (.need (.o2 .le (Vn 0) (Va 10)) (.need (.o2 .lt (Va 10) (.o1 .len (Va 2))) (.call none (.fn 54) [Vl (.idx (Va 2) (Va 10) 0 .str) (Vl (.idx (Va 2) (Va 10) 1 .str) (Vl (.idx (Va 2) (Va 10) 2 (.slice x12)) (Vl (.idx (Va 2) (Va 10) 3 (.slice x11)) (Vl (.idx (Va 2) (Va 10) 4 .bool) (Vl (.idx (Va 2) (Va 10) 5 .bool) (Vl (.idx (Va 2) (Va 10) 6 (.int .i64)) (Vl (.idx (Va 2) (Va 10) 7 .str) (Vl (.idx (Va 2) (Va 10) 8 (.int .i64)) .lnil)))))))),Va 4,Va 5] [.agg x0,.cell (.int .i64)] (.ite x16 (.ret [.d x2,.d (Va 20)]) (.call none (.fn 55) [Vl (Va 0) x1,Vl (Va 11) x7] [.agg [.int .i64,.int .i64,.slice x0],.cell (.int .i64)] (.ite x17 (.ret [.d x2,.d (Va 24)]) (.call none (.fn 56) [Vl (Va 0) x1,Va 3] [.cell .str,.cell .bool,.cell (.int .i64)] (.call none (.fn 53) [Vl (Va 0) x1,Va 25] [.cell (.int .i64)] (.need (.ite x4 x18 (.bool true)) (.need (.ite x4 x13 (.bool true)) (.ite (.ite (.ite x15 (.bool true) x14) (.bool true) x19) (.ret [.d (Vl (Va 21) x3),.d (Vn 0)]) (.call none (.fn 57) [Vl (Va 0) x1,Va 28] [.cell .fn] (.call none (.fn 58) [Va 4,.clo 59 x10] [.cell (.slice x5)] (.guess (.bool true) (.ite (Va 31) (.call none (.fn 53) [Vl (Va 21) x3,Va 25] [.cell (.int .i64)] (.call none (.fn 63) [Va 30,.clo 64 x8] [.cell (.slice x5)] (.call none (.fn 62) [Vl (Va 21) x3,Va 32,Va 33] [.agg [.int .i64,.int .i64,.slice x0],.cell (.int .i64)] (.call none (.fn 61) [Vl (Va 34) x9,Va 37] [.agg [.int .i64,.int .i64,.slice x0],.cell (.int .i64)] (.ret [.d x6,.d (Va 41)]))))) (.call none (.fn 53) [Vl (Va 21) x3,Va 25] [.cell (.int .i64)] (.call none (.fn 63) [Va 30,.clo 64 x8] [.cell (.slice x5)] (.call none (.fn 62) [Vl (Va 21) x3,Va 32,Va 33] [.agg [.int .i64,.int .i64,.slice x0],.cell (.int .i64)] (.call none (.fn 61) [Vl (Va 34) x9,Va 37] [.agg [.int .i64,.int .i64,.slice x0],.cell (.int .i64)] (.ret [.d x6,.d (Va 41)])))))))))))))))))))) (.call none (.fn 54) [Vl (Va 3) (Vl (.str []) (Vl .nils (Vl (.rep (Vn 1) (Vl (Vn 0) (Vl (Vn 0) (Vl (Vn 0) (Vl (Vn 0) (Vl (Vn 0) (Vl (Vn 0) .lnil))))))) (Vl (.bool false) (Vl (.bool false) (Vl (Vn (-1)) (Vl (.str []) (Vl (Vn 0) .lnil)))))))),Va 4,Va 5] [.agg x0,.cell (.int .i64)] (.ite x16 (.ret [.d x2,.d (Va 20)]) (.call none (.fn 55) [Vl (Va 0) x1,Vl (Va 11) x7] [.agg [.int .i64,.int .i64,.slice x0],.cell (.int .i64)] (.ite x17 (.ret [.d x2,.d (Va 24)]) (.call none (.fn 56) [Vl (Va 0) x1,Va 3] [.cell .str,.cell .bool,.cell (.int .i64)] (.call none (.fn 53) [Vl (Va 0) x1,Va 25] [.cell (.int .i64)] (.need (.ite x4 x18 (.bool true)) (.need (.ite x4 x13 (.bool true)) (.ite (.ite (.ite x15 (.bool true) x14) (.bool true) x19) (.ret [.d (Vl (Va 21) x3),.d (Vn 0)]) (.call none (.fn 57) [Vl (Va 0) x1,Va 28] [.cell .fn] (.call none (.fn 58) [Va 4,.clo 59 x10] [.cell (.slice x5)] (.guess (.bool true) (.ite (Va 31) (.call none (.fn 53) [Vl (Va 21) x3,Va 25] [.cell (.int .i64)] (.call none (.fn 63) [Va 30,.clo 64 x8] [.cell (.slice x5)] (.call none (.fn 62) [Vl (Va 21) x3,Va 32,Va 33] [.agg [.int .i64,.int .i64,.slice x0],.cell (.int .i64)] (.call none (.fn 61) [Vl (Va 34) x9,Va 37] [.agg [.int .i64,.int .i64,.slice x0],.cell (.int .i64)] (.ret [.d x6,.d (Va 41)]))))) (.call none (.fn 53) [Vl (Va 21) x3,Va 25] [.cell (.int .i64)] (.call none (.fn 63) [Va 30,.clo 64 x8] [.cell (.slice x5)] (.call none (.fn 62) [Vl (Va 21) x3,Va 32,Va 33] [.agg [.int .i64,.int .i64,.slice x0],.cell (.int .i64)] (.call none (.fn 61) [Vl (Va 34) x9,Va 37] [.agg [.int .i64,.int .i64,.slice x0],.cell (.int .i64)] (.ret [.d x6,.d (Va 41)])))))))))))))))))))))))))
theorem ZgM:fnO Tryz.prog mdA 16 [.agg liKs,.cell .str,.cell (.slice enKs),.cell (.int .i64),.cell .bool]=t16:=by kernel_rfl
noncomputable def t59:R:=.call none (.fn 60) [Vl (.fld (Va 4) 0 (.int .i64)) (Vl (.fld (Va 4) 1 (.int .i64)) (Vl (.fld (Va 4) 2 (.slice J9)) .lnil)),.fld (Va 5) 0 (.int .i64),Vl (Va 0) (Vl (Va 1) .lnil)] [.cell .bool] (.ret [.d (.o1 .not (Va 6))])
theorem Zgj:fnO Tryz.prog mdA 59 ([.agg enKs]++[.cell (.ptr liKs),.cell (.ptr [.int .i64])])=t59:=by kernel_rfl
theorem c59:J2 Tryz.prog 59=true:=by kernel_rfl
noncomputable def t64:R:=.call none (.val (.fld (Va 4) 0 .fn)) [Vl (Va 0) (Vl (Va 1) .lnil)] [.agg [.int .i64,.int .i64]] (.ret [.d (Vl (Va 0) (Vl (Va 1) (Vl (Va 5) (Vl (Va 6) .lnil))))])
theorem Zge:fnO Tryz.prog mdA 64 ([.agg enKs]++[.cell (.ptr [.fn])])=t64:=by kernel_rfl
theorem c64:J2 Tryz.prog 64=true:=by kernel_rfl
theorem Zf2:Contract Tryz.prog 59 fun args K=>∃(e:Ent) (l:Lis) (i:Nat) (hi:i < l.cues.length),e.Ok∧l.Ok∧l.cues.length≤1000000∧args=[.agg e.enc,.ptr l.enc,.ptr [.int .i64 i]]∧K [.d (.bool (!Wb e.pa l.cues[i]))]:=by
 refine .of c59 Zgj ?_;rintro _ K ⟨e,l,i,hi,he,hl,hlen,rfl,hK⟩ hsm;refine⟨e.enc++[.ptr l.enc,.ptr [.int .i64 (i:Nat)]],rfl,by exact(Ent.has he).append (show HasKs [.ptr liKs,.ptr [.int .i64]] [.ptr l.enc,.ptr [.int .i64 (i:Nat)]]from⟨Lis.has hl,⟨Y2 ⟨by omega,by omega⟩,trivial⟩,trivial⟩),?_⟩;refine Z0 Z0o ⟨l,i,e.pa,hi,hl,he.1,hlen,by simp only [zz,reduceCtorEq,Ent.enc,Lis.enc,Par.enc,D.cells,D.cell],_,rfl,?_⟩;simp only [zz,reduceCtorEq,Ent.enc];exact hK
theorem Zac {l:Lis} (hl:l.Ok) {i:Nat} (hi:i < l.cues.length) (hlen:l.cues.length≤1000000) {es:List Ent} (hes:∀e∈es,e.Ok):
   YC Tryz.prog (.clo 59 [.ptr l.enc,.ptr [.int .i64 (i:Nat)]]) Ent.enc es fun e=>!Wb e.pa l.cues[i]:=by
 refine⟨fun as_ K=>∃e:Ent,e.Ok∧as_=[.agg e.enc]∧K [.d (.bool (!Wb e.pa l.cues[i]))],FvC.of c59 Zf2 ?_,fun e he=>⟨e,hes e he,rfl,rfl⟩⟩;rintro _ K ⟨e,he,rfl,hK⟩;refine⟨⟨e,l,i,hi,he,hl,hlen,rfl,hK⟩,J4 [some (.agg enKs)] (by kernel_rfl) ?_⟩;intro i rk d h1 h2;cases i with
 |zero=>simp at h1 h2;subst h1 h2;exact Ent.has he
 |succ i=>simp at h1
theorem Zf1:Contract Tryz.prog 64 fun args K=>∃(e:Ent) (f:FuncId) (caps:List D) (W:Par→Val),e.Ok∧(W e.pa).Ok∧Z0U (.clo f caps) W∧args=[.agg e.enc,.ptr [.clo f caps]]∧K [.d (.agg (Ent.enc ⟨e.pa,W e.pa⟩))]:=by
 refine .of c64 Zge ?_;rintro _ K ⟨e,f,caps,W,he,hw,⟨sf,hf,hs⟩,rfl,hK⟩ hsm;refine⟨e.enc++[.ptr [.clo f caps]],rfl,by exact(Ent.has he).append (show HasKs [.ptr [.fn]] [.ptr [.clo f caps]]from⟨⟨trivial,trivial⟩,trivial⟩),?_⟩;refine Z7 (FvC.up' (s:=sf) (fv:=.clo f caps) hf) ⟨fun rs=>rs=[.d (.agg (W e.pa).enc)],?_,fun rs h=>⟨(W e.pa).enc,by rw [h];rfl,⟨Y2 hw.1,Y2 hw.2,trivial⟩,?_⟩⟩
 · simp only [zz,reduceCtorEq,Ent.enc];exact hs e.pa he.1
 · simp only [zz,reduceCtorEq,Ent.enc,Val.enc];exact hK
theorem Zab {fv:D} {f:FuncId} {caps:List D} {W:Par→Val} (h:Z0U (.clo f caps) W) {es:List Ent} (hes:∀e∈es,e.Ok) (hW:∀p,(W p).Ok):
   Z5T Tryz.prog (.clo 64 [.ptr [.clo f caps]]) Ent.enc Ent.enc es fun e=>⟨e.pa,W e.pa⟩:=by
 refine⟨fun as_ K=>∃e:Ent,e.Ok∧as_=[.agg e.enc]∧K [.d (.agg (Ent.enc ⟨e.pa,W e.pa⟩))],FvC.of c64 Zf1 ?_,fun e he=>⟨e,hes e he,rfl,rfl⟩⟩;rintro _ K ⟨e,he,rfl,hK⟩;refine⟨⟨e,f,caps,W,he,hW e.pa,h,rfl,hK⟩,J4 [some (.agg enKs)] (by kernel_rfl) ?_⟩;intro i rk d h1 h2;cases i with
 |zero=>simp at h1 h2;subst h1 h2;exact Ent.has he
 |succ i=>simp at h1
theorem Z4x {cs A X B:List Cue} {s:List UInt8} (h:Split cs s A X B):(place cs s < 0∧oldC cs s=Z4P s∧X=[])∨∃(j:Nat) (hj:j < cs.length),place cs s=j∧oldC cs s=cs[j]∧X=[cs[j]]:=by
 unfold oldC;rw [Z3T h];rcases h.place with⟨rfl,hp⟩|⟨c,rfl,hc,hp⟩
 · exact .inl ⟨by omega,rfl,rfl⟩
 · have hlt:A.length < cs.length:=by rw [h.eq];simp
   have hg:cs[A.length]=c:=by
     have:cs[A.length]? =some c:=by rw [h.eq];simp
     exact(List.getElem?_eq_some_iff.1 this).2
   exact .inr ⟨A.length,hlt,hp,by rw [hg];rfl,by rw [hg]⟩
theorem Zau {l:Lis} (hl:l.Ok) (hck:W8 W4 l=0) {A X B:List Cue} {s:List UInt8} (hs:Z4 s=0) (h:Split l.cues s A X B):(oldC l.cues s).Ok∧J5 (oldC l.cues s)=0:=by
 rcases Z4x h with⟨_,h2,_⟩|⟨j,hj,_,h2,_⟩
 · rw [h2];refine⟨⟨by simp [Z4P],?_,show I64 (-1)from⟨by decide,by decide⟩,show I64 0 from⟨by decide,by decide⟩⟩,Z5P hs⟩;intro t ht;simp only [Z4P,List.mem_singleton]at ht;subst ht;exact⟨⟨by decide,by decide⟩,⟨by decide,by decide⟩,⟨by decide,by decide⟩,⟨by decide,by decide⟩,⟨by decide,by decide⟩,⟨by decide,by decide⟩⟩
 · rw [h2];exact⟨hl.cues _ (List.getElem_mem hj),(Wd hck).cues _ (List.getElem_mem hj)⟩
theorem Z5W {cs A X B':List Cue} {d:Cue} (h:cs=A++X++d::B') (p:Par):W7 cs p ((A++X).length+1)=vl (d::(A++X).reverse) p:=by
 rw [Z32 cs p _ (by rw [h];simp;omega),h];congr 1;rw [show(A++X)++d::B'=((A++X)++[d])++B' by simp,List.take_left' (by simp;omega)];simp
theorem Z8Y {l:Lis} {c:Cue} {s:List UInt8} {A X B:List Cue} (h1:W8 W4 l=0) (hc:J5 c=0) (hn:c.num=s) (h:Split l.cues s A X B):
   putR l c=if 64 < (A++c::B).length then(zeroL,5)else({l with cues:=A++c::B},0):=by
 unfold putR;rw [if_neg (by simpa using h1),if_neg (by simpa using hc),hn,h.without,h.ins hn]
theorem Z79 {l:Lis} {s:List UInt8} {A X B:List Cue} (h1:W8 W4 l=0) (h2:Z4 s=0) (h:Split l.cues s A X B):
   Z57 l s=match B.head? with|some d=>(d.num,true,(0:Int))|none=>([],false,0):=by
 unfold Z57;rw [if_neg (by simp [YF h1 h2]),Z9b,h.next];cases B <;> rfl
set_option maxHeartbeats 1000000 in
theorem Z15:Contract Tryz.prog 16 fun args K=>∃(l:Lis) (s:List UInt8) (es:List Ent) (part:Int) (only:Bool),l.Ok∧(∀e∈es,e.Ok)∧I64 part∧
   args=[.agg l.enc,.str s,.slice (es.map Ent.enc),.int .i64 part,.bool only]∧K [.d (.agg (Z3g l s es part only).1.enc),.d (.int .i64 (Z3g l s es part only).2)]:=by
 refine .of (by kernel_rfl) ZgM ?_;rintro _ K ⟨l,s,es,part,only,hl,hes,hp,rfl,hK⟩ hsm;refine⟨l.enc++[.str s,.slice (es.map Ent.enc),.int .i64 part,.bool only],rfl,by exact(Lis.has hl).append (show HasKs [.str,.slice enKs,.int .i64,.bool] [.str s,.slice (es.map Ent.enc),.int .i64 part,.bool only]from⟨trivial,Jp hes,Y2 hp,trivial,trivial⟩),?_⟩;unfold Z3g at hK;refine Z0 YL ⟨l,hl,by simp only [zz,reduceCtorEq,Lis.enc],_,rfl,?_⟩;rcases Decidable.em (W8 W4 l=0)with h1|h1
 rotate_left
 · rw [if_pos h1]at hK;refine Y3 (by simp only [zz,reduceCtorEq,Lis.enc,h1]) ?_;simp only [zz,reduceCtorEq,Lis.enc];exact hK
 rw [if_neg (by simpa using h1)]at hK;rw [h1];refine J3 (by simp only [zz,reduceCtorEq,Lis.enc]) ?_;refine Z0 Z02 ⟨s,by simp only [zz,reduceCtorEq,Lis.enc],_,rfl,?_⟩;rcases Decidable.em (Z4 s=0)with h2|h2
 rotate_left
 · rw [if_pos h2]at hK;refine Y3 (by simp only [zz,reduceCtorEq,Lis.enc,h2]) ?_;simp only [zz,reduceCtorEq,Lis.enc];exact hK
 rw [if_neg (by simpa using h2)]at hK;rw [h2];refine J3 (by simp only [zz,reduceCtorEq,Lis.enc]) ?_;refine Z0 Z5p ⟨es,hes,by simp only [zz,reduceCtorEq,Lis.enc],_,rfl,?_⟩;rcases Decidable.em (Zo es=0)with h3|h3
 rotate_left
 · rw [if_pos h3]at hK;refine Y3 (by simp only [zz,reduceCtorEq,Lis.enc,h3]) ?_;simp only [zz,reduceCtorEq,Lis.enc];exact hK
 rw [if_neg (by simpa using h3)]at hK;rw [h3];refine J3 (by simp only [zz,reduceCtorEq,Lis.enc]) ?_;refine Z0 ZbD ⟨l,s,hl,by simp only [zz,reduceCtorEq,Lis.enc],_,rfl,?_⟩;have hRL:=Wd h1;have hRT:=WG hl h1;have hE:=Z12 hes h3;have hel:=Z1V h3;obtain⟨A,X,B,hS⟩:=Z5f h2 hRL.rising hRL.num;obtain⟨hoOk,ho16⟩:=Zau hl h1 h2 hS;have honum:=Z5s hS;have hnext:=hS.next
 have hrec:=Z5m hS hRL.rising es part only;have hlen64:=hRL.len;have hset:setR (oldC l.cues s) es part=if part < 1∨((oldC l.cues s).parts.length:Int) < part then(zeroC,6)else if 128 < (setC (oldC l.cues s) es part).moves.length then(zeroC,5)else(setC (oldC l.cues s) es part,0):=by
   unfold setR;rw [if_neg (by simpa using ho16),if_neg (by simpa using h3)]
 rcases Z4x hS with⟨hpl,ho,hX⟩|⟨j,hj,hpl,ho,hX⟩
 refine J3 (by simp only [zz,reduceCtorEq,Lis.enc] <;> omega) ?_;refine Z0 Z7Q ⟨oldC l.cues s,es,part,hoOk,hes,hp,by rw [ho];rfl,?_⟩;rotate_left
 refine Y3 (by simp only [zz,reduceCtorEq,Lis.enc,hpl] <;> omega) ?_;refine⟨by simp only [zz,reduceCtorEq,Lis.enc,hpl] <;> omega,by simp only [zz,reduceCtorEq,Lis.enc,hpl,List.length_map] <;> omega,?_⟩;refine Z0 Z7Q ⟨oldC l.cues s,es,part,hoOk,hes,hp,by rw [ho];simp only [zz,reduceCtorEq,Lis.enc,hpl,J0 hj,Cue.enc],?_⟩
 all_goals
   clear ho;refine⟨_,rfl,?_⟩;rw [hset];rcases Decidable.em (part < 1∨((oldC l.cues s).parts.length:Int) < part)with h4|h4
   · rw [if_pos h4]at hK ⊢;refine Y3 (by simp only [zz,reduceCtorEq,Lis.enc];rfl) ?_;simp only [zz,reduceCtorEq,Lis.enc];exact hK
   rw [if_neg h4]at hK ⊢;have hmem:setC (oldC l.cues s) es part∈JM l.cues s es part only:=by
     rcases hrec with⟨_,h⟩|⟨d,B',_,h⟩ <;> rw [h] <;> simp
   rcases Decidable.em (128 < (setC (oldC l.cues s) es part).moves.length)with h5|h5
   · rw [if_pos h5];rw [YA (l:= {l with cues:=JM l.cues s es part only}) hmem h5]at hK;refine Y3 (by simp only [zz,reduceCtorEq,Lis.enc];rfl) ?_;simp only [zz,reduceCtorEq,Lis.enc];exact hK
   rw [if_neg h5];simp only [not_or,Int.not_lt]at h4;have hc16:=Z7S ho16 hE.es h4.1 h4.2 h5;have hcOk:=ZG hoOk hes hp;have hcnum:(setC (oldC l.cues s) es part).num=s:=honum;generalize hc':setC (oldC l.cues s) es part=c' at *;refine J3 (by simp only [zz,reduceCtorEq,Lis.enc];rfl) ?_;refine Z0 Zc0 ⟨l,c',hl,hcOk,by simp only [zz,reduceCtorEq,Lis.enc,Cue.enc],_,rfl,?_⟩;rw [Z8Y h1 hc16 hcnum hS];have hin:∀x∈A++c'::B,x.moves.length≤128∧J5 x=0∧x.Ok:=fun x hx=>by
     rcases List.mem_append.1 hx with hx|hx
     · have hm:x∈l.cues:=by rw [hS.eq];simp [hx]
       exact⟨(Z0H (hRL.cues x hm)).len,hRL.cues x hm,hl.cues x hm⟩
     rcases List.mem_cons.1 hx with rfl|hx
     · exact⟨by omega,hc16,hcOk⟩
     · have hm:x∈l.cues:=by rw [hS.eq];simp [hx]
       exact⟨(Z0H (hRL.cues x hm)).len,hRL.cues x hm,hl.cues x hm⟩
   have hll:(JM l.cues s es part only).length=(A++c'::B).length:=by
     rcases hrec with⟨rfl,h⟩|⟨d,B',rfl,h⟩ <;> rw [h] <;> simp
   rcases Decidable.em (64 < (A++c'::B).length)with h6|h6
   · rw [if_pos h6];rw [Z28 (l:= {l with cues:=JM l.cues s es part only}) (by show 64 < (JM l.cues s es part only).length;omega)]at hK;refine Y3 (by simp only [zz,reduceCtorEq,Lis.enc];rfl) ?_;simp only [zz,reduceCtorEq,Lis.enc];exact hK
   rw [if_neg h6];refine J3 (by simp only [zz,reduceCtorEq,Lis.enc];rfl) ?_;refine Z0 ZbF ⟨l,s,hl,by simp only [zz,reduceCtorEq,Lis.enc],_,rfl,?_⟩;rw [Z79 h1 h2 hS];rcases hrec with⟨hB,hr⟩|⟨d,B',hB,hr⟩
   · subst hB;simp only [List.head?_nil];refine Z0 ZbD ⟨l,[],hl,by simp only [zz,reduceCtorEq,Lis.enc,Cue.enc],_,rfl,?_⟩;refine⟨by cases only <;> simp only [zz,reduceCtorEq,Lis.enc,Cue.enc],by cases only <;> simp only [zz,reduceCtorEq,Lis.enc,Cue.enc],Y3 (by cases only <;> simp only [zz,reduceCtorEq,Lis.enc,Cue.enc]) ?_⟩;rw [hr,YE (by simpa using h6) (fun x hx=>(hin x hx).1)]at hK;simp only [zz,reduceCtorEq,Lis.enc,Cue.enc];simpa [Lis.enc]using hK
   subst hB;simp only [List.head?_cons];have hd:d∈l.cues:=by rw [hS.eq];simp
   have hdR:=hRL.cues d hd;have hnl:(A++X).length < l.cues.length:=by rw [hS.eq];simp <;> omega
   have hget:l.cues[(A++X).length]=d:=by
     have:l.cues[(A++X).length]? =some d:=by rw [hS.eq];simp
     exact(List.getElem?_eq_some_iff.1 this).2
   have hpd:place l.cues d.num=((A++X).length:Nat):=by
     rw [hS.eq];exact YB (hS.rising hRL.rising d B' rfl).1 rfl
   have hpo:place (A++c'::d::B') d.num=((A.length+1:Nat):Int):=by
     rw [show A++c'::d::B'=(A++[c'])++d::B' by simp,YB (fun c hc=>?_) rfl]
     · simp
     · rcases List.mem_append.1 hc with hc|hc
       · exact(hS.rising hRL.rising d B' rfl).2 c hc
       · simp at hc;subst hc;rw [hcnum];exact fun e=>hS.hi_ne d (by simp) e.symm
   have hvs:=fun p=>Z5W hS.eq p
   have hvv:∀p,J8 (W7 l.cues p ((A++X).length+1))=0:=fun p=>Z1B h1 p _
   have hvo:∀p,(W7 l.cues p ((A++X).length+1)).Ok:=fun p=>JN hRT p _
   have hkR:=Z7z (cs:=l.cues) (n:=(A++X).length+1) (d:=d) hE.es hvv;have hw:ZV l.cues ((A++X).length+1) d es=(es.filter fun e=>!Wb e.pa l.cues[(A++X).length]).map fun e=>(⟨e.pa,W7 l.cues e.pa ((A++X).length+1)⟩:Ent):=by rw [hget];rfl
   generalize hn:(A++X).length=n at *;refine Z0 ZbD ⟨l,d.num,hl,by simp only [zz,reduceCtorEq,Lis.enc,Cue.enc],_,rfl,?_⟩;rw [hpd];have hplain:only=false∨d.block=true→JM l.cues s es part only=A++c'::d::B':=fun h=>by rw [hr,if_pos h]
   refine⟨by cases only <;> simp only [zz,reduceCtorEq,Lis.enc,Cue.enc] <;> omega,by cases only <;> simp only [zz,reduceCtorEq,Lis.enc,Cue.enc,List.length_map] <;> omega,?_⟩;rcases Decidable.em (only=false∨d.block=true)with h7|h7
   · refine Y3 (by
       rcases h7 with h7|h7
       · simp only [zz,reduceCtorEq,Lis.enc,Cue.enc,h7]
       · cases only <;> simp only [zz,reduceCtorEq,Lis.enc,Cue.enc,J0 hnl,hget,h7]) ?_
     rw [hplain h7,YE (by simpa using h6) (fun x hx=>(hin x hx).1)]at hK;simp only [zz,reduceCtorEq,Lis.enc,Cue.enc];simpa [Lis.enc]using hK
   have ho7:only=true:=by cases only <;> simp_all
   have hb7:d.block=false:=by cases hb:d.block <;> simp_all
   rw [hr,if_neg h7]at hK;subst ho7;refine J3 (by simp only [zz,reduceCtorEq,Lis.enc,Cue.enc,J0 hnl,hget,hb7]) ?_;refine Z0 Z0V ⟨l,n+1,hl,h1,by omega,by simp only [zz,reduceCtorEq,Lis.enc,Cue.enc];simp,fun f caps hsv=>⟨_,rfl,?_⟩⟩;refine Z0 Z0d ⟨es,fun e=>!Wb e.pa l.cues[n],59,[.ptr l.enc,.ptr [.int .i64 (n:Nat)]],hes,by omega,by simp only [zz,reduceCtorEq,Lis.enc,Cue.enc],Zac hl hnl (by omega) hes,_,rfl,?_⟩;intro b _;refine(fun H=>⟨fun _=>H,fun _=>H⟩) ?_;have houtOk:Lis.Ok {l with cues:=A++c'::d::B'}:= {hl with cues:=fun x hx=>(hin x hx).2.2}
   refine Z0 ZbD ⟨{l with cues:=A++c'::d::B'},d.num,houtOk,by simp only [zz,reduceCtorEq,Lis.enc,Cue.enc],_,rfl,?_⟩;rw [hpo];refine Z0 Z9i ⟨es.filter fun e=>!Wb e.pa l.cues[n],fun e=>⟨e.pa,W7 l.cues e.pa (n+1)⟩,64,[.ptr [.clo f caps]],fun e he=>hes e (List.mem_filter.1 he).1,fun e he=>⟨(hes e (List.mem_filter.1 he).1).1,hvo _⟩,
     by have:=List.length_filter_le (fun e=>!Wb e.pa l.cues[n]) es;omega,by simp only [zz,reduceCtorEq,Lis.enc,Cue.enc],Zab (fv:=.clo f caps) hsv (fun e he=>hes e (List.mem_filter.1 he).1) hvo,_,rfl,?_⟩
   rw [←hw];have hkOk:∀e∈ZV l.cues (n+1) d es,e.Ok:=fun e he=>by
     rw [hw]at he;obtain⟨x,hx,rfl⟩:=List.mem_map.1 he;exact⟨(hes x (List.mem_filter.1 hx).1).1,hvo _⟩
   have hoi:A.length+1 < (A++c'::d::B').length:=by simp
   have hog:(A++c'::d::B')[A.length+1]=d:=by
     have:(A++c'::d::B')[A.length+1]? =some d:=by simp
     exact(List.getElem?_eq_some_iff.1 this).2
   refine Z0 Z3E ⟨{l with cues:=A++c'::d::B'},A.length+1,ZV l.cues (n+1) d es,hoi,houtOk,hkOk,by show(A++c'::d::B').length≤1000000;omega,by simp only [zz,reduceCtorEq,Lis.enc,Cue.enc],?_⟩;refine⟨_,rfl,?_⟩;have hsetl:(A++c'::d::B').set (A.length+1) (setC d (ZV l.cues (n+1) d es) 1)=A++c'::setC d (ZV l.cues (n+1) d es) 1::B':=by
     rw [show A++c'::d::B'=(A++[c'])++d::B' by simp,List.set_append_right _ _ (by simp)];simp
   have hg:ZN {l with cues:=A++c'::d::B'} (A.length+1) ((A++c'::d::B')[A.length+1]) (ZV l.cues (n+1) d es)=
       if 128 < (setC d (ZV l.cues (n+1) d es) 1).moves.length then(zeroL,5)else({l with cues:=A++c'::setC d (ZV l.cues (n+1) d es) 1::B'},0):=by
     unfold ZN;rw [hog,Z0Y hdR hkR, ←hsetl];by_cases h:128 < (setC d (ZV l.cues (n+1) d es) 1).moves.length
     · simp only [h,if_true];rfl
     · simp only [h,if_false];rfl
   have hgOk:(ZN {l with cues:=A++c'::d::B'} (A.length+1) ((A++c'::d::B')[A.length+1]) (ZV l.cues (n+1) d es)).1.Ok∧I64 (ZN {l with cues:=A++c'::d::B'} (A.length+1) ((A++c'::d::B')[A.length+1]) (ZV l.cues (n+1) d es)).2:=by
     rw [hg];split
     · exact⟨Yu,show I64 5 from⟨by decide,by decide⟩⟩
     · refine⟨{hl with cues:=fun x hx=>?_},show I64 0 from⟨by decide,by decide⟩⟩;rcases List.mem_append.1 hx with hx|hx
       · exact(hin x (by simp [hx])).2.2
       · rcases List.mem_cons.1 hx with rfl|hx
         · exact hcOk
         · rcases List.mem_cons.1 hx with rfl|hx
           · exact ZG (hl.cues d hd) hkOk ⟨by decide,by decide⟩
           · exact(hin x (by simp [hx])).2.2
   refine Z0 Z2N ⟨_,_,hgOk.1,hgOk.2,by simp only [zz,reduceCtorEq,Lis.enc,Cue.enc],_,rfl,?_⟩;rw [hg];by_cases h8:128 < (setC d (ZV l.cues (n+1) d es) 1).moves.length
   · rw [if_pos h8];rw [YA (l:= {l with cues:=A++c'::setC d (ZV l.cues (n+1) d es) 1::B'}) (c:=setC d (ZV l.cues (n+1) d es) 1) (by simp) h8]at hK;simp only [zz,reduceCtorEq,Lis.enc,Cue.enc];exact hK
   · rw [if_neg h8]
     rw [YE (by have:(A++c'::setC d (ZV l.cues (n+1) d es) 1::B').length=(A++c'::d::B').length:=(by simp);show (A++c'::setC d (ZV l.cues (n+1) d es) 1::B').length≤64;omega) (fun x hx=>by
       rcases List.mem_append.1 hx with hx|hx
       · exact(hin x (by simp [hx])).1
       · rcases List.mem_cons.1 hx with rfl|hx
         · omega
         · rcases List.mem_cons.1 hx with rfl|hx
           · omega
           · exact(hin x (by simp [hx])).1)]at hK
     simp only [zz,reduceCtorEq,Lis.enc,Cue.enc];exact hK
noncomputable def t97:R:=let x0:T:=.o2 .app .nils (Va 2);.need (.o2 .le (.o1 .len x0) (Vn 1172812402961)) (.need (.o2 .le (Vn 0) (Va 3)) (.need (.o2 .lt (Va 3) (.o1 .len x0)) (.call none (.fn 171) [Vl (Va 0) (Vl (Va 1) (Vl (Va 2) .lnil)),.upd x0 (Va 3) 0 (Vl (Va 4) (Vl (Va 5) (Vl (Va 6) (Vl (Va 7) (Vl (Va 8) (Vl (Va 9) (Vl (Va 10) (Vl (Va 11) (Vl (Va 12) .lnil)))))))))] [.agg liKs] (.ret [.d (Vl (Va 13) (Vl (Va 14) (Vl (Va 15) .lnil)))]))))
theorem ZfM:fnO Tryz.prog mdA 97 [.agg liKs,.cell (.int .i64),.agg J9]=t97:=by kernel_rfl
noncomputable def t82:R:=let x0:T:=.o1 .len (.idx (Va 2) (Va 3) 2 (.slice mvKs));let x1:T:=Vl (Vn 0) (Vl (Vn 0) (Vl .nils .lnil));let x2:T:=.o1 .len (Va 2);.fact (.o2 .le x2 (Vn 140737488355328)) (.ite (.o2 .gt x2 (Vn 64)) (.ret [.d x1,.d (Vn 5)]) (.loop 0 [Vn 0] [.int .i64] (.ite (.o2 .lt (Va 3) x2) (.need (.o2 .le (Vn 0) (Va 3)) (.fact (.o2 .le x0 (Vn 140737488355328)) (.ite (.o2 .gt x0 (Vn 128)) (.ret [.d x1,.d (Vn 5)]) (.again 0 [.o2 (.add .i64) (Va 3) (Vn 1)])))) (.ret [.d (Vl (Va 0) (Vl (Va 1) (Vl (Va 2) .lnil))),.d (Vn 0)]))))
theorem ZfZ:fnO Tryz.prog mdA 82 [.agg liKs]=t82:=by kernel_rfl
noncomputable def t152:R:=let x0:List K:=mvKs;let x1:List K:=tmKs;.need (.o2 .le (Vn 0) (Va 3)) (.need (.o2 .lt (Va 3) (.o1 .len (Va 2))) (.call none (.fn 148) [Va 4,Vn 1] [.cell (.slice x0)] (.call none (.fn 147) [.idx (Va 2) (Va 3) 2 (.slice x0),Va 5] [.cell (.slice x0)] (.call none (.fn 95) [Vl (.idx (Va 2) (Va 3) 0 .str) (Vl (.idx (Va 2) (Va 3) 1 .str) (Vl (.idx (Va 2) (Va 3) 2 (.slice x0)) (Vl (.idx (Va 2) (Va 3) 3 (.slice x1)) (Vl (.idx (Va 2) (Va 3) 4 .bool) (Vl (.idx (Va 2) (Va 3) 5 .bool) (Vl (.idx (Va 2) (Va 3) 6 (.int .i64)) (Vl (.idx (Va 2) (Va 3) 7 .str) (Vl (.idx (Va 2) (Va 3) 8 (.int .i64)) .lnil)))))))),Va 6] [.agg [.str,.str,.slice x0,.slice x1,.bool,.bool,.int .i64,.str,.int .i64]] (.call none (.fn 97) [Vl (Va 0) (Vl (Va 1) (Vl (Va 2) .lnil)),Va 3,Vl (Va 7) (Vl (Va 8) (Vl (Va 9) (Vl (Va 10) (Vl (Va 11) (Vl (Va 12) (Vl (Va 13) (Vl (Va 14) (Vl (Va 15) .lnil))))))))] [.agg [.int .i64,.int .i64,.slice [.str,.str,.slice x0,.slice x1,.bool,.bool,.int .i64,.str,.int .i64]]] (.ret [.d (Vl (Va 16) (Vl (Va 17) (Vl (Va 18) .lnil)))]))))))
theorem Zeh:fnO Tryz.prog mdA 152 [.agg liKs,.cell (.int .i64),.cell (.slice enKs)]=t152:=by kernel_rfl
theorem Z0F:Contract Tryz.prog 97 fun args K=>∃(l:Lis) (i:Nat) (c:Cue),l.Ok∧c.Ok∧i < l.cues.length∧l.cues.length≤1000000∧args=[.agg l.enc,.int .i64 i,.agg c.enc]∧K [.d (.agg (Lis.enc {l with cues:=l.cues.set i c}))]:=by
 refine .of (by kernel_rfl) ZfM ?_;rintro _ K ⟨l,i,c,hl,hc,hi,hlen,rfl,hK⟩ hsm;refine⟨l.enc++[.int .i64 (i:Nat)]++c.enc,rfl,by exact(show HasKs ((liKs++[.int .i64])++J9) _ from((Lis.has hl).append (WV (v:=(i:Nat)) ⟨by omega,by omega⟩)).append (Cue.has hc)),?_⟩;have e:=Za5 hi c;refine⟨by simp only [zz,reduceCtorEq,Lis.enc,List.length_map] <;> omega,by simp only [zz,reduceCtorEq,Lis.enc] <;> omega,by simp only [zz,reduceCtorEq,Lis.enc,List.length_map] <;> omega,?_⟩;refine Z0 Z9F ⟨l,l.cues.set i c,hl,fun x hx=>?_,by simp only [zz,reduceCtorEq,Lis.enc,Cue.enc,D.upd,Int.toNat_natCast];rw [←e];rfl,_,rfl,?_⟩
 · rcases List.mem_or_eq_of_mem_set hx with hx|rfl
   · exact hl.cues x hx
   · exact hc
 · simp only [zz,reduceCtorEq,Lis.enc,Cue.enc];exact hK
theorem ZbR:Contract Tryz.prog 82 fun args K=>∃(l:Lis),l.Ok∧args=[.agg l.enc]∧K [.d (.agg (Ju l).1.enc),.d (.int .i64 (Ju l).2)]:=by
 refine .of (by kernel_rfl) ZfZ ?_;rintro _ K ⟨l,hl,rfl,hK⟩ hsm;refine⟨l.enc,rfl,Lis.has hl,?_⟩;simp only [zz,reduceCtorEq,t82,Lis.enc,List.length_map];intro hcap;refine⟨fun h=>?_,fun h=>?_⟩
 · rw [Z28 (by omega)]at hK;exact hK
 refine Jb l.cues (fun _ xs (_:Unit)=>xs.any fun c=>decide (128 < c.moves.length)) (fun i _=>[.int .i64 i]) () _ rfl 0 (fun _ _=>rfl) rfl ?_ ?_
 · intro i hi _ hgo;simp only [zz,reduceCtorEq,List.length_map,hi,J0 hi,Cue.enc];refine⟨by omega,fun hc2=>⟨fun h5=>?_,fun h5=>⟨(),by rw [Z1] <;> omega,?_⟩⟩⟩
   · rw [YA (List.getElem_mem hi) (by omega)]at hK;exact hK
   · rw [List.any_cons]at hgo;have:decide (128 < l.cues[i].moves.length)=false:=by simp;omega
     rw [this,Bool.false_or]at hgo;exact hgo
 · intro _ hgo;simp only [List.any_nil]at hgo;simp only [zz,reduceCtorEq,List.length_map,Nat.lt_irrefl];rw [YE (by omega) (fun x hx=>by
     have:=List.any_eq_false.1 hgo.symm x hx;simp only [decide_eq_true_eq]at this;omega)]at hK
   exact hK
theorem Z3F {cs:List Cue} {i:Nat} (hi:i < cs.length) (es:List Ent):WH cs i es=cs.set i (setC cs[i] es 1):=by
 unfold WH;apply List.ext_getElem?;intro k;rw [List.getElem?_modify,List.getElem?_set];by_cases h:i=k
 · subst h;simp [hi]
 · simp [h]
theorem Za8:Contract Tryz.prog 152 fun args K=>∃(l:Lis) (i:Nat) (es:List Ent) (hi:i < l.cues.length),l.Ok∧(∀e∈es,e.Ok)∧Jg l.cues[i].moves∧l.cues[i].moves.length≤10000∧l.cues[i].parts.length≤1000000∧es.length≤10000∧l.cues.length≤1000000∧
   args=[.agg l.enc,.int .i64 i,.slice (es.map Ent.enc)]∧K [.d (.agg (Lis.enc {l with cues:=WH l.cues i es}))]:=by
 refine .of (by kernel_rfl) Zeh ?_;rintro _ K ⟨l,i,es,hi,hl,hes,hr,hml,hpl,hel,hlen,rfl,hK⟩ hsm;have h1:I64 1:=⟨by decide,by decide⟩
 refine⟨(l.enc++[.int .i64 (i:Nat)])++[.slice (es.map Ent.enc)],rfl,by exact ZaW hl ⟨by omega,by omega⟩ hes,?_⟩;have hc:=hl.cues _ (List.getElem_mem hi);refine⟨by simp only [zz,reduceCtorEq,Lis.enc] <;> omega,by simp only [zz,reduceCtorEq,Lis.enc,List.length_map] <;> omega,?_⟩;refine Z0 Z9q ⟨es,1,hes,h1,hel,by simp only [zz,reduceCtorEq,Lis.enc],_,rfl,?_⟩;refine Z0 Z7w ⟨l.cues[i].moves,givM es 1,hc.moves,Z7E hes h1,hr,hml,by simp [givM];omega,by simp only [zz,reduceCtorEq,Lis.enc,J0 hi,Cue.enc],_,rfl,?_⟩;have hS:=ZG hc hes h1;refine Z0 Z3O ⟨l.cues[i],Zh l.cues[i].moves (givM es 1),hc,hS.moves,hpl,by simp only [zz,reduceCtorEq,Lis.enc,J0 hi,Cue.enc],_,rfl,?_⟩;refine Z0 Z0F ⟨l,i,setC l.cues[i] es 1,hl,hS,hi,hlen,by simp only [zz,reduceCtorEq,Lis.enc,Cue.enc,setC],_,rfl,?_⟩;rw [Z3F hi]at hK;simp only [zz,reduceCtorEq,Lis.enc,Cue.enc];exact hK
def Z36 (cs0:List Cue) (n:Nat) (out:List Cue) (e:Ent):List Cue:=if srcd cs0 n e then upd1 cs0 n out e else WH out (n - 1) [e]
theorem Z4l {e:Ent} {m:Mov} (h:m.pa≠e.pa):∀ms:List Mov,Z1J (putM ms m) e=putM (Z1J ms e) m
 | []=>by simp [Z1J,putM,h]
 | x ::ms=>by
   have ih:=Z4l h ms;simp only [Z1J]at ih ⊢;have hx:(if x.pa=e.pa then {x with va:=e.va}else x).pa=x.pa:=by split <;> rfl
   simp only [putM,List.map_cons,hx];by_cases h1:W3 x.pa m.pa=true
   · simp only [h1,if_true,List.map_cons,ih]
   · simp only [h1,if_false];by_cases h2:x.pa=m.pa
     · simp [h2,h]
     · simp [h2,h]
theorem ZaY (cs:List Cue) (a:Nat) (es fs:List Ent):WH (WH cs a es) a fs=WH cs a (es++fs):=by
 unfold WH;apply List.ext_getElem?;intro k;simp only [List.getElem?_modify];cases cs[k]? with
 |none=>rfl
 |some c=>by_cases hk:a=k <;> simp [hk,setC,Zh,givM]
theorem ZbM {cs0:List Cue} {n:Nat} {e f:Ent} (hne:e.pa≠f.pa) (out:List Cue) (a:Nat):upd1 cs0 n (WH out a [e]) f=WH (upd1 cs0 n out f) a [e]:=by
 unfold upd1 WH;apply List.ext_getElem?;intro k;simp only [List.getElem?_modify];cases out[k]? with
 |none=>rfl
 | some c=>
   have hc:updC f (setC c [e] 1)=setC (updC f c) [e] 1:=by
     simp only [updC,setC,Zh,givM,List.map_cons,List.map_nil,List.foldl_cons,List.foldl_nil];rw [Z4l (by exact hne)]
   by_cases h1:(src cs0 f.pa n).toNat=k <;> by_cases h2:a=k <;> simp [h1,h2,hc]
theorem Z5X {cs0:List Cue} {n:Nat} {e:Ent} (he:srcd cs0 n e=false) (a:Nat):∀(fs:List Ent) (out:List Cue),(∀f∈fs,srcd cs0 n f=true)→fs.foldl (upd1 cs0 n) (WH out a [e])=WH (fs.foldl (upd1 cs0 n) out) a [e]
 | [],_,_=>rfl
 | f::fs,out,h=>by
   have hf:=h f (by simp);rw [List.foldl_cons,List.foldl_cons,ZbM,Z5X he a fs _ fun x hx=>h x (by simp [hx])];intro hp;unfold srcd at he hf;rw [hp,hf]at he;cases he
theorem ZaZ {cs:List Cue} (a:Nat):WH cs a []=cs:=by
 unfold WH;apply List.ext_getElem?;intro k;simp only [List.getElem?_modify];cases cs[k]? with
 |none=>rfl
 |some c=>by_cases hk:a=k <;> simp [hk,setC,Zh,givM]
theorem Z8a (cs0:List Cue) (n:Nat):∀(es:List Ent) (out:List Cue),es.foldl (Z36 cs0 n) out=WH ((es.filter (srcd cs0 n)).foldl (upd1 cs0 n) out) (n - 1) (es.filter fun e=>!srcd cs0 n e)
 | [],out=>by simp [ZaZ]
 | e ::es,out=>by
   rw [List.foldl_cons,Z8a cs0 n es];unfold Z36;cases he:srcd cs0 n e with
   |true=>simp [he]
   | false=>
     simp only [List.filter_cons,he,Bool.false_eq_true,if_false,Bool.not_false,if_true];rw [Z5X he _ _ _ fun f hf=>(List.mem_filter.1 hf).2,ZaY];rfl
theorem Z27 (cs:List Cue) (n:Nat) (es:List Ent):es.foldl (Z36 cs n) cs=JF cs n es:=Z8a cs n es cs
structure KinU (cs out:List Cue) (k:Nat):Prop where
 len:out.length=cs.length
 ok:∀c∈out,c.Ok
 mv:∀c∈out,Jg c.moves∧c.moves.length≤128+k∧c.parts.length≤4
 has:∀j (h1:j < out.length) (h2:j < cs.length) p,(Zb cs[j].moves p).isSome=true→(Zb out[j].moves p).isSome=true
theorem KinU.set {cs out:List Cue} {k i:Nat} (h:KinU cs out k) (hi:i < out.length) {c:Cue} (h1:c.Ok) (h2:Jg c.moves∧c.moves.length≤128+(k+1)∧c.parts.length≤4) (h3:∀p,(Zb out[i].moves p).isSome=true→(Zb c.moves p).isSome=true):KinU cs (out.set i c) (k+1) where
 len:=by rw [List.length_set,h.len]
 ok:=fun x hx=>(List.mem_or_eq_of_mem_set hx).elim (h.ok x) fun e=>e▸h1
 mv:=fun x hx=>(List.mem_or_eq_of_mem_set hx).elim (fun hx=>by obtain⟨a,b,c⟩:=h.mv x hx;exact⟨a,by omega,c⟩) fun e=>e▸h2
 has:=fun j a b p hp=>by
   have hj:j < out.length:=by simpa using a
   have:=h.has j hj b p hp;rw [List.getElem_set];split
   · rename_i e;subst e;exact h3 p this
   · exact this
theorem KinU.give {cs out:List Cue} {k i:Nat} (h:KinU cs out k) (hi:i < out.length) {e:Ent} (he:e.Ok):KinU cs (out.set i (setC out[i] [e] 1)) (k+1):=by
 obtain⟨h1,h2,h3⟩:=h.mv _ (List.getElem_mem hi);refine h.set hi (ZG (h.ok _ (List.getElem_mem hi)) (by simpa using he) ⟨by decide,by decide⟩) ⟨ZT h1,?_,h3⟩ fun p hp=>?_
 · have:=(Z4C (givM [e] 1) out[i].moves).2;simp only [setC];simp [givM]at this ⊢;omega
 · simp only [setC];rw [Z2n (by simp [givM])];simp [Option.isSome_or,hp]
theorem KinU.upd {cs out:List Cue} {k i:Nat} (h:KinU cs out k) (hi:i < out.length) {e:Ent} (he:e.Ok):KinU cs (out.set i (updC e out[i])) (k+1):=by
 obtain⟨h1,h2,h3⟩:=h.mv _ (List.getElem_mem hi);refine h.set hi (Z1E (h.ok _ (List.getElem_mem hi)) he) ⟨Z4r (WO _ _) h1,?_,h3⟩ fun p hp=>?_
 · have:=congrArg List.length (WO out[i].moves e);simp only [List.length_map]at this;simp only [updC];omega
 · simp only [updC];rw [Z4J (WO _ _)];exact hp
theorem Z9f {out:List Cue} {j:Nat} (hj:j < out.length) (f:Cue→Cue):out.modify j f=out.set j (f out[j]):=by
 apply List.ext_getElem?;intro k;rw [List.getElem?_modify,List.getElem?_set];by_cases h:j=k
 · subst h;simp [hj]
 · simp [h]
theorem Z1i {out:List Cue} {k:Nat} {f:Cue→Cue} (h:∀c∈out,c.Ok) (hf:∀c∈out,(f c).Ok):∀c∈out.modify k f,c.Ok:=fun c hc=>by
 obtain⟨j,hj,rfl⟩:=List.getElem_of_mem hc;rw [ZF];split
 · exact hf _ (List.getElem_mem _)
 · exact h _ (List.getElem_mem _)
theorem Z8b (cs0:List Cue) (n:Nat):∀(es:List Ent) (out:List Cue),(∀e∈es,e.Ok)→(∀c∈out,c.Ok)→∀c∈es.foldl (Z36 cs0 n) out,c.Ok
 | [],_,_,h=>h
 | e::es,out,he,h=>by
   rw [List.foldl_cons];refine Z8b cs0 n es _ (fun x hx=>he x (by simp [hx])) ?_;unfold Z36;split
   · exact Z1i h fun c hc=>Z1E (h c hc) (he e (by simp))
   · exact Z1i h fun c hc=>ZG (h c hc) (by simpa using he e (by simp)) ⟨by decide,by decide⟩
theorem Z4f {cs:List Cue} {n:Nat} {es:List Ent} (hl:∀c∈cs,c.Ok) (hes:∀e∈es,e.Ok):∀c∈JF cs n es,c.Ok:=by
 rw [←Z27];exact Z8b _ _ es cs hes hl
noncomputable def t22:R:=.call none (.fn 44) [Vl (Va 0) (Vl (Va 1) (Vl (Va 2) .lnil))] [.cell .bool] (.call (some (Va 4)) (.fn 77) [Va 3] [.cell .bool] (.ret [.d (.ite (Va 4) (Va 5) (.bool false))]))
theorem ZgJ:fnO Tryz.prog mdA 22 [.agg liKs,.cell (.slice enKs)]=t22:=by kernel_rfl
theorem Zcx:Contract Tryz.prog 22 fun args K=>∃(l:Lis) (es:List Ent),l.Ok∧(∀e∈es,e.Ok)∧args=[.agg l.enc,.slice (es.map Ent.enc)]∧∀b:Bool,K [.d (.bool b)]:=by
 refine .of (by kernel_rfl) ZgJ ?_;rintro _ K ⟨l,es,hl,hes,rfl,hK⟩ hsm;refine⟨l.enc++[.slice (es.map Ent.enc)],rfl,by exact(Lis.has hl).append (show HasKs [.slice enKs] [.slice (es.map Ent.enc)]from⟨Jp hes,trivial⟩),?_⟩;refine Z0 Zcy ⟨l,hl,by simp only [zz,reduceCtorEq,Lis.enc],fun b=>⟨_,rfl,?_⟩⟩;refine⟨fun rs=>∃b:Bool,rs=[.bool b],fun _=>⟨_,Zfu,es,hes,by simp only [zz,reduceCtorEq,Lis.enc],fun b=>⟨_,rfl,⟨b,rfl⟩⟩⟩,fun _=>⟨false,rfl⟩,?_⟩;rintro _ _ ⟨b2,rfl⟩;simp only [zz,reduceCtorEq,Lis.enc];cases b <;> cases b2 <;> simp <;> exact hK _
end Go.Sx.La
