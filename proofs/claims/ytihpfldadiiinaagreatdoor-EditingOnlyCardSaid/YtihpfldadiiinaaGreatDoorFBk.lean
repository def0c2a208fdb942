/-
 Part 11 of the proof: the executor over the kit's code with its soundness, or contracts of functions.
-/
import Derived.Test.YtihpfldadiiinaaGreatDoorFBj
import Derived.Shelf.Spec.SlicesGrow
import Derived.Test.YtihpfldadiiinaaGreatDoorGrow
set_option linter.unusedSimpArgs false
set_option linter.unusedVariables false
set_option linter.unusedSectionVars false
set_option linter.defProp false
set_option maxRecDepth 100000
namespace Go.Sx.La
open Go Go.Sx Go.RowKit Go.Proofs
noncomputable def t27:R:=let x0:T:=Vl (Va 1) (Vl (Va 2) .lnil);let x1:T:=.o2 .eq (Va 4) (Vn 0);.call none (.fn 22) [Vl (Va 0) x0,.nils] [.cell .bool] (.call (some (Va 3)) (.fn 45) [Vl (Va 0) x0] [.cell (.int .i64)] (.fact (.ite (.ite (Va 3) x1 (.bool false)) (.o2 .le (.o1 .len (Va 2)) (Vn 140737488355328)) (.bool true)) (.ret [.d (.ite (.ite (Va 3) x1 (.bool false)) (.o2 .le (.o1 .len (Va 2)) (Vn 8)) (.bool false))])))
theorem ZfQ:fnO Tryz.prog mdA 27 [.agg liKs]=t27:=by kernel_rfl
noncomputable def t30:R:=let x0:T:=Vl (Vn 0) .lnil;.call none (.fn 18) [Vl (Va 0) (Vl (Va 1) (Vl (Va 2) .lnil)),Va 3] [.cell (.slice enKs),.cell (.int .i64)] (.ite (.o2 .ne (Va 7) (Vn 0)) (.ret [.d (Vl (Vn 0) x0),.d (.bool false)]) (.fact (.o2 .le (.o1 .len (Va 6)) (Vn 140737488355328)) (.loop 0 [Vn 0] [.int .i64] (.ite (.o2 .lt (Va 8) (.o1 .len (Va 6))) (.need (.o2 .le (Vn 0) (Va 8)) (.ite (.o2 .band (.o2 .eq (.idx (Va 6) (Va 8) 0 (.int .i64)) (Va 4)) (.o2 .band (.o2 .eq (.idx (Va 6) (Va 8) 1 (.int .i64)) (Va 5)) (.bool true))) (.ret [.d (Vl (.idx (Va 6) (Va 8) 2 (.int .i64)) (Vl (.idx (Va 6) (Va 8) 3 (.int .i64)) .lnil)),.d (.bool true)]) (.again 0 [.o2 (.add .i64) (Va 8) (Vn 1)]))) (.ret [.d (Vl (Vn (-1)) x0),.d (.bool true)])))))
theorem ZfN:fnO Tryz.prog mdA 30 [.agg liKs,.cell .str,.agg [.int .i64,.int .i64]]=t30:=by kernel_rfl
theorem Zbc:Contract Tryz.prog 27 fun args K=>∃(l:Lis),l.Ok∧args=[.agg l.enc]∧∀b:Bool,(b=true→Z6 Y2 l=0∧l.cues.length≤8)→K [.d (.bool b)]:=by
 refine .of (by kernel_rfl) ZfQ ?_;rintro _ K ⟨l,hl,rfl,hK⟩ hsm;refine⟨l.enc,rfl,Lis.has hl,?_⟩;refine Z0 ZbJ ⟨l,[],hl,by simp,by simp only [zz,reduceCtorEq,Lis.enc];first|done|rfl,fun b=>⟨_,rfl,?_⟩⟩;refine W5 Z1Z b [.int .i64 (if b then Z6 Y2 l else 0)] (by simp only [zz,reduceCtorEq,Lis.enc]) (fun h=>⟨l,hl,by simp only [zz,reduceCtorEq,Lis.enc],by rw [h];rfl⟩) (fun h=>by rw [h];rfl) ?_;have hK2:=hK (b&&decide (Z6 Y2 l=0)&&decide (l.cues.length≤8)) (fun h=>by
   simp only [Bool.and_eq_true,decide_eq_true_eq]at h;exact⟨h.1.2,h.2⟩)
 cases b
 · simp only [zz,reduceCtorEq,Lis.enc,List.length_map];exact hK2
 · simp only [zz,reduceCtorEq,Lis.enc,List.length_map];intro _;have e:decide ((l.cues.length:Int)≤8)=decide (l.cues.length≤8):=decide_eq_decide.2 (by omega);rw [e];exact hK2
def Z0T (l:Lis) (s:List UInt8) (p:Par):Val×Bool:=if Wh l s≠0 then(⟨0,0⟩,false)else(W6 l.cues p (upto l s),true)
theorem Z4C {cs:List Cue} {p:Par} {n:Nat} (hn:n≤cs.length):(Ww (Ym cs n) p=some ⟨p,W6 cs p n⟩)∨(Ww (Ym cs n) p=none∧W6 cs p n=hval):=by
 have h:=Z0n (fun _=>true) (fun p=>W6 cs p n) p (J9 cs);rw [List.filter_eq_self.2 (fun _ _=>rfl)]at h;have h':Ww (Ym cs n) p=if p∈J9 cs then some ⟨p,W6 cs p n⟩else none:=by simpa [Ym]using h
 by_cases hp:p∈J9 cs
 · exact .inl (by rw [h',if_pos hp])
 · refine .inr ⟨by rw [h',if_neg hp],?_⟩;rw [JW cs p n hn];exact Z6H fun c hc=>Z5S hp c (List.mem_of_mem_take (List.mem_reverse.1 hc))
theorem Z0E:Contract Tryz.prog 30 fun args K=>∃(l:Lis) (s:List UInt8) (p:Par),l.Ok∧p.Ok∧args=[.agg l.enc,.str s,.agg p.enc]∧K [.d (.agg (Z0T l s p).1.enc),.d (.bool (Z0T l s p).2)]:=by
 refine .of (by kernel_rfl) ZfN ?_;rintro _ K ⟨l,s,p,hl,hp,rfl,hK⟩ hsm;refine⟨l.enc++.str s::p.enc,rfl,by exact(Lis.has hl).append (show HasKs (.str::paKs) (.str s::p.enc)from⟨trivial,Par.has hp⟩),?_⟩;refine Z0 Z2L ⟨l,s,hl,by simp only [zz,reduceCtorEq,Lis.enc,Par.enc],_,rfl,?_⟩;unfold Z0T at hK;unfold Z3O;rcases Decidable.em (Wh l s=0)with h1|h1
 rotate_left
 · rw [if_pos h1]at hK ⊢;refine Y4 (by simp only [zz,reduceCtorEq,Lis.enc,Par.enc,h1]) ?_;simp only [zz,reduceCtorEq,Lis.enc];exact hK
 rw [if_neg (by simpa using h1)]at hK ⊢;refine J3 (by simp only [zz,reduceCtorEq,Lis.enc,Par.enc]) ?_;simp only [zz,reduceCtorEq,Lis.enc,Par.enc,List.length_map];intro hcap;refine Zc (Ym l.cues (upto l s)) (fun _ xs (_:Unit)=>Ww xs p) (fun i _=>[.int .i64 i]) () (Ww (Ym l.cues (upto l s)) p) rfl 0 (fun _ _=>rfl) rfl ?_ ?_
 · intro i hi _ hgo;simp only [zz,reduceCtorEq,List.length_map,hi,J0 hi,Ent.enc];refine⟨by omega,fun⟨h2,h3⟩=>?_,fun h=>⟨(),by rw [Z1] <;> omega,?_⟩⟩
   · have h4:decide ((Ym l.cues (upto l s))[i].pa=p)=true:=by
       rw [decide_eq_true_eq];exact Z9U h2 h3
     have h5:Ww ((Ym l.cues (upto l s))[i]::(Ym l.cues (upto l s)).drop (i+1)) p=some (Ym l.cues (upto l s))[i]:=List.find?_cons_of_pos (p:=fun m:Ent=>decide (m.pa=p)) h4;rw [h5]at hgo;rcases Z4C (cs:=l.cues) (p:=p) (n:=upto l s) (Z4R l s)with h6|⟨h6,h7⟩
     · rw [h6]at hgo;have h8:=Option.some.inj hgo;rw [h8];exact hK
     · rw [h6]at hgo;cases hgo
   · have h4:¬decide ((Ym l.cues (upto l s))[i].pa=p)=true:=by
       rw [decide_eq_true_eq];intro h5;rw [h5]at h;simp at h
     have h5:Ww ((Ym l.cues (upto l s))[i]::(Ym l.cues (upto l s)).drop (i+1)) p=Ww ((Ym l.cues (upto l s)).drop (i+1)) p:=List.find?_cons_of_neg (p:=fun m:Ent=>decide (m.pa=p)) h4;rw [h5]at hgo;exact hgo
 · intro _ hgo;simp only [zz,reduceCtorEq,List.length_map,Nat.lt_irrefl];rcases Z4C (cs:=l.cues) (p:=p) (n:=upto l s) (Z4R l s)with h6|⟨h6,h7⟩
   · rw [h6]at hgo;cases hgo
   · rw [h7]at hK;exact hK
theorem c6:J2 Tryz.prog 6=true:=by kernel_rfl
end Go.Sx.La
namespace Go.Sx.La
open Go Go.Sx Go.RowKit Go.Proofs Go.Shelf
theorem growX {P:Program} {f:FuncId} {ρ:Ren} (L:Lays8.n4 P ρ) (hf:ρ.f 4=f) (hcl:J2 P f=true) {ks:List K} (hres:J7 P false (Wp P f)=some [.cell (.slice ks)]) (h0:0 < ks.length)
   (hchk:(match P.info? (ρ.t 25)with|some i=>(match i.zero with|some z=>i.size==ks.length&&z.cells.size==ks.length&&decide (i.bytes≤1000)|none=>false)|none=>false)=true):
   ContractX P f [.own ks,.cell (.int .i64)] false fun args K=>∃n:Nat,n≤1000000∧args=[.own ks.length [],.d (.int .i64 n)]∧K [.own ks.length []]:=by
 obtain⟨i0,z,hi0,hz0,hs,hzs,hby⟩:∃i0 z,P.info? (ρ.t 25)=some i0∧i0.zero=some z∧i0.size=ks.length∧z.cells.size=ks.length∧i0.bytes≤1000:=by
   split at hchk <;> try contradiction
   rename_i i hi;split at hchk <;> try contradiction
   rename_i z hz;simp only [Bool.and_eq_true,beq_iff_eq,decide_eq_true_eq]at hchk;exact⟨i,z,hi,hz,hchk.1.1,hchk.1.2,hchk.2⟩
 refine⟨hcl,?_⟩;rintro _ K ⟨n,hn,rfl,hK⟩ _ w m vs hm hr;have hlen2:vs.length=2:=hr.len
 match vs,hlen2 with
 | [v,u],_=>
 have r0:=hr.rep 0 _ v rfl rfl;have r1:=hr.rep 1 _ u rfl rfl;obtain rfl:u=.int .i64 n:=by cases r1 with|d h=>cases h;rfl
 have hty:Yy P f [] [.own ks.length []]:=by
   intro rk hrk;rw [hres]at hrk;cases hrk;exact⟨[.slice []],rfl,by simp [RK.all,RK.kinds,HasKs,HasK]⟩
 have fin:∀ {e:Ending} {w':World} {v':Value},e=.returned v'→RepR m w' (fun b=>w.heap.size≤b∨Yb [.own ks.length [],.d (.int .i64 n)] [v,.int .i64 n] b) (.own ks.length []) v'→MemOk m w'→Apart (Yb [.own ks.length [],.d (.int .i64 n)] [v,.int .i64 n]) w w'→
     ∃ rs us v_1 m',K rs∧Yy P f (if false=true then Za [.own ks,.cell (.int .i64)]else []) rs∧e=.returned v_1∧v_1=Z0i us∧
       RepRs m' w' (fun b=>w.heap.size≤b∨Yb [.own ks.length [],.d (.int .i64 n)] [v,.int .i64 n] b) rs (us++if false=true then Z5 [.own ks.length [],.d (.int .i64 n)] [v,.int .i64 n]else [])∧
       m.le m'∧MemOk m' w'∧(∀b,b < w.heap.size→¬Yb [.own ks.length [],.d (.int .i64 n)] [v,.int .i64 n] b→m' b=m b)∧Apart (Yb [.own ks.length [],.d (.int .i64 n)] [v,.int .i64 n]) w w':=by
   intro e w' v' he hrep hmo hap;refine⟨[.own ks.length []],[v'],v',m,hK,hty,he,by simp [Z0i],⟨rfl,?_,?_⟩,Mem.le_refl m,hmo,fun _ _ _=>rfl,hap⟩
   · intro i r u h1 h2;cases i with
     |zero=>simp at h1 h2;subst h1 h2;exact hrep
     |succ i=>simp at h1
   · intro i j r r' u u' b hne h1 h2;cases i with
     |succ i=>simp at h1
     | zero=>cases j with
       |zero=>exact absurd rfl hne
       |succ j=>simp at h2
 have hfresh:m w.heap.size=none:=by
   cases hh:m w.heap.size with
   |none=>rfl
   |some o=>exact absurd (hm.lt hh) (Nat.lt_irrefl _)
 have alloc_at:∀(W:World) (o:Obj),(W.alloc o).heap[W.heap.size]? =some o:=fun W o=>by
   show(W.heap.push o)[W.heap.size]? =some o;simp
 have new:∀(base:Option Addr) (c:Nat) (cs:List Value),v=.slice base 0 c→c < n→cs.length=c * ks.length→(base=none→c=0)→(∀a,base=some a→∀j v,cs[j]? =some v→w.cell? (a.add j)=some v)→
     Calls P f #[v,.int .i64 n] w fun e w'=>∃rs us v_1 m',K rs∧Yy P f (if false=true then Za [.own ks,.cell (.int .i64)]else []) rs∧e=.returned v_1∧v_1=Z0i us∧
       RepRs m' w' (fun b=>w.heap.size≤b∨Yb [.own ks.length [],.d (.int .i64 n)] [v,.int .i64 n] b) rs (us++if false=true then Z5 [.own ks.length [],.d (.int .i64 n)] [v,.int .i64 n]else [])∧
       m.le m'∧MemOk m' w'∧(∀b,b < w.heap.size→¬Yb [.own ks.length [],.d (.int .i64 n)] [v,.int .i64 n] b→m' b=m b)∧Apart (Yb [.own ks.length [],.d (.int .i64 n)] [v,.int .i64 n]) w w':=by
   rintro base c cs rfl hcn hcl' hnil hcs;have hmul:n * i0.bytes≤1000000 * 1000:=Nat.mul_le_mul hn hby;have:=Any8.slices_Grow_grow L i0 z hi0 hz0 (by omega) base 0 c n cs w (Nat.zero_le _) (by omega) (by rw [Nat.zero_add];omega) (by omega) (by rw [hs];exact hcl') hnil hcs;rw [hf]at this;refine this.mono ?_;rintro e w' ⟨he,rfl⟩;have hG:n≤grownCap w (0+n) c (ρ.t 25):=by have:=grownCap_ge w (0+n) c (ρ.t 25);omega
   have hGm:grownCap w (0+n) c (ρ.t 25)≤maxLen:=grownCap_le_maxLen w (0+n) c (ρ.t 25) (by unfold maxLen;omega);generalize grownCap w (0+n) c (ρ.t 25)=G at he hG hGm ⊢;refine fin he (.own (xs:=[]) (.inl (Nat.le_refl _)) hfresh (alloc_at w.drew _) (by omega) (Nat.zero_le _) hGm (Nat.zero_le _) ?_ (by simp) (by simp)) ?_ ⟨rfl,rfl,rfl,Nat.le_succ _,by show w.heap.size≤(w.heap.push _).size;simp,fun b hb _=>heap_alloc_old w.drew _ hb⟩
   · have hz:∀k,(Builtin.zeroCells z.cells k).size=k * ks.length:=fun k=>by simp [Builtin.zeroCells,hzs]
     simp only [Array.size_append,List.size_toArray,hz,hcl',Nat.zero_add];rw [←Nat.add_mul, ←Nat.add_mul];congr 1;omega
   · intro b o hb;rw [heap_alloc_old w.drew _ (hm.lt hb)];exact hm b o hb
 have old:∀(base:Option Addr) (c:Nat),v=.slice base 0 c→n≤c→c≤maxLen→RepR m w (fun b=>w.heap.size≤b∨Yb [.own ks.length [],.d (.int .i64 n)] [v,.int .i64 n] b) (.own ks.length []) v→
     Calls P f #[v,.int .i64 n] w fun e w'=>∃rs us v_1 m',K rs∧Yy P f (if false=true then Za [.own ks,.cell (.int .i64)]else []) rs∧e=.returned v_1∧v_1=Z0i us∧
       RepRs m' w' (fun b=>w.heap.size≤b∨Yb [.own ks.length [],.d (.int .i64 n)] [v,.int .i64 n] b) rs (us++if false=true then Z5 [.own ks.length [],.d (.int .i64 n)] [v,.int .i64 n]else [])∧
       m.le m'∧MemOk m' w'∧(∀b,b < w.heap.size→¬Yb [.own ks.length [],.d (.int .i64 n)] [v,.int .i64 n] b→m' b=m b)∧Apart (Yb [.own ks.length [],.d (.int .i64 n)] [v,.int .i64 n]) w w':=by
   rintro base c rfl hcn hcm hrep;have:=Any8.slices_Grow_room L base 0 c n w (Nat.zero_le _) (by unfold maxLen at hcm;omega) (by omega) (by omega);rw [hf]at this;refine this.mono ?_;rintro e w' ⟨he,rfl⟩;exact fin he hrep hm ⟨rfl,rfl,rfl,Nat.le_refl _,Nat.le_refl _,fun _ _ _=>rfl⟩
 cases r0 with
 | none=>
   rcases Nat.eq_zero_or_pos n with h|h
   · exact old _ 0 rfl (by omega) (Nat.zero_le _) .none
   · exact new _ 0 [] rfl h (by simp) (fun _=>rfl) (by simp)
 | @own _ _ b c arr t hB hmb hb h0c hc hcc hcap hsz he hv=>
   rcases Nat.lt_or_ge c n with h|h
   · refine new _ c arr.toList rfl h (by simpa using hsz) (fun h=>by cases h) ?_;intro ad had j v hj;cases had;have ea:(⟨b,0,none⟩:Addr).add j=⟨b,j,none⟩:=by
       simp only [Addr.add];split
       · rename_i h0;rw [h0]
       · simp
     rw [ea];simp only [World.cell?,hb];simpa using hj
   · exact old _ c rfl h hcc (.own (.inr ⟨0,_,_,rfl,rfl,rfl,by simp [blk];omega⟩) hmb hb h0c hc hcc hcap hsz (by simp) (by simp))
end Go.Sx.La
namespace Go.Sx.La
open Go Go.Sx Go.RowKit Go.Proofs
noncomputable def t98:R:=let x0:List K:=[.int .i64,.int .i64];let x1:T:=.o1 .len (.idx (Va 0) (Va 2) 0 (.slice x0));let x2:T:=.idx (Va 0) (Va 5) 0 (.slice x0);let x3:T:=.o1 .len (Va 0);.fact (.o2 .le x3 (Vn 140737488355328)) (.loop 0 [Vn 0,Vn 0] x0 (.ite (.o2 .lt (Va 2) x3) (.need (.o2 .le (Vn 0) (Va 2)) (.fact (.o2 .le x1 (Vn 140737488355328)) (.ite (.o2 .lt (.o2 (.add .i64) (Va 1) x1) (Vn 0)) (.fail "slices.go:496") (.again 0 [.o2 (.add .i64) (Va 1) x1,.o2 (.add .i64) (Va 2) (Vn 1)])))) (.callX false 172 [.own 2 .nils,.d (Va 1)] [.own x0] (.loop 1 [Va 3,Vn 0] [.slice x0,.int .i64] (.ite (.o2 .lt (Va 5) x3) (.need (.o2 .le (Vn 0) (Va 5)) (.need (.o2 .le (.o1 .len (.o2 .app (Va 4) x2)) (Vn 8796093022208)) (.again 1 [.o2 .app (Va 4) x2,.o2 (.add .i64) (Va 5) (Vn 1)]))) (.ret [.own 2 (Va 4)]))))))
theorem ZeZ:fnO Tryz.prog mdA 98 [.cell (.slice [.slice [.int .i64,.int .i64]])]=t98:=by kernel_rfl
theorem Z8W:ContractX Tryz.prog 172 [.own paKs,.cell (.int .i64)] false fun args K=>∃n:Nat,n≤1000000∧args=[.own 2 [],.d (.int .i64 n)]∧K [.own 2 []]:=
 growX Tryz.grow172 rfl (by kernel_rfl) (ks:=paKs) (by kernel_rfl) (by decide) (by kernel_rfl)
theorem Z93:Contract Tryz.prog 98 fun args K=>∃(ls:List (List Par)),(∀l∈ls,∀p∈l,p.Ok)∧ls.length≤1000000∧(ls.map List.length).sum≤1000000∧args=[.slice (ls.map fun l=>[.slice (l.map Par.enc)])]∧K [.own 2 (ls.flatten.map Par.enc)]:=by
 refine .of (by kernel_rfl) ZeZ ?_;rintro _ K ⟨ls,hls,h1,h2,rfl,hK⟩ hsm;refine⟨[.slice (ls.map fun l=>[.slice (l.map Par.enc)])],rfl,⟨?_,trivial⟩,?_⟩
 · intro x hx;obtain⟨l,hl,rfl⟩:=List.mem_map.1 hx;exact⟨fun y hy=>by obtain⟨p,hp,rfl⟩:=List.mem_map.1 hy;exact Par.has (hls l hl p hp),trivial⟩
 intro _;refine Zc ls (fun _ l (s:Nat)=>s+(l.map List.length).sum) (fun i s=>[.int .i64 s,.int .i64 i]) 0 (ls.map List.length).sum (by simp) 1 (fun _ _=>rfl) rfl ?_ ?_
 · intro i hi s hgo;refine⟨fun _=>⟨by simp only [zz,reduceCtorEq] <;> omega,?_⟩,fun h=>?_⟩;rotate_left
   · exfalso;simp only [zz,reduceCtorEq,List.length_map,hi]at h
   intro _;simp only [List.map_cons,List.sum_cons]at hgo;refine J3 ?_ ?_
   · simp only [zz,reduceCtorEq,J0 hi,List.length_map];rw [Z1 (by omega)];simp;omega
   simp only [zz,reduceCtorEq,J0 hi,List.length_map];exact⟨s+ls[i].length,⟨by rw [Z1] <;> omega,by rw [Z1] <;> omega⟩,by omega⟩
 · intro s hgo;refine⟨fun h=>?_,fun _=>?_⟩
   · exfalso;simp only [zz,reduceCtorEq,List.length_map,Nat.lt_irrefl]at h
   simp only [List.map_nil,List.sum_nil]at hgo;refine Wu Z8W ⟨_,rfl,?_⟩ (fun h=>by cases h) ⟨s,by omega,by simp only [zz,reduceCtorEq],_,rfl,?_⟩
   · simp [Y1,PK.kinds,HasKs,HasK,IntKind.min,IntKind.max,IntKind.signed,IntKind.bits,den];omega
   refine Zc ls (fun _ l (a:List Par)=>a++l.flatten) (fun i a=>[.slice (a.map Par.enc),.int .i64 i]) [] ls.flatten (by simp) 1 (fun _ _=>rfl) rfl ?_ ?_
   · intro i hi a hgo;refine⟨fun _=>⟨by simp only [zz,reduceCtorEq] <;> omega,?_⟩,fun h=>?_⟩;rotate_left
     · exfalso;simp only [zz,reduceCtorEq,List.length_map,hi]at h
     have hl:a.length+ls[i].length≤1000000:=by
       have:=congrArg List.length hgo;simp only [List.length_append,List.flatten_cons,List.length_flatten]at this;omega
     refine⟨by simp only [zz,reduceCtorEq,J0 hi,List.length_map,List.length_append] <;> omega,?_⟩;simp only [zz,reduceCtorEq,J0 hi,List.length_map];exact⟨a++ls[i],⟨by simp,by rw [Z1] <;> omega⟩,by rw [List.append_assoc];exact hgo⟩
   · intro a hgo;refine⟨fun h=>?_,fun _=>?_⟩
     · exfalso;simp only [zz,reduceCtorEq,List.length_map,Nat.lt_irrefl]at h
     have:a=ls.flatten:=by simpa using hgo
     subst this;simp only [zz,reduceCtorEq];exact hK
noncomputable def t38:R:=let x0:List K:=[.int .i64,.int .i64];let x1:T:=Vl (.idx (Va 12) (Va 13) 1 (.int .i64)) .lnil;let x2:T:=Vl (Va 1) (Vl (Va 2) .lnil);let x3:T:=Vl (Va 4) (Vl (Va 5) .lnil);let x4:T:=.idx (Va 12) (Va 13) 0 (.int .i64);.call none (.fn 67) [Vl (Va 0) x2] [.cell (.slice x0),.cell (.int .i64)] (.call none (.fn 67) [Vl (Va 3) x3] [.cell (.slice x0),.cell (.int .i64)] (.ite (.ite (.o2 .ne (Va 8) (Vn 0)) (.bool true) (.o2 .ne (Va 10) (Vn 0))) (.ret [.d (.bool false)]) (.fact (.o2 .le (.o1 .len (Va 2)) (Vn 140737488355328)) (.loop 0 [Vn 0] [.int .i64] (.ite (.o2 .lt (Va 11) (.o1 .len (Va 2))) (.need (.o2 .le (Vn 0) (Va 11)) (.ite (.o2 .eq (.idx (Va 2) (Va 11) 0 .str) (Va 6)) (.again 0 [.o2 (.add .i64) (Va 11) (Vn 1)]) (.call none (.fn 98) [.push (.push .nils (Vl (Va 7) .lnil)) (Vl (Va 9) .lnil)] [.cell (.slice x0)] (.fact (.o2 .le (.o1 .len (Va 12)) (Vn 140737488355328)) (.loop 1 [Vn 0] [.int .i64] (.ite (.o2 .lt (Va 13) (.o1 .len (Va 12))) (.need (.o2 .le (Vn 0) (Va 13)) (.call none (.fn 30) [Vl (Va 0) x2,.idx (Va 2) (Va 11) 0 .str,Vl x4 x1] [.agg x0,.cell .bool] (.call none (.fn 30) [Vl (Va 3) x3,.idx (Va 2) (Va 11) 0 .str,Vl x4 x1] [.agg x0,.cell .bool] (.ite (.ite (.ite (.o1 .not (Va 16)) (.bool true) (.o1 .not (Va 19))) (.bool true) (.o1 .not (.o2 .band (.o2 .eq (Va 14) (Va 17)) (.o2 .band (.o2 .eq (Va 15) (Va 18)) (.bool true))))) (.ret [.d (.bool false)]) (.again 1 [.o2 (.add .i64) (Va 13) (Vn 1)]))))) (.again 0 [.o2 (.add .i64) (Va 11) (Vn 1)]))))))) (.ret [.d (.bool true)]))))))
theorem ZfL:fnO Tryz.prog mdA 38 [.agg liKs,.agg liKs,.cell .str]=t38:=by kernel_rfl
def Zco (a b:Lis) (s:List UInt8):Prop:=∀c∈a.cues,c.num≠s→∀p,p.Ok→∃v,Z0T a c.num p=(v,true)∧Z0T b c.num p=(v,true)
theorem Zcb:Contract Tryz.prog 38 fun args K=>∃(a b:Lis) (s:List UInt8),a.Ok∧b.Ok∧Z6 Y2 a=0∧Z6 Y2 b=0∧Zco a b s∧args=[.agg a.enc,.agg b.enc,.str s]∧K [.d (.bool true)]:=by
 refine .of (by kernel_rfl) ZfL ?_;rintro _ K ⟨a,b,s,ha,hb,ca,cb,hv,rfl,hK⟩ hsm;refine⟨a.enc++b.enc++[.str s],rfl,by exact((Lis.has ha).append (Lis.has hb)).append (ks':=[.str]) ⟨trivial,trivial⟩,?_⟩;have fa:Z6q a=(J9 a.cues,0):=by simp [Z6q,ca]
 have fb:Z6q b=(J9 b.cues,0):=by simp [Z6q,cb]
 have hRA:=Wn ha ca;have hRB:=Wn hb cb;refine Z0 Z5l ⟨a,ha,by simp only [zz,reduceCtorEq,Lis.enc],_,rfl,?_⟩;refine Z0 Z5l ⟨b,hb,by simp only [zz,reduceCtorEq,Lis.enc],_,rfl,?_⟩;rw [fa,fb];refine J3 (by simp only [zz,reduceCtorEq,Lis.enc]) ?_;intro _;have hlen:=(Jc ca).len;refine Zc a.cues (fun _ _ (_:Unit)=>()) (fun i _=>[.int .i64 i]) () () rfl 0 (fun _ _=>rfl) rfl ?_ ?_
 · intro i hi _ _;refine⟨fun _=>⟨by simp only [zz,reduceCtorEq,Lis.enc] <;> omega,?_⟩,fun h=>?_⟩;rotate_left
   · exfalso;simp only [zz,reduceCtorEq,Lis.enc,List.length_map,hi]at h
   by_cases hn:a.cues[i].num=s
   · refine Y4 (by simp only [zz,reduceCtorEq,Lis.enc,J0 hi,Cue.enc];simp [hn]) ?_;simp only [zz,reduceCtorEq,Lis.enc];refine⟨(),?_⟩;rw [Z1] <;> omega
   refine J3 (by simp only [zz,reduceCtorEq,Lis.enc,J0 hi,Cue.enc];simp [hn]) ?_;have hpa:∀p∈J9 a.cues++J9 b.cues,p.Ok:=fun p hp=>by
     rcases List.mem_append.1 hp with h|h
     · exact(Z55 hRA p (Wt.1 h)).1
     · exact(Z55 hRB p (Wt.1 h)).1
   refine Z0 Z93 ⟨[J9 a.cues,J9 b.cues],?_,by simp,by have:=ZG hRA;have:=ZG hRB;simp;omega,by simp only [zz,reduceCtorEq,Lis.enc],_,rfl,?_⟩
   · intro l hl p hp;refine hpa p ?_;simp at hl;rcases hl with rfl|rfl
     · exact List.mem_append_left _ hp
     · exact List.mem_append_right _ hp
   have e2: [J9 a.cues,J9 b.cues].flatten=J9 a.cues++J9 b.cues:=by simp
   rw [e2];intro _;refine Zc (J9 a.cues++J9 b.cues) (fun _ _ (_:Unit)=>()) (fun k _=>[.int .i64 k]) () () rfl 0 (fun _ _=>rfl) rfl ?_ ?_
   · intro k hk _ _;have hkm:=List.getElem_mem hk;refine⟨fun _=>⟨by simp only [zz,reduceCtorEq,Lis.enc] <;> omega,?_⟩,fun h=>?_⟩;rotate_left
     · exfalso;simp only [zz,reduceCtorEq,Lis.enc,List.length_map,hk]at h
     obtain⟨v,v1,v2⟩:=hv _ (List.getElem_mem hi) hn (J9 a.cues++J9 b.cues)[k] (hpa _ hkm);refine Z0 Z0E ⟨a,a.cues[i].num,(J9 a.cues++J9 b.cues)[k],ha,hpa _ hkm,by simp only [zz,reduceCtorEq,Lis.enc,J0 hi,J0 hk,Cue.enc,Par.enc],_,rfl,?_⟩;rw [v1];refine Z0 Z0E ⟨b,a.cues[i].num,(J9 a.cues++J9 b.cues)[k],hb,hpa _ hkm,by simp only [zz,reduceCtorEq,Lis.enc,J0 hi,J0 hk,Cue.enc,Par.enc],_,rfl,?_⟩;rw [v2];refine J3 (by simp only [zz,reduceCtorEq,Lis.enc,Val.enc]) ?_;simp only [zz,reduceCtorEq,Lis.enc];refine⟨(),?_⟩;have hkl:(J9 a.cues++J9 b.cues).length≤1000000:=by have:=ZG hRA;have:=ZG hRB;simp only [List.length_append];omega
     rw [Z1] <;> omega
   · intro _ _;refine⟨fun h=>?_,fun _=>?_⟩
     · exfalso;simp only [zz,reduceCtorEq,Lis.enc,List.length_map,Nat.lt_irrefl]at h
     simp only [zz,reduceCtorEq,Lis.enc,Z7I _ _ (show(0:Nat)≠1 by decide)];refine⟨(),?_⟩;rw [Z1] <;> omega
 · intro _ _;refine⟨fun h=>?_,fun _=>?_⟩
   · exfalso;simp only [zz,reduceCtorEq,Lis.enc,List.length_map,Nat.lt_irrefl]at h
   simp only [zz,reduceCtorEq,Lis.enc];exact hK
theorem Z99 {l:Lis} (h:Z6 Y2 l=0) {i:Nat} (hi:i < l.cues.length) (p:Par):Z0T l l.cues[i].num p=(W6 l.cues p (i+1),true):=by
 obtain⟨h1,h2,_⟩:=Z5p h hi;unfold Z0T;rw [if_neg (by simp [h1]),h2]
structure Less (l:Lis) (A:List Cue) (c:Cue) (B:List Cue) (out:List Cue):Prop where
 len:out.length+1=l.cues.length
 ck:Z6 Y2 {l with cues:=out}=0
 ok:Lis.Ok {l with cues:=out}
 nums:out.map (·.num)=(A++B).map (·.num)
theorem ZX {l:Lis} (h:Z6 Y2 l=0) {P Q:List Cue} {c:Cue} (he:l.cues=P++c::Q) (p:Par):Z0T l c.num p=(vl (c::P.reverse) p,true):=by
 have hi:P.length < l.cues.length:=by rw [he];simp
 have hc:l.cues[P.length]=c:=by
   have:l.cues[P.length]? =some c:=by rw [he];simp
   exact(List.getElem?_eq_some_iff.1 this).2
 have:=Z99 h hi p;rw [hc]at this;rw [this,JW _ p _ (by omega),he,show P++c::Q=(P++[c])++Q by simp,List.take_left' (by simp)];simp
theorem Z6Q {l:Lis} {s:List UInt8} {es:List Ent} {part:Int} {only:Bool} (h1:Z6 Y2 l=0) (h2:W3 s=0) (h3:Wj es=0) (h:(Yx l s es part only).2≠0):(Yx l s es part only).2=6∨(Yx l s es part only).2=5:=by
 unfold Yx at h ⊢;rw [if_neg (by simp [h1]),if_neg (by simp [h2]),if_neg (by simp [h3])]at h ⊢;split
 · exact .inl rfl
 · rename_i h4;rw [if_neg h4]at h;unfold Yu at h ⊢;split
   · exact .inr rfl
   · rename_i h4;rw [if_neg h4]at h;exact absurd rfl h
structure RecF (l:Lis) (s:List UInt8) (es:List Ent) (only:Bool) (out:List Cue):Prop where
 ok:Lis.Ok {l with cues:=out}
 ck:Z6 Y2 {l with cues:=out}=0
 len:out.length≤l.cues.length+1
 val:∀e∈es,Z0T {l with cues:=out} s e.pa=(e.va,true)
 alike:only=true→Zco l {l with cues:=out} s
 nums:(out.map (·.num)).filter (fun x=>!(x==s))=(l.cues.map (·.num)).filter (fun x=>!(x==s))
set_option maxHeartbeats 1000000 in
theorem Z5L {l:Lis} {s:List UInt8} {es:List Ent} {part:Int} {only:Bool} (hl:l.Ok) (hes:∀e∈es,e.Ok) (hp:I64 part) (h1:Z6 Y2 l=0) (h2:W3 s=0) (h3:Wj es=0) (hr:(Yx l s es part only).2=0):
   (Yx l s es part only).1= {l with cues:=Je l.cues s es part only}∧RecF l s es only (Je l.cues s es part only):=by
 have hRL:=Jc h1;have hRT:=Wn hl h1;have hE:=Z15 hes h3;obtain⟨A,X,B,hS⟩:=Z0X h2 hRL.rising hRL.num;have hold:=Z3b hl h1 h2 hS;unfold Yx at hr ⊢;rw [if_neg (by simp [h1]),if_neg (by simp [h2]),if_neg (by simp [h3])]at hr ⊢;split at hr
 · cases hr
 rename_i hpart;rw [if_neg hpart];have e1:(Yu {l with cues:=Je l.cues s es part only}).1= {l with cues:=Je l.cues s es part only}∧(Je l.cues s es part only).length≤64∧∀x∈Je l.cues s es part only,x.moves.length≤128:=by
   unfold Yu at hr ⊢;split at hr
   · cases hr
   · rename_i h;rw [if_neg h];simp only [not_or,List.any_eq_true,not_exists,not_and,decide_eq_true_eq]at h;exact⟨rfl,by have:=h.1;omega,fun x hx=>by have:=h.2 x hx;omega⟩
 obtain⟨e1,e2,e3⟩:=e1;have hok:=Z8r hl h1 h2 hes hp only;have hsub:∀x,x∈A∨x∈B→x∈l.cues:=fun x hx=>by rw [hS.eq];simp;rcases hx with h|h <;> simp [h]
 have hnn:=hE.es.nodup;have hcn:(setC (oldC l.cues s) es part).num=s:=by rw [Z4X];exact Z2D hS
 obtain⟨R,hrec,hRn,hR16,hRa⟩:∃R,Je l.cues s es part only=A++setC (oldC l.cues s) es part::R∧R.map (·.num)=B.map (·.num)∧(∀x∈R,x.moves.length≤128→J5 x=0)∧
     (only=true→∀P c Q,B=P++c::Q→∃P' c' Q',R=P'++c'::Q'∧c'.num=c.num∧∀p,vl (c::(A++X++P).reverse) p=vl (c'::(A++setC (oldC l.cues s) es part::P').reverse) p):=by
   rcases WQ hS hRL.rising es part only with⟨rfl,hr'⟩|⟨d,B',rfl,hr'⟩
   · exact⟨[],hr',rfl,by simp,fun _ P c Q h=>by simp at h⟩
   · refine⟨_,hr',by simp only [List.map_cons];split <;> simp [setC],fun x hx hm=>?_,fun ho=>?_⟩
     · rcases List.mem_cons.1 hx with rfl|hx
       · have hd16:=hRL.cues d (hsub d (by simp));split at hm
         · rename_i h;rw [if_pos h];exact hd16
         · rename_i h;rw [if_neg h];exact Z0N hd16 (Z3l hE.es fun p=>Z0c h1 p _) (by decide) (by have:=(Z1I hd16).one;omega) (by omega)
       · exact hRL.cues x (hsub x (by simp [hx]))
     · intro P c Q hB;subst ho;have key:=Zbv (A:=A) (X:=X) (c':=setC (oldC l.cues s) es part) (old:=oldC l.cues s) (d:=d) (es:=es) (part:=part) (cs:=l.cues) hnn (fun p=>Z20 (by rw [hS.eq]) p) rfl (by
         rcases Z1K hS with⟨_,g,rfl⟩|⟨j,hj,_,g,rfl⟩
         · exact .inl ⟨rfl,s,g⟩
         · exact .inr (by rw [g]))
       have hcond:(if true=false∨d.block=true then d else setC d (WE l.cues ((A++X).length+1) d es) 1)=(if d.block=true then d else setC d (WE l.cues ((A++X).length+1) d es) 1):=by simp
       rw [hcond];cases P with
       | nil=>
         simp only [List.nil_append,List.cons.injEq]at hB;obtain⟨rfl,rfl⟩:=hB;refine⟨[],_,B',rfl,by split <;> simp [setC],fun p=>?_⟩;rw [List.append_nil,key p];simp
       | cons x P=>
         simp only [List.cons_append,List.cons.injEq]at hB;obtain⟨rfl,rfl⟩:=hB;refine⟨_::P,c,Q,rfl,rfl,fun p=>?_⟩;have:=Z98 key p (c::P.reverse);simpa using this
 have hnum:(Je l.cues s es part only).map (·.num)=(A++setC (oldC l.cues s) es part::B).map (·.num):=by rw [hrec];simp [hRn]
 have hris:Zp (A++setC (oldC l.cues s) es part::B):=by
   have hr0:=hRL.rising;rw [hS.eq]at hr0;obtain⟨q1,q2,q3⟩:=List.pairwise_append.1 hr0;have hv:Yj (setC (oldC l.cues s) es part)=Yd s:=by unfold Yj;rw [hcn]
   refine List.pairwise_append.2 ⟨(List.pairwise_append.1 q1).1,List.pairwise_cons.2 ⟨fun b hb=>by rw [hv];exact hS.hi b hb,q2⟩,fun a ha b hb=>?_⟩;rcases List.mem_cons.1 hb with rfl|hb
   · rw [hv];exact hS.lo a ha
   · exact Int.lt_trans (hS.lo a ha) (hS.hi b hb)
 have hck:Z6 Y2 {l with cues:=Je l.cues s es part only}=0:=by
   refine Z4I (by exact Z7S (l:=l) h1) e2 (fun x hx=>?_) (Z5I hnum hris);have hx0:x∈Je l.cues s es part only:=hx;have hx2:=e3 x hx0;rw [hrec]at hx0;rcases List.mem_append.1 hx0 with h|h
   · exact hRL.cues x (hsub x (.inl h))
   rcases List.mem_cons.1 h with rfl|h
   · exact Z0N hold.2 hE.es (by omega) (by omega) (by omega)
   · exact hR16 x h hx2
 refine⟨e1,⟨{hl with cues:=hok},hck,?_,fun e he=>?_,fun ho c hc hcs p _=>?_,?_⟩⟩
 · have h5:=congrArg List.length hnum;have h6:=congrArg List.length hS.eq;simp only [List.length_map,List.length_append,List.length_cons]at h5 h6;omega
 · have:=ZX hck (P:=A) (Q:=R) (c:=setC (oldC l.cues s) es part) hrec e.pa;rw [hcn]at this;rw [this,Z6N hnn,ZbZ hnn he]
 · have hc':=hc;rw [hS.eq]at hc';have hin:c∈A∨c∈B:=by
     rcases List.mem_append.1 hc' with h|h
     · rcases List.mem_append.1 h with h|h
       · exact .inl h
       · rcases hS.x with rfl|⟨x,rfl,hx⟩
         · cases h
         · simp at h;subst h;exact absurd hx hcs
     · exact .inr h
   rcases hin with h|h
   · obtain⟨P,Q,rfl⟩:=List.append_of_mem h;refine⟨_,ZX h1 (P:=P) (Q:=Q++X++B) (by rw [hS.eq];simp) p,ZX hck (P:=P) (Q:=Q++setC (oldC l.cues s) es part::R) (by show Je _ _ _ _ _=_;rw [hrec];simp) p⟩
   · obtain⟨P,Q,hB⟩:=List.append_of_mem h;obtain⟨P',c',Q',hR,hn,hv⟩:=hRa ho P c Q hB;refine⟨_,ZX h1 (P:=A++X++P) (Q:=Q) (by rw [hS.eq,hB];simp) p,?_⟩;have:=ZX hck (P:=A++setC (oldC l.cues s) es part::P') (Q:=Q') (c:=c') (by show Je _ _ _ _ _=_;rw [hrec,hR];simp) p;rw [hn]at this;rw [this,hv p]
 · have hX:(X.map (·.num)).filter (fun x=>!(x==s))=[]:=by
     rcases hS.x with rfl|⟨x,rfl,hx⟩
     · rfl
     · simp [hx]
   rw [hnum]
   conv=>rhs;rw [hS.eq]
   simp only [List.map_append,List.map_cons,List.filter_append,hX,List.append_nil,hcn];simp
noncomputable def t8:R:=let x0:T:=Vl (Va 11) (Vl (Va 12) .lnil);let x1:T:=Vl (Va 1) (Vl (Va 2) .lnil);let x2:T:=.o1 .len (Va 4);let x3:T:=.o2 .ne (Va 15) (Vn 0);let x4:T:=.o2 .ne (Va 8) (Vn 0);let x5:T:=.o1 .not (Va 7);let x6:T:=.o2 .le x2 (Vn 140737488355328);let x7:T:=.o1 .not (Va 6);let x8:T:=.o2 .eq (Va 13) (Vn 6);let x9:T:=.o2 .eq (Va 13) (Vn 5);.call none (.fn 27) [Vl (Va 0) x1] [.cell .bool] (.call (some (.o1 .not x5)) (.fn 14) [Va 4] [.cell (.int .i64)] (.fact (.ite (.o1 .not (.ite x5 (.bool true) x4)) x6 (.bool true)) (.call (some (.o1 .not (.ite (.ite x5 (.bool true) x4) (.bool true) (.o2 .gt x2 (Vn 12))))) (.fn 13) [Va 3] [.cell (.int .i64)] (.ite (.ite (.ite (.ite x5 (.bool true) x4) (.bool true) (.o2 .gt x2 (Vn 12))) (.bool true) (.o2 .ne (Va 9) (Vn 0))) (.call none (.fn 23) [] [.cell .bool] (.ret [.d (Va 10)])) (.call none (.fn 16) [Vl (Va 0) x1,Va 3,Va 4,Va 5,Va 6] [.agg liKs,.cell (.int .i64)] (.ite (.o2 .ne (Va 13) (Vn 0)) (.call (some (.ite x8 (.bool true) x9)) (.fn 23) [] [.cell .bool] (.ret [.d (.ite (.ite x8 (.bool true) x9) (Va 14) (.bool false))])) (.fact x6 (.loop 0 [Vn 0] [.int .i64] (.ite (.o2 .lt (Va 14) x2) (.need (.o2 .le (Vn 0) (Va 14)) (.call none (.fn 30) [Vl (Va 10) x0,Va 3,Vl (.idx (Va 4) (Va 14) 0 (.int .i64)) (Vl (.idx (Va 4) (Va 14) 1 (.int .i64)) .lnil)] [.agg [.int .i64,.int .i64],.cell .bool] (.ite (.ite (.o1 .not (Va 17)) (.bool true) (.o1 .not (.o2 .band (.o2 .eq (Va 15) (.idx (Va 4) (Va 14) 2 (.int .i64))) (.o2 .band (.o2 .eq (Va 16) (.idx (Va 4) (Va 14) 3 (.int .i64))) (.bool true))))) (.ret [.d (.bool false)]) (.again 0 [.o2 (.add .i64) (Va 14) (Vn 1)])))) (.call none (.fn 29) [Vl (Va 10) x0] [.cell (.int .i64)] (.fact (.ite (.o1 .not x3) (.o2 .le (.o1 .len (Va 12)) (Vn 140737488355328)) (.bool true)) (.fact (.ite (.o1 .not x3) (.o2 .le (.o1 .len (Va 2)) (Vn 140737488355328)) (.bool true)) (.ite (.ite x3 (.bool true) (.o2 .gt (.o1 .len (Va 12)) (.o2 (.add .i64) (.o1 .len (Va 2)) (Vn 1)))) (.ret [.d (.bool false)]) (.call (some (.o1 .not x7)) (.fn 38) [Vl (Va 0) x1,Vl (Va 10) x0,Va 3] [.cell .bool] (.call (some (.ite x7 (.bool true) (Va 16))) (.fn 23) [] [.cell .bool] (.ret [.d (.ite (.ite x7 (.bool true) (Va 16)) (Va 17) (.bool false))]))))))))))))))))
theorem t8_ok:fnO Tryz.prog mdA 8 [.agg liKs,.agg [.str,.slice enKs,.int .i64,.bool]]=t8:=by kernel_rfl
set_option maxHeartbeats 2000000 in
theorem law8_typed:Contract Tryz.prog 8 fun args K=>∃(l:Lis) (n:Note),l.Ok∧n.Ok∧args=[.agg l.enc,.agg n.enc]∧K [.d (.bool true)]:=by
 refine .of (by kernel_rfl) t8_ok ?_;rintro _ K ⟨l,n,hl,hn,rfl,hK⟩ hsm;refine⟨l.enc++n.enc,rfl,by exact(Lis.has hl).append (Note.has hn),?_⟩;refine Z0 Zbc ⟨l,hl,by simp only [zz,reduceCtorEq,Lis.enc,Note.enc],fun b hb=>⟨_,rfl,?_⟩⟩;refine W5 Zai b [.int .i64 (if b then Wj n.es else 0)] (by cases b <;> simp only [zz,reduceCtorEq,Lis.enc,Note.enc] <;> rfl) (fun h=>⟨n.es,hn.es,by simp only [zz,reduceCtorEq,Lis.enc,Note.enc],by rw [h];rfl⟩) (fun h=>by rw [h];rfl) ?_;intro _;by_cases hg:b=true∧Wj n.es=0∧n.es.length≤12;rotate_left
 · refine W5 Z0p false [.int .i64 0] ?_ (fun h=>by cases h) (fun _=>rfl) ?_
   · cases b
     · simp only [zz,reduceCtorEq,Lis.enc,Note.enc]
     · by_cases h3:Wj n.es=0
       · have h9:12 < n.es.length:=by
           rcases Nat.lt_or_ge 12 n.es.length with h|h
           · exact h
           · exact absurd ⟨rfl,h3,h⟩ hg
         simp only [zz,reduceCtorEq,Lis.enc,Note.enc,List.length_map,h3]
         first|done|omega|(simp;omega)
       · simp only [zz,reduceCtorEq,Lis.enc,Note.enc,List.length_map,h3]
   refine Y4 ?_ (Z0 WO ⟨rfl,_,rfl,by simp only [zz,reduceCtorEq,Lis.enc,Note.enc];exact hK⟩);cases b
   · simp only [zz,reduceCtorEq,Lis.enc,Note.enc]
   · by_cases h3:Wj n.es=0
     · have h9:12 < n.es.length:=by
         rcases Nat.lt_or_ge 12 n.es.length with h|h
         · exact h
         · exact absurd ⟨rfl,h3,h⟩ hg
       simp only [zz,reduceCtorEq,Lis.enc,Note.enc,List.length_map,h3]
       first|done|omega|(simp;omega)
     · simp only [zz,reduceCtorEq,Lis.enc,Note.enc,List.length_map,h3]
 obtain⟨rfl,h3,h12⟩:=hg;obtain⟨hck,h8⟩:=hb rfl;have h12':¬12 < n.es.length:=by omega
 refine W5 Z0p true [.int .i64 (W3 n.s)] (by simp only [zz,reduceCtorEq,Lis.enc,Note.enc,List.length_map,h3];simp;omega) (fun _=>⟨n.s,by simp only [zz,reduceCtorEq,Lis.enc,Note.enc],rfl⟩) (fun h=>by cases h) ?_;by_cases h2:W3 n.s=0;rotate_left
 · refine Y4 (by simp only [zz,reduceCtorEq,Lis.enc,Note.enc,List.length_map,h3,h2] <;> simp) (Z0 WO ⟨rfl,_,rfl,by simp only [zz,reduceCtorEq,Lis.enc,Note.enc];exact hK⟩)
 refine J3 (by simp only [zz,reduceCtorEq,Lis.enc,Note.enc,List.length_map,h3,h2];simp;omega) ?_;refine Z0 JX ⟨l,n.s,n.es,n.part,n.only,hl,hn.es,hn.part,by simp only [zz,reduceCtorEq,Lis.enc,Note.enc],_,rfl,?_⟩;by_cases hr:(Yx l n.s n.es n.part n.only).2=0;rotate_left
 · refine Y4 (by simp only [zz,reduceCtorEq,Lis.enc,Note.enc,hr]) ?_;have h5:=Z6Q hck h2 h3 hr;refine W5 WO true [.bool true] (by simp only [zz,reduceCtorEq,Lis.enc,Note.enc];rcases h5 with h5|h5 <;> simp [h5]) (fun _=>⟨rfl,rfl⟩) (fun h=>by cases h) ?_;rcases h5 with h5|h5 <;> simp only [zz,reduceCtorEq,Lis.enc,Note.enc,h5] <;> simpa using hK
 refine J3 (by simp only [zz,reduceCtorEq,Lis.enc,Note.enc,hr]) ?_;obtain⟨e1,F⟩:=Z5L hl hn.es hn.part hck h2 h3 hr;rw [e1,hr];have hlen:=F.len;intro _;generalize Je l.cues n.s n.es n.part n.only=out at *;refine Zc n.es (fun _ _ (_:Unit)=>()) (fun i _=>[.int .i64 i]) () () rfl 0 (fun _ _=>rfl) rfl ?_ ?_
 · intro i hi _ _;have hem:=List.getElem_mem hi;refine⟨fun _=>⟨by simp only [zz,reduceCtorEq,Lis.enc,Note.enc] <;> omega,?_⟩,fun h=>?_⟩;rotate_left
   · exfalso;simp only [zz,reduceCtorEq,Lis.enc,Note.enc,List.length_map,hi]at h
   refine Z0 Z0E ⟨{l with cues:=out},n.s,n.es[i].pa,F.ok,(hn.es _ hem).1,by simp only [zz,reduceCtorEq,Lis.enc,Note.enc,J0 hi,Ent.enc,Par.enc],_,rfl,?_⟩;rw [F.val _ hem];refine J3 (by simp only [zz,reduceCtorEq,Lis.enc,Note.enc,J0 hi,Ent.enc,Val.enc]) ?_;simp only [zz,reduceCtorEq,Lis.enc,Note.enc,Val.enc];refine⟨(),?_⟩;rw [Z1] <;> omega
 · intro _ _;refine⟨fun h=>?_,fun _=>?_⟩
   · exfalso;simp only [zz,reduceCtorEq,Lis.enc,Note.enc,List.length_map,Nat.lt_irrefl]at h
   refine Z0 YC ⟨_,F.ok,by simp only [zz,reduceCtorEq,Lis.enc,Note.enc],_,rfl,?_⟩;rw [F.ck];intro _ _;refine J3 (by simp only [zz,reduceCtorEq,Lis.enc,Note.enc,List.length_map];rw [Z1 (by omega)];simp;omega) ?_;refine W5 Zcb n.only [.bool n.only] (by simp only [zz,reduceCtorEq,Lis.enc,Note.enc];simp) (fun h=>⟨l,{l with cues:=out},n.s,hl,F.ok,hck,F.ck,F.alike h,by simp only [zz,reduceCtorEq,Lis.enc,Note.enc],by rw [h];rfl⟩) (fun h=>by rw [h];rfl) ?_;rcases Bool.eq_false_or_eq_true n.only with ho|ho
   · refine W5 WO true [.bool true] (by simp only [zz,reduceCtorEq,Lis.enc,Note.enc,ho]) (fun _=>⟨rfl,rfl⟩) (fun h=>by cases h) ?_;simp only [zz,reduceCtorEq,Lis.enc,Note.enc,ho];exact hK
   · refine W5 WO true [.bool true] (by simp only [zz,reduceCtorEq,Lis.enc,Note.enc,ho] <;> simp) (fun _=>⟨rfl,rfl⟩) (fun h=>by cases h) ?_;simp only [zz,reduceCtorEq,Lis.enc,Note.enc,ho];simpa using hK
theorem law8:Contract Tryz.prog 8 (Z7H Tryz.prog 8):=
 law8_typed.weaken fun args K _ h=>by
   obtain⟨h1,h2,hK⟩:=ZeO [.agg liKs,.agg ntKs] (by kernel_rfl) h
   match args,h1 with
   | [a,b],_=>
     obtain⟨l,hl,rfl⟩:=Lis.ofAgg (h2 0 _ _ rfl rfl);obtain⟨n,hn,rfl⟩:=Note.ofAgg (h2 1 _ _ rfl rfl);exact⟨l,n,hl,hn,rfl,hK⟩
end Go.Sx.La
