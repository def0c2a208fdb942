/-
 Part 11 of the proof: the executor over the kit's code with its soundness, or contracts of functions.
-/
import Derived.Test.YtihpfldadiiinaaGreatDoorFAj
import Derived.Shelf.Spec.SlicesGrow
import Derived.Test.YtihpfldadiiinaaGreatDoorGrow
set_option linter.unusedSimpArgs false
set_option linter.unusedVariables false
set_option linter.unusedSectionVars false
set_option linter.defProp false
set_option maxRecDepth 100000
namespace Go.Sx.La
open Go Go.Sx Go.RowKit Go.Proofs
noncomputable def t27:R:=let x0:T:=Vl (Va 1) (Vl (Va 2) .lnil);let x1:T:=.o2 .eq (Va 4) (Vn 0);.call none (.fn 22) [Vl (Va 0) x0,.nils] [.cell .bool] (.call (some (Va 3)) (.fn 45) [Vl (Va 0) x0] [.cell (.int .i64)] (.fact (.ite (.ite (Va 3) x1 (.bool false)) (.o2 .le (.o1 .len (Va 2)) (Vn 140737488355328)) (.bool true)) (.ret [.d (.ite (.ite (Va 3) x1 (.bool false)) (.o2 .le (.o1 .len (Va 2)) (Vn 8)) (.bool false))])))
theorem Zg0:fnO Tryz.prog mdA 27 [.agg liKs]=t27:=by kernel_rfl
noncomputable def t30:R:=let x0:T:=Vl (Vn 0) .lnil;.call none (.fn 18) [Vl (Va 0) (Vl (Va 1) (Vl (Va 2) .lnil)),Va 3] [.cell (.slice enKs),.cell (.int .i64)] (.ite (.o2 .ne (Va 7) (Vn 0)) (.ret [.d (Vl (Vn 0) x0),.d (.bool false)]) (.fact (.o2 .le (.o1 .len (Va 6)) (Vn 140737488355328)) (.loop 0 [Vn 0] [.int .i64] (.ite (.o2 .lt (Va 8) (.o1 .len (Va 6))) (.need (.o2 .le (Vn 0) (Va 8)) (.ite (.o2 .band (.o2 .eq (.idx (Va 6) (Va 8) 0 (.int .i64)) (Va 4)) (.o2 .band (.o2 .eq (.idx (Va 6) (Va 8) 1 (.int .i64)) (Va 5)) (.bool true))) (.ret [.d (Vl (.idx (Va 6) (Va 8) 2 (.int .i64)) (Vl (.idx (Va 6) (Va 8) 3 (.int .i64)) .lnil)),.d (.bool true)]) (.again 0 [.o2 (.add .i64) (Va 8) (Vn 1)]))) (.ret [.d (Vl (Vn (-1)) x0),.d (.bool true)])))))
theorem ZfX:fnO Tryz.prog mdA 30 [.agg liKs,.cell .str,.agg [.int .i64,.int .i64]]=t30:=by kernel_rfl
theorem Zbi:Contract Tryz.prog 27 fun args K=>∃(l:Lis),l.Ok∧args=[.agg l.enc]∧∀b:Bool,(b=true→Z7 Z3 l=0∧l.cues.length≤8)→K [.d (.bool b)]:=by
 refine .of (by kernel_rfl) Zg0 ?_;rintro _ K ⟨l,hl,rfl,hK⟩ hsm;refine⟨l.enc,rfl,Lis.has hl,?_⟩;refine Z0 ZbY ⟨l,[],hl,by simp,by simp only [zz,reduceCtorEq,Lis.enc];first|done|rfl,fun b=>⟨_,rfl,?_⟩⟩;refine J5 Z1K b [.int .i64 (if b then Z7 Z3 l else 0)] (by simp only [zz,reduceCtorEq,Lis.enc]) (fun h=>⟨l,hl,by simp only [zz,reduceCtorEq,Lis.enc],by rw [h];rfl⟩) (fun h=>by rw [h];rfl) ?_;have hK2:=hK (b&&decide (Z7 Z3 l=0)&&decide (l.cues.length≤8)) (fun h=>by
   simp only [Bool.and_eq_true,decide_eq_true_eq]at h;exact⟨h.1.2,h.2⟩)
 cases b
 · simp only [zz,reduceCtorEq,Lis.enc,List.length_map];exact hK2
 · simp only [zz,reduceCtorEq,Lis.enc,List.length_map];intro _;have e:decide ((l.cues.length:Int)≤8)=decide (l.cues.length≤8):=decide_eq_decide.2 (by omega);rw [e];exact hK2
def Z0M (l:Lis) (s:List UInt8) (p:Par):Val×Bool:=if Yg l s≠0 then(⟨0,0⟩,false)else(W5 l.cues p (upto l s),true)
theorem Z4C {cs:List Cue} {p:Par} {n:Nat} (hn:n≤cs.length):(WE (Ym cs n) p=some ⟨p,W5 cs p n⟩)∨(WE (Ym cs n) p=none∧W5 cs p n=hval):=by
 have h:=Z0d (fun _=>true) (fun p=>W5 cs p n) p (W9 cs);rw [List.filter_eq_self.2 (fun _ _=>rfl)]at h;have h':WE (Ym cs n) p=if p∈W9 cs then some ⟨p,W5 cs p n⟩else none:=by simpa [Ym]using h
 by_cases hp:p∈W9 cs
 · exact .inl (by rw [h',if_pos hp])
 · refine .inr ⟨by rw [h',if_neg hp],?_⟩;rw [Yp cs p n hn];exact Z2J fun c hc=>Z3c hp c (List.mem_of_mem_take (List.mem_reverse.1 hc))
theorem Z3l:Contract Tryz.prog 30 fun args K=>∃(l:Lis) (s:List UInt8) (p:Par),l.Ok∧p.Ok∧args=[.agg l.enc,.str s,.agg p.enc]∧K [.d (.agg (Z0M l s p).1.enc),.d (.bool (Z0M l s p).2)]:=by
 refine .of (by kernel_rfl) ZfX ?_;rintro _ K ⟨l,s,p,hl,hp,rfl,hK⟩ hsm;refine⟨l.enc++.str s::p.enc,rfl,by exact(Lis.has hl).append (show HasKs (.str::paKs) (.str s::p.enc)from⟨trivial,Par.has hp⟩),?_⟩;refine Z0 Z2v ⟨l,s,hl,by simp only [zz,reduceCtorEq,Lis.enc,Par.enc],_,rfl,?_⟩;unfold Z0M at hK;unfold Z3O;rcases Decidable.em (Yg l s=0)with h1|h1
 rotate_left
 · rw [if_pos h1]at hK ⊢;refine Y4 (by simp only [zz,reduceCtorEq,Lis.enc,Par.enc,h1]) ?_;simp only [zz,reduceCtorEq,Lis.enc];exact hK
 rw [if_neg (by simpa using h1)]at hK ⊢;refine Y3 (by simp only [zz,reduceCtorEq,Lis.enc,Par.enc]) ?_;simp only [zz,reduceCtorEq,Lis.enc,Par.enc,List.length_map];intro hcap;refine Zc (Ym l.cues (upto l s)) (fun _ xs (_:Unit)=>WE xs p) (fun i _=>[.int .i64 i]) () (WE (Ym l.cues (upto l s)) p) rfl 0 (fun _ _=>rfl) rfl ?_ ?_
 · intro i hi _ hgo;simp only [zz,reduceCtorEq,List.length_map,hi,J0 hi,Ent.enc];refine⟨by omega,fun⟨h2,h3⟩=>?_,fun h=>⟨(),by rw [Z1] <;> omega,?_⟩⟩
   · have h4:decide ((Ym l.cues (upto l s))[i].pa=p)=true:=by
       rw [decide_eq_true_eq];exact Za1 h2 h3
     have h5:WE ((Ym l.cues (upto l s))[i]::(Ym l.cues (upto l s)).drop (i+1)) p=some (Ym l.cues (upto l s))[i]:=List.find?_cons_of_pos (p:=fun m:Ent=>decide (m.pa=p)) h4;rw [h5]at hgo;rcases Z4C (cs:=l.cues) (p:=p) (n:=upto l s) (Z4R l s)with h6|⟨h6,h7⟩
     · rw [h6]at hgo;have h8:=Option.some.inj hgo;rw [h8];exact hK
     · rw [h6]at hgo;cases hgo
   · have h4:¬decide ((Ym l.cues (upto l s))[i].pa=p)=true:=by
       rw [decide_eq_true_eq];intro h5;rw [h5]at h;simp at h
     have h5:WE ((Ym l.cues (upto l s))[i]::(Ym l.cues (upto l s)).drop (i+1)) p=WE ((Ym l.cues (upto l s)).drop (i+1)) p:=List.find?_cons_of_neg (p:=fun m:Ent=>decide (m.pa=p)) h4;rw [h5]at hgo;exact hgo
 · intro _ hgo;simp only [zz,reduceCtorEq,List.length_map,Nat.lt_irrefl];rcases Z4C (cs:=l.cues) (p:=p) (n:=upto l s) (Z4R l s)with h6|⟨h6,h7⟩
   · rw [h6]at hgo;cases hgo
   · rw [h7]at hK;exact hK
theorem c6:J2 Tryz.prog 6=true:=by kernel_rfl
end Go.Sx.La
namespace Go.Sx.La
open Go Go.Sx Go.RowKit Go.Proofs Go.Shelf
theorem growX {P:Program} {f:FuncId} {ρ:Ren} (L:Lays8.n4 P ρ) (hf:ρ.f 4=f) (hcl:J2 P f=true) {ks:List K} (hres:J7 P false (Wp P f)=some [.cell (.slice ks)]) (h0:0 < ks.length)
   (hchk:(match P.info? (ρ.t 25)with|some i=>(match i.zero with|some z=>i.size==ks.length&&z.cells.size==ks.length&&decide (i.bytes≤1000)|none=>false)|none=>false)=true):
   ContractX P f [.own ks,.cell (.int .i64)] false fun args K=>∃n:Nat,n≤1000000∧args=[.own ks.length [],.d (.int .i64 n)]∧K [.own ks.length []]:=by
 obtain⟨i0,z,hi0,hz0,hs,hzs,hby⟩:∃i0 z,P.info? (ρ.t 25)=some i0∧i0.zero=some z∧i0.size=ks.length∧z.cells.size=ks.length∧i0.bytes≤1000:=by
   split at hchk <;> try contradiction
   rename_i i hi;split at hchk <;> try contradiction
   rename_i z hz;simp only [Bool.and_eq_true,beq_iff_eq,decide_eq_true_eq]at hchk;exact⟨i,z,hi,hz,hchk.1.1,hchk.1.2,hchk.2⟩
 refine⟨hcl,?_⟩;rintro _ K ⟨n,hn,rfl,hK⟩ _ w m vs hm hr;have hlen2:vs.length=2:=hr.len
 match vs,hlen2 with
 | [v,u],_=>
 have r0:=hr.rep 0 _ v rfl rfl;have r1:=hr.rep 1 _ u rfl rfl;obtain rfl:u=.int .i64 n:=by cases r1 with|d h=>cases h;rfl
 have hty:Yy P f [] [.own ks.length []]:=by
   intro rk hrk;rw [hres]at hrk;cases hrk;exact⟨[.slice []],rfl,by simp [RK.all,RK.kinds,HasKs,HasK]⟩
 have fin:∀ {e:Ending} {w':World} {v':Value},e=.returned v'→RepR m w' (fun b=>w.heap.size≤b∨Yb [.own ks.length [],.d (.int .i64 n)] [v,.int .i64 n] b) (.own ks.length []) v'→MemOk m w'→Apart (Yb [.own ks.length [],.d (.int .i64 n)] [v,.int .i64 n]) w w'→
     ∃ rs us v_1 m',K rs∧Yy P f (if false=true then Za [.own ks,.cell (.int .i64)]else []) rs∧e=.returned v_1∧v_1=Z0i us∧
       RepRs m' w' (fun b=>w.heap.size≤b∨Yb [.own ks.length [],.d (.int .i64 n)] [v,.int .i64 n] b) rs (us++if false=true then Z5 [.own ks.length [],.d (.int .i64 n)] [v,.int .i64 n]else [])∧
       m.le m'∧MemOk m' w'∧(∀b,b < w.heap.size→¬Yb [.own ks.length [],.d (.int .i64 n)] [v,.int .i64 n] b→m' b=m b)∧Apart (Yb [.own ks.length [],.d (.int .i64 n)] [v,.int .i64 n]) w w':=by
   intro e w' v' he hrep hmo hap;refine⟨[.own ks.length []],[v'],v',m,hK,hty,he,by simp [Z0i],⟨rfl,?_,?_⟩,Mem.le_refl m,hmo,fun _ _ _=>rfl,hap⟩
   · intro i r u h1 h2;cases i with
     |zero=>simp at h1 h2;subst h1 h2;exact hrep
     |succ i=>simp at h1
   · intro i j r r' u u' b hne h1 h2;cases i with
     |succ i=>simp at h1
     | zero=>cases j with
       |zero=>exact absurd rfl hne
       |succ j=>simp at h2
 have hfresh:m w.heap.size=none:=by
   cases hh:m w.heap.size with
   |none=>rfl
   |some o=>exact absurd (hm.lt hh) (Nat.lt_irrefl _)
 have alloc_at:∀(W:World) (o:Obj),(W.alloc o).heap[W.heap.size]? =some o:=fun W o=>by
   show(W.heap.push o)[W.heap.size]? =some o;simp
 have new:∀(base:Option Addr) (c:Nat) (cs:List Value),v=.slice base 0 c→c < n→cs.length=c * ks.length→(base=none→c=0)→(∀a,base=some a→∀j v,cs[j]? =some v→w.cell? (a.add j)=some v)→
     Calls P f #[v,.int .i64 n] w fun e w'=>∃rs us v_1 m',K rs∧Yy P f (if false=true then Za [.own ks,.cell (.int .i64)]else []) rs∧e=.returned v_1∧v_1=Z0i us∧
       RepRs m' w' (fun b=>w.heap.size≤b∨Yb [.own ks.length [],.d (.int .i64 n)] [v,.int .i64 n] b) rs (us++if false=true then Z5 [.own ks.length [],.d (.int .i64 n)] [v,.int .i64 n]else [])∧
       m.le m'∧MemOk m' w'∧(∀b,b < w.heap.size→¬Yb [.own ks.length [],.d (.int .i64 n)] [v,.int .i64 n] b→m' b=m b)∧Apart (Yb [.own ks.length [],.d (.int .i64 n)] [v,.int .i64 n]) w w':=by
   rintro base c cs rfl hcn hcl' hnil hcs;have hmul:n * i0.bytes≤1000000 * 1000:=Nat.mul_le_mul hn hby;have:=Any8.slices_Grow_grow L i0 z hi0 hz0 (by omega) base 0 c n cs w (Nat.zero_le _) (by omega) (by rw [Nat.zero_add];omega) (by omega) (by rw [hs];exact hcl') hnil hcs;rw [hf]at this;refine this.mono ?_;rintro e w' ⟨he,rfl⟩;have hG:n≤grownCap w (0+n) c (ρ.t 25):=by have:=grownCap_ge w (0+n) c (ρ.t 25);omega
   have hGm:grownCap w (0+n) c (ρ.t 25)≤maxLen:=grownCap_le_maxLen w (0+n) c (ρ.t 25) (by unfold maxLen;omega);generalize grownCap w (0+n) c (ρ.t 25)=G at he hG hGm ⊢;refine fin he (.own (xs:=[]) (.inl (Nat.le_refl _)) hfresh (alloc_at w.drew _) (by omega) (Nat.zero_le _) hGm (Nat.zero_le _) ?_ (by simp) (by simp)) ?_ ⟨rfl,rfl,rfl,Nat.le_succ _,by show w.heap.size≤(w.heap.push _).size;simp,fun b hb _=>heap_alloc_old w.drew _ hb⟩
   · have hz:∀k,(Builtin.zeroCells z.cells k).size=k * ks.length:=fun k=>by simp [Builtin.zeroCells,hzs]
     simp only [Array.size_append,List.size_toArray,hz,hcl',Nat.zero_add];rw [←Nat.add_mul, ←Nat.add_mul];congr 1;omega
   · intro b o hb;rw [heap_alloc_old w.drew _ (hm.lt hb)];exact hm b o hb
 have old:∀(base:Option Addr) (c:Nat),v=.slice base 0 c→n≤c→c≤maxLen→RepR m w (fun b=>w.heap.size≤b∨Yb [.own ks.length [],.d (.int .i64 n)] [v,.int .i64 n] b) (.own ks.length []) v→
     Calls P f #[v,.int .i64 n] w fun e w'=>∃rs us v_1 m',K rs∧Yy P f (if false=true then Za [.own ks,.cell (.int .i64)]else []) rs∧e=.returned v_1∧v_1=Z0i us∧
       RepRs m' w' (fun b=>w.heap.size≤b∨Yb [.own ks.length [],.d (.int .i64 n)] [v,.int .i64 n] b) rs (us++if false=true then Z5 [.own ks.length [],.d (.int .i64 n)] [v,.int .i64 n]else [])∧
       m.le m'∧MemOk m' w'∧(∀b,b < w.heap.size→¬Yb [.own ks.length [],.d (.int .i64 n)] [v,.int .i64 n] b→m' b=m b)∧Apart (Yb [.own ks.length [],.d (.int .i64 n)] [v,.int .i64 n]) w w':=by
   rintro base c rfl hcn hcm hrep;have:=Any8.slices_Grow_room L base 0 c n w (Nat.zero_le _) (by unfold maxLen at hcm;omega) (by omega) (by omega);rw [hf]at this;refine this.mono ?_;rintro e w' ⟨he,rfl⟩;exact fin he hrep hm ⟨rfl,rfl,rfl,Nat.le_refl _,Nat.le_refl _,fun _ _ _=>rfl⟩
 cases r0 with
 | none=>
   rcases Nat.eq_zero_or_pos n with h|h
   · exact old _ 0 rfl (by omega) (Nat.zero_le _) .none
   · exact new _ 0 [] rfl h (by simp) (fun _=>rfl) (by simp)
 | @own _ _ b c arr t hB hmb hb h0c hc hcc hcap hsz he hv=>
   rcases Nat.lt_or_ge c n with h|h
   · refine new _ c arr.toList rfl h (by simpa using hsz) (fun h=>by cases h) ?_;intro ad had j v hj;cases had;have ea:(⟨b,0,none⟩:Addr).add j=⟨b,j,none⟩:=by
       simp only [Addr.add];split
       · rename_i h0;rw [h0]
       · simp
     rw [ea];simp only [World.cell?,hb];simpa using hj
   · exact old _ c rfl h hcc (.own (.inr ⟨0,_,_,rfl,rfl,rfl,by simp [blk];omega⟩) hmb hb h0c hc hcc hcap hsz (by simp) (by simp))
end Go.Sx.La
namespace Go.Sx.La
open Go Go.Sx Go.RowKit Go.Proofs
noncomputable def t98:R:=let x0:List K:=[.int .i64,.int .i64];let x1:T:=.o1 .len (.idx (Va 0) (Va 2) 0 (.slice x0));let x2:T:=.idx (Va 0) (Va 5) 0 (.slice x0);let x3:T:=.o1 .len (Va 0);.fact (.o2 .le x3 (Vn 140737488355328)) (.loop 0 [Vn 0,Vn 0] x0 (.ite (.o2 .lt (Va 2) x3) (.need (.o2 .le (Vn 0) (Va 2)) (.fact (.o2 .le x1 (Vn 140737488355328)) (.ite (.o2 .lt (.o2 (.add .i64) (Va 1) x1) (Vn 0)) (.fail "slices.go:496") (.again 0 [.o2 (.add .i64) (Va 1) x1,.o2 (.add .i64) (Va 2) (Vn 1)])))) (.callX false 172 [.own 2 .nils,.d (Va 1)] [.own x0] (.loop 1 [Va 3,Vn 0] [.slice x0,.int .i64] (.ite (.o2 .lt (Va 5) x3) (.need (.o2 .le (Vn 0) (Va 5)) (.need (.o2 .le (.o1 .len (.o2 .app (Va 4) x2)) (Vn 8796093022208)) (.again 1 [.o2 .app (Va 4) x2,.o2 (.add .i64) (Va 5) (Vn 1)]))) (.ret [.own 2 (Va 4)]))))))
theorem Zfa:fnO Tryz.prog mdA 98 [.cell (.slice [.slice [.int .i64,.int .i64]])]=t98:=by kernel_rfl
theorem Z94:ContractX Tryz.prog 172 [.own paKs,.cell (.int .i64)] false fun args K=>∃n:Nat,n≤1000000∧args=[.own 2 [],.d (.int .i64 n)]∧K [.own 2 []]:=
 growX Tryz.grow172 rfl (by kernel_rfl) (ks:=paKs) (by kernel_rfl) (by decide) (by kernel_rfl)
theorem Z99:Contract Tryz.prog 98 fun args K=>∃(ls:List (List Par)),(∀l∈ls,∀p∈l,p.Ok)∧ls.length≤1000000∧(ls.map List.length).sum≤1000000∧args=[.slice (ls.map fun l=>[.slice (l.map Par.enc)])]∧K [.own 2 (ls.flatten.map Par.enc)]:=by
 refine .of (by kernel_rfl) Zfa ?_;rintro _ K ⟨ls,hls,h1,h2,rfl,hK⟩ hsm;refine⟨[.slice (ls.map fun l=>[.slice (l.map Par.enc)])],rfl,⟨?_,trivial⟩,?_⟩
 · intro x hx;obtain⟨l,hl,rfl⟩:=List.mem_map.1 hx;exact⟨fun y hy=>by obtain⟨p,hp,rfl⟩:=List.mem_map.1 hy;exact Par.has (hls l hl p hp),trivial⟩
 intro _;refine Zc ls (fun _ l (s:Nat)=>s+(l.map List.length).sum) (fun i s=>[.int .i64 s,.int .i64 i]) 0 (ls.map List.length).sum (by simp) 1 (fun _ _=>rfl) rfl ?_ ?_
 · intro i hi s hgo;refine⟨fun _=>⟨by simp only [zz,reduceCtorEq] <;> omega,?_⟩,fun h=>?_⟩;rotate_left
   · exfalso;simp only [zz,reduceCtorEq,List.length_map,hi]at h
   intro _;simp only [List.map_cons,List.sum_cons]at hgo;refine Y3 ?_ ?_
   · simp only [zz,reduceCtorEq,J0 hi,List.length_map];rw [Z1 (by omega)];simp;omega
   simp only [zz,reduceCtorEq,J0 hi,List.length_map];exact⟨s+ls[i].length,⟨by rw [Z1] <;> omega,by rw [Z1] <;> omega⟩,by omega⟩
 · intro s hgo;refine⟨fun h=>?_,fun _=>?_⟩
   · exfalso;simp only [zz,reduceCtorEq,List.length_map,Nat.lt_irrefl]at h
   simp only [List.map_nil,List.sum_nil]at hgo;refine Wu Z94 ⟨_,rfl,?_⟩ (fun h=>by cases h) ⟨s,by omega,by simp only [zz,reduceCtorEq],_,rfl,?_⟩
   · simp [Y1,PK.kinds,HasKs,HasK,IntKind.min,IntKind.max,IntKind.signed,IntKind.bits,den];omega
   refine Zc ls (fun _ l (a:List Par)=>a++l.flatten) (fun i a=>[.slice (a.map Par.enc),.int .i64 i]) [] ls.flatten (by simp) 1 (fun _ _=>rfl) rfl ?_ ?_
   · intro i hi a hgo;refine⟨fun _=>⟨by simp only [zz,reduceCtorEq] <;> omega,?_⟩,fun h=>?_⟩;rotate_left
     · exfalso;simp only [zz,reduceCtorEq,List.length_map,hi]at h
     have hl:a.length+ls[i].length≤1000000:=by
       have:=congrArg List.length hgo;simp only [List.length_append,List.flatten_cons,List.length_flatten]at this;omega
     refine⟨by simp only [zz,reduceCtorEq,J0 hi,List.length_map,List.length_append] <;> omega,?_⟩;simp only [zz,reduceCtorEq,J0 hi,List.length_map];exact⟨a++ls[i],⟨by simp,by rw [Z1] <;> omega⟩,by rw [List.append_assoc];exact hgo⟩
   · intro a hgo;refine⟨fun h=>?_,fun _=>?_⟩
     · exfalso;simp only [zz,reduceCtorEq,List.length_map,Nat.lt_irrefl]at h
     have:a=ls.flatten:=by simpa using hgo
     subst this;simp only [zz,reduceCtorEq];exact hK
noncomputable def t38:R:=let x0:List K:=[.int .i64,.int .i64];let x1:T:=Vl (.idx (Va 12) (Va 13) 1 (.int .i64)) .lnil;let x2:T:=Vl (Va 1) (Vl (Va 2) .lnil);let x3:T:=Vl (Va 4) (Vl (Va 5) .lnil);let x4:T:=.idx (Va 12) (Va 13) 0 (.int .i64);.call none (.fn 67) [Vl (Va 0) x2] [.cell (.slice x0),.cell (.int .i64)] (.call none (.fn 67) [Vl (Va 3) x3] [.cell (.slice x0),.cell (.int .i64)] (.ite (.ite (.o2 .ne (Va 8) (Vn 0)) (.bool true) (.o2 .ne (Va 10) (Vn 0))) (.ret [.d (.bool false)]) (.fact (.o2 .le (.o1 .len (Va 2)) (Vn 140737488355328)) (.loop 0 [Vn 0] [.int .i64] (.ite (.o2 .lt (Va 11) (.o1 .len (Va 2))) (.need (.o2 .le (Vn 0) (Va 11)) (.ite (.o2 .eq (.idx (Va 2) (Va 11) 0 .str) (Va 6)) (.again 0 [.o2 (.add .i64) (Va 11) (Vn 1)]) (.call none (.fn 98) [.push (.push .nils (Vl (Va 7) .lnil)) (Vl (Va 9) .lnil)] [.cell (.slice x0)] (.fact (.o2 .le (.o1 .len (Va 12)) (Vn 140737488355328)) (.loop 1 [Vn 0] [.int .i64] (.ite (.o2 .lt (Va 13) (.o1 .len (Va 12))) (.need (.o2 .le (Vn 0) (Va 13)) (.call none (.fn 30) [Vl (Va 0) x2,.idx (Va 2) (Va 11) 0 .str,Vl x4 x1] [.agg x0,.cell .bool] (.call none (.fn 30) [Vl (Va 3) x3,.idx (Va 2) (Va 11) 0 .str,Vl x4 x1] [.agg x0,.cell .bool] (.ite (.ite (.ite (.o1 .not (Va 16)) (.bool true) (.o1 .not (Va 19))) (.bool true) (.o1 .not (.o2 .band (.o2 .eq (Va 14) (Va 17)) (.o2 .band (.o2 .eq (Va 15) (Va 18)) (.bool true))))) (.ret [.d (.bool false)]) (.again 1 [.o2 (.add .i64) (Va 13) (Vn 1)]))))) (.again 0 [.o2 (.add .i64) (Va 11) (Vn 1)]))))))) (.ret [.d (.bool true)]))))))
theorem ZfV:fnO Tryz.prog mdA 38 [.agg liKs,.agg liKs,.cell .str]=t38:=by kernel_rfl
def Zcs (a b:Lis) (s:List UInt8):Prop:=∀c∈a.cues,c.num≠s→∀p,p.Ok→∃v,Z0M a c.num p=(v,true)∧Z0M b c.num p=(v,true)
theorem Zcg:Contract Tryz.prog 38 fun args K=>∃(a b:Lis) (s:List UInt8),a.Ok∧b.Ok∧Z7 Z3 a=0∧Z7 Z3 b=0∧Zcs a b s∧args=[.agg a.enc,.agg b.enc,.str s]∧K [.d (.bool true)]:=by
 refine .of (by kernel_rfl) ZfV ?_;rintro _ K ⟨a,b,s,ha,hb,ca,cb,hv,rfl,hK⟩ hsm;refine⟨a.enc++b.enc++[.str s],rfl,by exact((Lis.has ha).append (Lis.has hb)).append (ks':=[.str]) ⟨trivial,trivial⟩,?_⟩;have fa:Z6w a=(W9 a.cues,0):=by simp [Z6w,ca]
 have fb:Z6w b=(W9 b.cues,0):=by simp [Z6w,cb]
 have hRA:=Jv ha ca;have hRB:=Jv hb cb;refine Z0 Z5q ⟨a,ha,by simp only [zz,reduceCtorEq,Lis.enc],_,rfl,?_⟩;refine Z0 Z5q ⟨b,hb,by simp only [zz,reduceCtorEq,Lis.enc],_,rfl,?_⟩;rw [fa,fb];refine Y3 (by simp only [zz,reduceCtorEq,Lis.enc]) ?_;intro _;have hlen:=(Ze ca).len;refine Zc a.cues (fun _ _ (_:Unit)=>()) (fun i _=>[.int .i64 i]) () () rfl 0 (fun _ _=>rfl) rfl ?_ ?_
 · intro i hi _ _;refine⟨fun _=>⟨by simp only [zz,reduceCtorEq,Lis.enc] <;> omega,?_⟩,fun h=>?_⟩;rotate_left
   · exfalso;simp only [zz,reduceCtorEq,Lis.enc,List.length_map,hi]at h
   by_cases hn:a.cues[i].num=s
   · refine Y4 (by simp only [zz,reduceCtorEq,Lis.enc,J0 hi,Cue.enc];simp [hn]) ?_;simp only [zz,reduceCtorEq,Lis.enc];refine⟨(),?_⟩;rw [Z1] <;> omega
   refine Y3 (by simp only [zz,reduceCtorEq,Lis.enc,J0 hi,Cue.enc];simp [hn]) ?_;have hpa:∀p∈W9 a.cues++W9 b.cues,p.Ok:=fun p hp=>by
     rcases List.mem_append.1 hp with h|h
     · exact(Z59 hRA p (Wt.1 h)).1
     · exact(Z59 hRB p (Wt.1 h)).1
   refine Z0 Z99 ⟨[W9 a.cues,W9 b.cues],?_,by simp,by have:=JF hRA;have:=JF hRB;simp;omega,by simp only [zz,reduceCtorEq,Lis.enc],_,rfl,?_⟩
   · intro l hl p hp;refine hpa p ?_;simp at hl;rcases hl with rfl|rfl
     · exact List.mem_append_left _ hp
     · exact List.mem_append_right _ hp
   have e2: [W9 a.cues,W9 b.cues].flatten=W9 a.cues++W9 b.cues:=by simp
   rw [e2];intro _;refine Zc (W9 a.cues++W9 b.cues) (fun _ _ (_:Unit)=>()) (fun k _=>[.int .i64 k]) () () rfl 0 (fun _ _=>rfl) rfl ?_ ?_
   · intro k hk _ _;have hkm:=List.getElem_mem hk;refine⟨fun _=>⟨by simp only [zz,reduceCtorEq,Lis.enc] <;> omega,?_⟩,fun h=>?_⟩;rotate_left
     · exfalso;simp only [zz,reduceCtorEq,Lis.enc,List.length_map,hk]at h
     obtain⟨v,v1,v2⟩:=hv _ (List.getElem_mem hi) hn (W9 a.cues++W9 b.cues)[k] (hpa _ hkm);refine Z0 Z3l ⟨a,a.cues[i].num,(W9 a.cues++W9 b.cues)[k],ha,hpa _ hkm,by simp only [zz,reduceCtorEq,Lis.enc,J0 hi,J0 hk,Cue.enc,Par.enc],_,rfl,?_⟩;rw [v1];refine Z0 Z3l ⟨b,a.cues[i].num,(W9 a.cues++W9 b.cues)[k],hb,hpa _ hkm,by simp only [zz,reduceCtorEq,Lis.enc,J0 hi,J0 hk,Cue.enc,Par.enc],_,rfl,?_⟩;rw [v2];refine Y3 (by simp only [zz,reduceCtorEq,Lis.enc,Val.enc]) ?_;simp only [zz,reduceCtorEq,Lis.enc];refine⟨(),?_⟩;have hkl:(W9 a.cues++W9 b.cues).length≤1000000:=by have:=JF hRA;have:=JF hRB;simp only [List.length_append];omega
     rw [Z1] <;> omega
   · intro _ _;refine⟨fun h=>?_,fun _=>?_⟩
     · exfalso;simp only [zz,reduceCtorEq,Lis.enc,List.length_map,Nat.lt_irrefl]at h
     simp only [zz,reduceCtorEq,Lis.enc,Z7Q _ _ (show(0:Nat)≠1 by decide)];refine⟨(),?_⟩;rw [Z1] <;> omega
 · intro _ _;refine⟨fun h=>?_,fun _=>?_⟩
   · exfalso;simp only [zz,reduceCtorEq,Lis.enc,List.length_map,Nat.lt_irrefl]at h
   simp only [zz,reduceCtorEq,Lis.enc];exact hK
theorem Z2L {l:Lis} (h:Z7 Z3 l=0) {i:Nat} (hi:i < l.cues.length) (p:Par):Z0M l l.cues[i].num p=(W5 l.cues p (i+1),true):=by
 obtain⟨h1,h2,_⟩:=Z2D h hi;unfold Z0M;rw [if_neg (by simp [h1]),h2]
structure Less (l:Lis) (A:List Cue) (c:Cue) (B:List Cue) (out:List Cue):Prop where
 len:out.length+1=l.cues.length
 ck:Z7 Z3 {l with cues:=out}=0
 ok:Lis.Ok {l with cues:=out}
 nums:out.map (·.num)=(A++B).map (·.num)
theorem Z6F {l:Lis} {s:List UInt8} {A B:List Cue} {c:Cue} (hl:l.Ok) (hA:Around l s A c B) (keep:Bool) (hr:(Wy l s keep).2=0) (h1:Yg l s=0):
   (Wy l s keep).1= {l with cues:=Ya l.cues s keep}∧Less l A c B (Ya l.cues s keep):=by
 have hda:=Wj hA keep;have hRL:=Ze hA.ck;have hlen:l.cues.length=A.length+B.length+1:=by rw [hA.eq];simp;omega
 have h64:=hRL.len;have hsub:∀x∈A++B,x∈l.cues:=fun x hx=>by rw [hA.eq];simp at hx ⊢;rcases hx with h|h <;> simp [h]
 have hck2:=Z3A hA.ck hA.eq;unfold Wy at hr ⊢;rw [if_neg (by simp [h1])]at hr ⊢;have e1:(Wv {l with cues:=Ya l.cues s keep}).1= {l with cues:=Ya l.cues s keep}∧∀x∈Ya l.cues s keep,x.moves.length≤128:=by
   unfold Wv at hr ⊢;split at hr
   · cases hr
   · rename_i h;rw [if_neg h];refine⟨rfl,fun x hx=>?_⟩;simp only [not_or,List.any_eq_true,not_exists,not_and,decide_eq_true_eq]at h;have:=h.2 x hx;omega
 have hnum:(Ya l.cues s keep).map (·.num)=(A++B).map (·.num):=by
   rw [hda];cases B with
   |nil=>simp
   |cons d B'=>simp only;split <;> simp [setC]
 have hln:(Ya l.cues s keep).length+1=l.cues.length:=by
   have:=congrArg List.length hnum;simp at this;omega
 refine⟨e1.1,hln,?_,{hl with cues:=Z97 hl hA keep},hnum⟩;refine Z4I (by exact Z81 (l:=l) hA.ck) (by show(Ya l.cues s keep).length≤64;omega) (fun x hx=>?_) (Z5T hnum (Ze hck2).rising);have hx0:x∈Ya l.cues s keep:=hx;have hx2:=e1.2 x hx0;rw [hda]at hx0;cases B with
 |nil=>exact hRL.cues x (hsub x (by simpa using hx0))
 | cons d B'=>
   simp only at hx0;split at hx0
   · exact hRL.cues x (hsub x hx0)
   · rcases List.mem_append.1 hx0 with h|h
     · exact hRL.cues x (hsub x (by simp [h]))
     rcases List.mem_cons.1 h with rfl|h
     · have hd16:=hRL.cues d (hsub d (by simp));exact Z3B hd16 (Z0q hl hA.ck _ _) (by decide) (by have:=(Z1y hd16).one;omega) (by omega)
     · exact hRL.cues x (hsub x (by simp [h]))
theorem Z6H {l:Lis} {s:List UInt8} {A B:List Cue} {c:Cue} (hl:l.Ok) (hA:Around l s A c B) (hL:Less l A c B (Ya l.cues s true)) (t:List UInt8):Zcs {l with cues:=Ya l.cues s true} l t:=by
 intro x hx _ p _;obtain⟨j,hj,rfl⟩:=List.mem_iff_getElem.1 hx;have hj:j < (Ya l.cues s true).length:=hj;refine⟨_,Z2L hL.ck hj p,?_⟩;obtain⟨k1,k2⟩:=Z5s hA p;have hlen:=hL.len;have hn:∀k,k < l.cues.length→(A++B)[j]? =l.cues[k]?→(Ya l.cues s true)[j].num=(l.cues[k]?.map (·.num)).getD []:=fun k _ hk=>by
   have:=congrArg (fun x=>x[j]?) hL.nums;simp only [List.getElem?_map,hk,List.getElem?_eq_getElem hj,Option.map_some]at this;rw [←this];rfl
 rcases Nat.lt_or_ge j A.length with h|h
 · have hj2:j < l.cues.length:=by omega
   have e:(Ya l.cues s true)[j].num=l.cues[j].num:=by
     rw [hn j hj2 (by rw [hA.eq,List.getElem?_append_left h,List.getElem?_append_left h]),List.getElem?_eq_getElem hj2];rfl
   show Z0M l (Ya l.cues s true)[j].num p=_;rw [e,Z2L hA.ck hj2,k1 j h]
 · have hj2:j+1 < l.cues.length:=by omega
   have e:(Ya l.cues s true)[j].num=l.cues[j+1].num:=by
     rw [hn (j+1) hj2 (by rw [hA.eq,List.getElem?_append_right h,List.getElem?_append_right (by omega),show j+1 - A.length=(j - A.length)+1 by omega,List.getElem?_cons_succ]),List.getElem?_eq_getElem hj2];rfl
   show Z0M l (Ya l.cues s true)[j].num p=_;rw [e,Z2L hA.ck hj2,k2 j h hj]
theorem Zf8 {n:Nat} (h:n < 256):HasK (.int .u8) (.int .u8 (n:Int)):=by
 simp only [HasK,IntKind.min,IntKind.max,IntKind.signed,IntKind.bits,true_and];constructor <;> (simp;try omega)
theorem u8_of {d:D} (h:HasK (.int .u8) d):∃n:Nat,d=.int .u8 (n:Int)∧n < 256:=by
 cases d <;> simp only [HasK]at h
 obtain⟨rfl,h1,h2⟩:=h;simp only [IntKind.min,IntKind.max,IntKind.signed,IntKind.bits]at h1 h2;rename_i v;have h1':0≤v:=by simpa using h1
 have h2':v≤255:=by simpa using h2
 exact⟨v.toNat,by rw [Int.toNat_of_nonneg h1'],by omega⟩
theorem Zek {a n:Nat} (ha:a < 256) (hn:0 < n) (hn2:n < 1000000):wr64 ((wr64 (a:Int)).tmod (n:Int))=((a % n:Nat):Int):=by
 have h1:((a:Int)).tmod (n:Int)=((a % n:Nat):Int):=by
   rw [Int.tmod_eq_emod_of_nonneg (by omega)];simp
 have:=Nat.mod_lt a hn;rw [Z1 (n:=(a:Int)) (by omega),h1,Z1 (by omega)]
noncomputable def t9:R:=let x2:List K:=liKs;let x3:T:=.o1 .len (Va 2);let x4:T:=.o2 .ne (Va 12) (Vn 0);let x5:T:=Vl (Va 1) (Vl (Va 2) .lnil);let x6:T:=.o2 .eq (Va 16) (Vn 0);let x7:T:=Vl (Va 6) (Vl (Va 7) .lnil);let x8:T:=.o1 .len (Va 11);let x9:T:=.o1 .len (Va 7);let x12:T:=.o2 .le x3 (Vn 140737488355328);let x13:T:=.o2 .le x9 (Vn 140737488355328);let x15:T:=.o2 .eq (Va 8) (Vn 5);let x0:T:=.o2 (.rem .i64) (.o1 (.conv .i64) (Va 3)) x3;let x1:T:=.o2 .ne x9 (.o2 (.sub .i64) x3 (Vn 1));let x10:T:=Vl (Va 10) (Vl (.sub (Va 11) (Vn 0) x0) .lnil);let x11:T:=Vl (Va 1) (Vl (.sub (Va 2) (Vn 0) x0) .lnil);let x14:T:=.o1 .not (.ite x4 (.bool true) x1);.call none (.fn 27) [Vl (Va 0) x5] [.cell .bool] (.fact (.ite (.o1 .not (.o1 .not (Va 4))) x12 (.bool true)) (.ite (.ite (.o1 .not (Va 4)) (.bool true) (.o2 .eq x3 (Vn 0))) (.call none (.fn 23) [] [.cell .bool] (.ret [.d (Va 5)])) (.fact x12 (.need (.o2 .ne x3 (Vn 0)) (.need (.o2 .le (Vn 0) x0) (.need (.o2 .lt x0 x3) (.call none (.fn 17) [Vl (Va 0) x5,.idx (Va 2) x0 0 .str,.bool true] [.agg x2,.cell (.int .i64)] (.ite (.o2 .ne (Va 8) (Vn 0)) (.call (some x15) (.fn 23) [] [.cell .bool] (.ret [.d (.ite x15 (Va 9) (.bool false))])) (.call none (.fn 17) [Vl (Va 0) x5,.idx (Va 2) x0 0 .str,.bool false] [.agg x2,.cell (.int .i64)] (.fact (.ite (.o1 .not x4) x13 (.bool true)) (.fact (.ite x14 (.o2 .le x8 (Vn 140737488355328)) (.bool true)) (.fact (.ite x14 x13 (.bool true)) (.call (some (.o1 .not (.ite (.ite x4 (.bool true) x1) (.bool true) (.o2 .ne x8 x9)))) (.fn 38) [Vl (Va 5) x7,Vl (Va 0) x5,.str []] [.cell .bool] (.ite (.ite (.ite (.ite x4 (.bool true) x1) (.bool true) (.o2 .ne x8 x9)) (.bool true) (.o1 .not (Va 13))) (.ret [.d (.bool false)]) (.guess (.bool true) (.ite (Va 14) (.need (.o2 .le x0 x3) (.need (.o2 .le x0 x8) (.call none (.fn 25) [Vl (Va 0) x11,Vl (Va 9) x10] [.cell .bool] (.call (some (Va 15)) (.fn 29) [Vl (Va 5) x7] [.cell (.int .i64)] (.call (some (.ite (Va 15) x6 (.bool false))) (.fn 23) [] [.cell .bool] (.ret [.d (.ite (.ite (Va 15) x6 (.bool false)) (Va 17) (.bool false))])))))) (.need (.o2 .le x0 x3) (.need (.o2 .le x0 x8) (.call none (.fn 25) [Vl (Va 0) x11,Vl (Va 9) x10] [.cell .bool] (.call (some (Va 15)) (.fn 29) [Vl (Va 5) x7] [.cell (.int .i64)] (.call (some (.ite (Va 15) x6 (.bool false))) (.fn 23) [] [.cell .bool] (.ret [.d (.ite (.ite (Va 15) x6 (.bool false)) (Va 17) (.bool false))]))))))))))))))))))))))
theorem t9_ok:fnO Tryz.prog mdA 9 [.agg liKs,.cell (.int .u8)]=t9:=by kernel_rfl
theorem Z7p {l:Lis} {s:List UInt8} {keep:Bool} (h1:Yg l s=0) (h:(Wy l s keep).2≠0):(Wy l s keep).2=5:=by
 unfold Wy at h ⊢;rw [if_neg (by simp [h1])]at h ⊢;unfold Wv at h ⊢;split
 · rfl
 · rename_i h4;rw [if_neg h4]at h;exact absurd rfl h
theorem Z5v {l:Lis} {s:List UInt8} {A B:List Cue} {c:Cue} (hA:Around l s A c B) (h1:Yg l s=0):Wy l s false=({l with cues:=A++B},0):=by
 unfold Wy;rw [if_neg (by simp [h1]),Z00 hA false (by simp),Wj hA];cases B <;> simp
set_option maxHeartbeats 2000000 in
theorem law9_typed:Contract Tryz.prog 9 fun args K=>∃(l:Lis) (w:Nat),l.Ok∧w < 256∧args=[.agg l.enc,.int .u8 w]∧K [.d (.bool true)]:=by
 refine .of (by kernel_rfl) t9_ok ?_;rintro _ K ⟨l,w,hl,hw,rfl,hK⟩ hsm;refine⟨l.enc++[.int .u8 w],rfl,by exact(Lis.has hl).append (ks':=[.int .u8]) ⟨Zf8 hw,trivial⟩,?_⟩;refine Z0 Zbi ⟨l,hl,by simp only [zz,reduceCtorEq,Lis.enc],fun b hb=>⟨_,rfl,?_⟩⟩;intro _;by_cases hg:b=true∧0 < l.cues.length;rotate_left
 · refine Y4 ?_ (Z0 Z0h ⟨rfl,_,rfl,by simp only [zz,reduceCtorEq,Lis.enc];exact hK⟩);cases b
   · simp only [zz,reduceCtorEq,Lis.enc]
   · have h0:l.cues.length=0:=by
       rcases Nat.eq_zero_or_pos l.cues.length with h|h
       · exact h
       · exact absurd ⟨rfl,h⟩ hg
     simp only [zz,reduceCtorEq,Lis.enc,List.length_map,h0];rfl
 obtain⟨rfl,h0⟩:=hg;obtain⟨hck,h8⟩:=hb rfl;have hr:wr64 ((wr64 (w:Int)).tmod (l.cues.length:Int))=((w % l.cues.length:Nat):Int):=Zek hw h0 (by omega);have hi:=Nat.mod_lt w h0;generalize w % l.cues.length=i at hr hi;have hne:l.cues≠[]:=fun e=>by rw [e]at h0;simp at h0
 refine Y3 (by simp only [zz,reduceCtorEq,Lis.enc,List.length_map];simp [hne]) ?_;intro _;refine⟨by simp only [zz,reduceCtorEq,Lis.enc,List.length_map];simp [hne],by simp only [zz,reduceCtorEq,Lis.enc,List.length_map,hr] <;> omega,by simp only [zz,reduceCtorEq,Lis.enc,List.length_map,hr] <;> omega,?_⟩;obtain⟨q1,q2,q3⟩:=Z2D hck hi;obtain⟨A,c,B,hA⟩:=Z06 hl q1;have hAl:A.length=i:=by have:=hA.n;omega
 refine Z0 Z1G ⟨l,l.cues[i].num,true,hl,by simp only [zz,reduceCtorEq,Lis.enc,List.length_map,hr,J0 hi,Cue.enc],_,rfl,?_⟩;by_cases hra:(Wy l l.cues[i].num true).2=0;rotate_left
 · refine Y4 (by simp only [zz,reduceCtorEq,Lis.enc,hra]) ?_;have h5:=Z7p q1 hra;refine J5 Z0h true [.bool true] (by simp only [zz,reduceCtorEq,Lis.enc,h5]) (fun _=>⟨rfl,rfl⟩) (fun h=>by cases h) ?_;simp only [zz,reduceCtorEq,Lis.enc,h5];simpa using hK
 refine Y3 (by simp only [zz,reduceCtorEq,Lis.enc,hra]) ?_;obtain⟨e1,hL⟩:=Z6F hl hA true hra q1;rw [e1,hra];have hll:=hL.len;refine Z0 Z1G ⟨l,l.cues[i].num,false,hl,by simp only [zz,reduceCtorEq,Lis.enc,List.length_map,hr,J0 hi,Cue.enc],_,rfl,?_⟩;rw [Z5v hA q1];have hBl:(A++B).length+1=l.cues.length:=by rw [hA.eq];simp;omega
 have hBl2:A.length+B.length+1=l.cues.length:=by simpa using hBl
 have hwl:wr64 ((l.cues.length:Int) - 1)=(((Ya l.cues l.cues[i].num true).length:Nat):Int):=by rw [Z1] <;> omega
 have e0:(A++B).length=(Ya l.cues l.cues[i].num true).length:=by omega
 intro _ _ _;refine J5 Zcg true [.bool true] (by simp only [zz,reduceCtorEq,Lis.enc,List.length_map,hwl,e0]) (fun _=>⟨_,l,[],hL.ok,hl,hL.ck,hck,Z6H hl hA hL [],by simp only [zz,reduceCtorEq,Lis.enc],rfl⟩) (fun h=>by cases h) ?_;refine Y3 (by simp only [zz,reduceCtorEq,Lis.enc,List.length_map,hwl,e0]) ?_;rw [Jb];rintro b -;have hs1:Lis.Ok {l with cues:=A}:= {hl with cues:=fun c hc=>hl.cues c (by rw [hA.eq];simp [hc])}
 have t1:l.cues.take i=A:=by rw [hA.eq, ←hAl];simp
 have t2:(A++B).take i=A:=by rw [←hAl];simp
 cases b
 · refine Y3 (by simp only [zz,reduceCtorEq,Lis.enc]) ?_;refine⟨by simp only [zz,reduceCtorEq,Lis.enc,List.length_map,hr] <;> omega,by simp only [zz,reduceCtorEq,Lis.enc,List.length_map,List.length_append,hr] <;> omega,?_⟩;refine Z0 Z5S ⟨{l with cues:=A},{l with cues:=A},hs1,hs1,?_,_,rfl,?_⟩
   · simp only [zz,reduceCtorEq,Lis.enc,List.length_map,hr];rw [←List.map_take, ←List.map_take,t1,t2];exact⟨rfl,rfl⟩
   rw [Z2W];refine J5 Yu true [.int .i64 0] (by simp only [zz,reduceCtorEq,Lis.enc]) (fun _=>⟨_,hL.ok,by simp only [zz,reduceCtorEq,Lis.enc],by rw [hL.ck];rfl⟩) (fun h=>by cases h) ?_;refine J5 Z0h true [.bool true] (by simp only [zz,reduceCtorEq,Lis.enc]) (fun _=>⟨rfl,rfl⟩) (fun h=>by cases h) ?_;simp only [zz,reduceCtorEq,Lis.enc];exact hK
 · refine Y4 (by simp only [zz,reduceCtorEq,Lis.enc]) ?_;refine⟨by simp only [zz,reduceCtorEq,Lis.enc,List.length_map,hr] <;> omega,by simp only [zz,reduceCtorEq,Lis.enc,List.length_map,List.length_append,hr] <;> omega,?_⟩;refine Z0 Z5S ⟨{l with cues:=A},{l with cues:=A},hs1,hs1,?_,_,rfl,?_⟩
   · simp only [zz,reduceCtorEq,Lis.enc,List.length_map,hr];rw [←List.map_take, ←List.map_take,t1,t2];exact⟨rfl,rfl⟩
   rw [Z2W];refine J5 Yu true [.int .i64 0] (by simp only [zz,reduceCtorEq,Lis.enc]) (fun _=>⟨_,hL.ok,by simp only [zz,reduceCtorEq,Lis.enc],by rw [hL.ck];rfl⟩) (fun h=>by cases h) ?_;refine J5 Z0h true [.bool true] (by simp only [zz,reduceCtorEq,Lis.enc]) (fun _=>⟨rfl,rfl⟩) (fun h=>by cases h) ?_;simp only [zz,reduceCtorEq,Lis.enc];exact hK
theorem law9:Contract Tryz.prog 9 (Z7H Tryz.prog 9):=
 law9_typed.weaken fun args K _ h=>by
   obtain⟨h1,h2,hK⟩:=ZeO [.agg liKs,.cell (.int .u8)] (by kernel_rfl) h
   match args,h1 with
   | [a,b],_=>
     obtain⟨l,hl,rfl⟩:=Lis.ofAgg (h2 0 _ _ rfl rfl);obtain⟨w,rfl,hw⟩:=u8_of (h2 1 _ _ rfl rfl);exact⟨l,w,hl,hw,rfl,hK⟩
end Go.Sx.La
