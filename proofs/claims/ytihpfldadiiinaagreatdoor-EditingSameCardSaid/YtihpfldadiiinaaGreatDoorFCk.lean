/-
 Part 11 of the proof: the executor over the kit's code with its soundness, or contracts of functions.
-/
import Derived.Test.YtihpfldadiiinaaGreatDoorFCj
import Derived.Shelf.Spec.SlicesGrow
import Derived.Test.YtihpfldadiiinaaGreatDoorGrow
set_option linter.unusedSimpArgs false
set_option linter.unusedVariables false
set_option linter.unusedSectionVars false
set_option linter.defProp false
set_option maxRecDepth 100000
namespace Go.Sx.La
open Go Go.Sx Go.RowKit Go.Proofs
noncomputable def t27:R:=let x0:T:=Vl (Va 1) (Vl (Va 2) .lnil);let x1:T:=.o2 .eq (Va 4) (Vn 0);.call none (.fn 22) [Vl (Va 0) x0,.nils] [.cell .bool] (.call (some (Va 3)) (.fn 45) [Vl (Va 0) x0] [.cell (.int .i64)] (.fact (.ite (.ite (Va 3) x1 (.bool false)) (.o2 .le (.o1 .len (Va 2)) (Vn 140737488355328)) (.bool true)) (.ret [.d (.ite (.ite (Va 3) x1 (.bool false)) (.o2 .le (.o1 .len (Va 2)) (Vn 8)) (.bool false))])))
theorem Zgj:fnO Tryz.prog mdA 27 [.agg liKs]=t27:=by kernel_rfl
noncomputable def t30:R:=let x0:T:=Vl (Vn 0) .lnil;.call none (.fn 18) [Vl (Va 0) (Vl (Va 1) (Vl (Va 2) .lnil)),Va 3] [.cell (.slice enKs),.cell (.int .i64)] (.ite (.o2 .ne (Va 7) (Vn 0)) (.ret [.d (Vl (Vn 0) x0),.d (.bool false)]) (.fact (.o2 .le (.o1 .len (Va 6)) (Vn 140737488355328)) (.loop 0 [Vn 0] [.int .i64] (.ite (.o2 .lt (Va 8) (.o1 .len (Va 6))) (.need (.o2 .le (Vn 0) (Va 8)) (.ite (.o2 .band (.o2 .eq (.idx (Va 6) (Va 8) 0 (.int .i64)) (Va 4)) (.o2 .band (.o2 .eq (.idx (Va 6) (Va 8) 1 (.int .i64)) (Va 5)) (.bool true))) (.ret [.d (Vl (.idx (Va 6) (Va 8) 2 (.int .i64)) (Vl (.idx (Va 6) (Va 8) 3 (.int .i64)) .lnil)),.d (.bool true)]) (.again 0 [.o2 (.add .i64) (Va 8) (Vn 1)]))) (.ret [.d (Vl (Vn (-1)) x0),.d (.bool true)])))))
theorem Zgg:fnO Tryz.prog mdA 30 [.agg liKs,.cell .str,.agg [.int .i64,.int .i64]]=t30:=by kernel_rfl
theorem ZbX:Contract Tryz.prog 27 fun args K=>∃(l:Lis),l.Ok∧args=[.agg l.enc]∧∀b:Bool,(b=true→Z6 Y2 l=0∧l.cues.length≤8)→K [.d (.bool b)]:=by
 refine .of (by kernel_rfl) Zgj ?_;rintro _ K ⟨l,hl,rfl,hK⟩ hsm;refine⟨l.enc,rfl,Lis.has hl,?_⟩;refine Z0 Zcm ⟨l,[],hl,by simp,by simp only [zz,reduceCtorEq,Lis.enc];first|done|rfl,fun b=>⟨_,rfl,?_⟩⟩;refine W6 Z2a b [.int .i64 (if b then Z6 Y2 l else 0)] (by simp only [zz,reduceCtorEq,Lis.enc]) (fun h=>⟨l,hl,by simp only [zz,reduceCtorEq,Lis.enc],by rw [h];rfl⟩) (fun h=>by rw [h];rfl) ?_;have hK2:=hK (b&&decide (Z6 Y2 l=0)&&decide (l.cues.length≤8)) (fun h=>by
   simp only [Bool.and_eq_true,decide_eq_true_eq]at h;exact⟨h.1.2,h.2⟩)
 cases b
 · simp only [zz,reduceCtorEq,Lis.enc,List.length_map];exact hK2
 · simp only [zz,reduceCtorEq,Lis.enc,List.length_map];intro _;have e:decide ((l.cues.length:Int)≤8)=decide (l.cues.length≤8):=decide_eq_decide.2 (by omega);rw [e];exact hK2
def Z15 (l:Lis) (s:List UInt8) (p:Par):Val×Bool:=if Yg l s≠0 then(⟨0,0⟩,false)else(J4 l.cues p (upto l s),true)
theorem Z5a {cs:List Cue} {p:Par} {n:Nat} (hn:n≤cs.length):(ZD (Yl cs n) p=some ⟨p,J4 cs p n⟩)∨(ZD (Yl cs n) p=none∧J4 cs p n=hval):=by
 have h:=JS (fun _=>true) (fun p=>J4 cs p n) p (J9 cs);rw [List.filter_eq_self.2 (fun _ _=>rfl)]at h;have h':ZD (Yl cs n) p=if p∈J9 cs then some ⟨p,J4 cs p n⟩else none:=by simpa [Yl]using h
 by_cases hp:p∈J9 cs
 · exact .inl (by rw [h',if_pos hp])
 · refine .inr ⟨by rw [h',if_neg hp],?_⟩;rw [JE cs p n hn];exact Z1R fun c hc=>Z6s hp c (List.mem_of_mem_take (List.mem_reverse.1 hc))
theorem Z3D:Contract Tryz.prog 30 fun args K=>∃(l:Lis) (s:List UInt8) (p:Par),l.Ok∧p.Ok∧args=[.agg l.enc,.str s,.agg p.enc]∧K [.d (.agg (Z15 l s p).1.enc),.d (.bool (Z15 l s p).2)]:=by
 refine .of (by kernel_rfl) Zgg ?_;rintro _ K ⟨l,s,p,hl,hp,rfl,hK⟩ hsm;refine⟨l.enc++.str s::p.enc,rfl,by exact(Lis.has hl).append (show HasKs (.str::paKs) (.str s::p.enc)from⟨trivial,Par.has hp⟩),?_⟩;refine Z0 Z2X ⟨l,s,hl,by simp only [zz,reduceCtorEq,Lis.enc,Par.enc],_,rfl,?_⟩;unfold Z15 at hK;unfold Z4e;rcases Decidable.em (Yg l s=0)with h1|h1
 rotate_left
 · rw [if_pos h1]at hK ⊢;refine Z4 (by simp only [zz,reduceCtorEq,Lis.enc,Par.enc,h1]) ?_;simp only [zz,reduceCtorEq,Lis.enc];exact hK
 rw [if_neg (by simpa using h1)]at hK ⊢;refine W3 (by simp only [zz,reduceCtorEq,Lis.enc,Par.enc]) ?_;simp only [zz,reduceCtorEq,Lis.enc,Par.enc,List.length_map];intro hcap;refine Wc (Yl l.cues (upto l s)) (fun _ xs (_:Unit)=>ZD xs p) (fun i _=>[.int .i64 i]) () (ZD (Yl l.cues (upto l s)) p) rfl 0 (fun _ _=>rfl) rfl ?_ ?_
 · intro i hi _ hgo;simp only [zz,reduceCtorEq,List.length_map,hi,J0 hi,Ent.enc];refine⟨by omega,fun⟨h2,h3⟩=>?_,fun h=>⟨(),by rw [Z1] <;> omega,?_⟩⟩
   · have h4:decide ((Yl l.cues (upto l s))[i].pa=p)=true:=by
       rw [decide_eq_true_eq];exact ZaH h2 h3
     have h5:ZD ((Yl l.cues (upto l s))[i]::(Yl l.cues (upto l s)).drop (i+1)) p=some (Yl l.cues (upto l s))[i]:=List.find?_cons_of_pos (p:=fun m:Ent=>decide (m.pa=p)) h4;rw [h5]at hgo;rcases Z5a (cs:=l.cues) (p:=p) (n:=upto l s) (Z5q l s)with h6|⟨h6,h7⟩
     · rw [h6]at hgo;have h8:=Option.some.inj hgo;rw [h8];exact hK
     · rw [h6]at hgo;cases hgo
   · have h4:¬decide ((Yl l.cues (upto l s))[i].pa=p)=true:=by
       rw [decide_eq_true_eq];intro h5;rw [h5]at h;simp at h
     have h5:ZD ((Yl l.cues (upto l s))[i]::(Yl l.cues (upto l s)).drop (i+1)) p=ZD ((Yl l.cues (upto l s)).drop (i+1)) p:=List.find?_cons_of_neg (p:=fun m:Ent=>decide (m.pa=p)) h4;rw [h5]at hgo;exact hgo
 · intro _ hgo;simp only [zz,reduceCtorEq,List.length_map,Nat.lt_irrefl];rcases Z5a (cs:=l.cues) (p:=p) (n:=upto l s) (Z5q l s)with h6|⟨h6,h7⟩
   · rw [h6]at hgo;cases hgo
   · rw [h7]at hK;exact hK
theorem c6:J2 Tryz.prog 6=true:=by kernel_rfl
noncomputable def t41:R:=let x1:List K:=mvKs;let x2:List K:=tmKs;let x3:T:=Vl (Va 1) (Vl (Va 2) .lnil);let x4:T:=.idx (Va 2) (Va 4) 4 .bool;let x0:T:=.push .nils (Vl (.idx (Va 2) (Va 4) 0 .str) (Vl (.idx (Va 2) (Va 4) 1 .str) (Vl (Va 8) (Vl (.idx (Va 2) (Va 4) 3 (.slice x2)) (Vl x4 (Vl (.idx (Va 2) (Va 4) 5 .bool) (Vl (.idx (Va 2) (Va 4) 6 (.int .i64)) (Vl (.idx (Va 2) (Va 4) 7 .str) (Vl (.idx (Va 2) (Va 4) 8 (.int .i64)) .lnil)))))))));.call none (.fn 29) [Vl (Va 0) x3] [.cell (.int .i64)] (.ite (.o2 .ne (Va 3) (Vn 0)) (.ret [.d (Vl (Vn 0) (Vl (Vn 0) (Vl .nils .lnil))),.d (Va 3)]) (.fact (.o2 .le (.o1 .len (Va 2)) (Vn 140737488355328)) (.loop 0 [Vn 0,.nils] [.int .i64,.slice [.str,.str,.slice x1,.slice x2,.bool,.bool,.int .i64,.str,.int .i64]] (.ite (.o2 .lt (Va 4) (.o1 .len (Va 2))) (.need (.o2 .le (Vn 0) (Va 4)) (.lets [.ite x4 (Vn (-1)) (.o2 (.sub .i64) (Va 4) (Vn 1))] (.call none (.fn 57) [Vl (Va 0) x3,Va 6] [.cell .fn] (.call none (.fn 101) [.idx (Va 2) (Va 4) 2 (.slice x1),Va 7] [.cell (.slice x1)] (.need (.o2 .le (.o1 .len (.o2 .app (Va 5) x0)) (Vn 1172812402961)) (.again 0 [.o2 (.add .i64) (Va 4) (Vn 1),.o2 .app (Va 5) x0])))))) (.ret [.d (Vl (Va 0) (Vl (Va 1) (Vl (Va 5) .lnil))),.d (Vn 0)])))))
theorem Zgb:fnO Tryz.prog mdA 41 [.agg liKs]=t41:=by kernel_rfl
def Z20 (cs:List Cue) (n:Nat) (c:Cue):Cue:= {c with moves:=leave c fun p=>J4 cs p (if c.block then 0 else n)}
def Yd (cs:List Cue):Nat→List Cue→List Cue
 |_,[]=>[]
 |i,c::l=>Z20 cs i c::Yd cs (i+1) l
def Z7n (l:Lis):Lis×Int:=if Z6 Y2 l≠0 then(zeroL,Z6 Y2 l)else({l with cues:=Yd l.cues 0 l.cues},0)
set_option maxHeartbeats 1000000 in
theorem Z9W:Contract Tryz.prog 41 fun args K=>∃(l:Lis),l.Ok∧args=[.agg l.enc]∧K [.d (.agg (Z7n l).1.enc),.d (.int .i64 (Z7n l).2)]:=by
 refine .of (by kernel_rfl) Zgb ?_;rintro _ K ⟨l,hl,rfl,hK⟩ hsm;refine⟨l.enc,rfl,Lis.has hl,?_⟩;unfold Z7n at hK;refine Z0 ZB ⟨l,hl,by simp only [zz,reduceCtorEq,Lis.enc],_,rfl,?_⟩;rcases Decidable.em (Z6 Y2 l=0)with h1|h1
 rotate_left
 · rw [if_pos h1]at hK;refine Z4 (by simp only [zz,reduceCtorEq,Lis.enc,h1]) ?_;simp only [zz,reduceCtorEq,Lis.enc];exact hK
 rw [if_neg (by simpa using h1)]at hK;rw [h1];refine W3 (by simp only [zz,reduceCtorEq,Lis.enc]) ?_;have hRL:=Wb h1;have hRT:=Zo hl h1;have hlen:=hRL.len;intro _;refine Jo l.cues (fun i l' (a:List Cue)=>a++Yd l.cues i l') (fun i a=>[.int .i64 i,.slice (a.map Cue.enc)]) (fun i a=>a.length≤i) [] (Yd l.cues 0 l.cues) rfl (by simp) 0 (fun _ _=>rfl) rfl ?_ ?_
 · rintro i hi a hI hgo;have hci:=hl.cues _ (List.getElem_mem hi);have hrc:=Z00 (hRL.cues _ (List.getElem_mem hi));refine⟨fun _=>⟨by simp only [zz,reduceCtorEq,Lis.enc] <;> omega,?_⟩,fun h=>?_⟩;rotate_left
   · exfalso;simp only [zz,reduceCtorEq,Lis.enc,List.length_map,hi]at h
   have hbn:(if l.cues[i].block then 0 else i)≤l.cues.length:=by split <;> omega
   refine Z74 [.int .i64 (((if l.cues[i].block then 0 else i:Nat):Int) - 1)] ?_ ?_
   · simp only [zz,reduceCtorEq,Lis.enc,J0 hi,Cue.enc,List.map];cases hb:l.cues[i].block
     · simp only [zz,reduceCtorEq];rw [Z1 (by omega)];try rfl
     · simp only [zz,reduceCtorEq] <;> rfl
   refine Z0 Z01 ⟨l,if l.cues[i].block then 0 else i,hl,h1,hbn,by simp only [zz,reduceCtorEq,Lis.enc],fun f cf hsv=>⟨_,rfl,?_⟩⟩;refine Z0 Z41 ⟨l.cues[i].moves,f,cf,fun p=>J4 l.cues p (if l.cues[i].block then 0 else i),hci.moves,fun p=>YD hRT p _,hsv,by have:=hrc.len;omega,by simp only [zz,reduceCtorEq,Lis.enc,J0 hi,Cue.enc],_,rfl,?_⟩;have hstep:a++Yd l.cues i (l.cues[i]::l.cues.drop (i+1))=(a++[Z20 l.cues i l.cues[i]])++Yd l.cues (i+1) (l.cues.drop (i+1)):=by simp [Yd]
   rw [hstep]at hgo;refine⟨by simp only [zz,reduceCtorEq,Lis.enc,List.length_append,List.length_map,List.length_cons,List.length_nil] <;> omega,?_⟩;simp only [zz,reduceCtorEq,Lis.enc,J0 hi,Cue.enc];exact⟨a++[Z20 l.cues i l.cues[i]],⟨by rw [Z1] <;> omega,by simp [Z20,leave,Cue.enc]⟩,by simp only [List.length_append,List.length_singleton];exact Nat.succ_le_succ hI,hgo⟩
 · rintro a hI hgo;simp only [Yd,List.append_nil]at hgo;refine⟨fun h=>?_,fun _=>?_⟩
   · exfalso;simp only [zz,reduceCtorEq,Lis.enc,List.length_map,Nat.lt_irrefl]at h
   subst hgo;simp only [zz,reduceCtorEq,Lis.enc];exact hK
theorem Z1Z (cs:List Cue):∀(l:List Cue) (i:Nat),(Yd cs i l).length=l.length
 | [],_=>rfl
 |c::l,i=>by simp [Yd,Z1Z cs l]
theorem WE (cs:List Cue):∀(l:List Cue) (i k:Nat),(Yd cs i l)[k]? =(l[k]?).map (Z20 cs (i+k))
 | [],_,_=>by simp [Yd]
 |c::l,i,0=>by simp [Yd]
 | c::l,i,k+1=>by
   simp only [Yd,List.getElem?_cons_succ];rw [WE cs l (i+1) k];congr 2;omega
theorem Z5s {cs:List Cue} (hr:∀c∈cs,Wj c.moves) (p:Par):∀n,n≤cs.length→J4 (Yd cs 0 cs) p n=J4 cs p n
 |0,_=>rfl
 | n +1,h=>by
   have hn:n < cs.length:=by omega
   have hn':n < (Yd cs 0 cs).length:=by rw [Z1Z];exact hn
   have hg:(Yd cs 0 cs)[n]=Z20 cs n cs[n]:=by
     have:=WE cs cs 0 n;rw [List.getElem?_eq_getElem hn',List.getElem?_eq_getElem hn]at this;simpa using this
   have ih:=Z5s hr p n (by omega);rw [Z0K hn',Z0K hn,hg];have hb:(Z20 cs n cs[n]).block=cs[n].block:=rfl;have hm:(Z20 cs n cs[n]).moves=leave cs[n] fun p=>J4 cs p (if cs[n].block then 0 else n):=rfl
   rw [hb,hm,JW (hr _ (List.getElem_mem hn)),ih];have hw:J4 cs p (if cs[n].block then 0 else n)=if cs[n].block then hval else J4 cs p n:=by
     cases cs[n].block
     · rfl
     · rfl
   rw [hw];cases hf:Jb cs[n].moves p with
   |none=>rfl
   | some m=>
     simp only [Option.filter_some,Option.map_some,Option.getD_some];by_cases hv:m.va=if cs[n].block then hval else J4 cs p n
     · simp [hv]
     · simp [hv]
theorem Z8N (cs:List Cue):(Yd cs 0 cs).map Z6f=cs.map Z6f:=by
 apply List.ext_getElem?;intro k;simp only [List.getElem?_map,WE];cases cs[k]? <;> rfl
theorem Z8M {cs:List Cue} (hr:∀c∈cs,Wj c.moves):Yd (Yd cs 0 cs) 0 (Yd cs 0 cs)=Yd cs 0 cs:=by
 apply List.ext_getElem?;intro k;rw [WE (Yd cs 0 cs) (Yd cs 0 cs) 0 k,WE cs cs 0 k];cases h:cs[k]? with
 |none=>rfl
 | some c=>
   obtain⟨hk,_⟩:=List.getElem?_eq_some_iff.1 h;simp only [Option.map_some,Nat.zero_add];congr 1;have hW:∀p,J4 (Yd cs 0 cs) p (if c.block then 0 else k)=J4 cs p (if c.block then 0 else k):=fun p=>Z5s hr p _ (by split <;> omega)
   have hb:(Z20 cs k c).block=c.block:=rfl;unfold Z20 leave;simp only [List.filter_filter];congr 1;apply List.filter_congr;intro m _;have:=hW m.pa;simp only [this,Bool.and_self]
end Go.Sx.La
namespace Go.Sx.La
open Go Go.Sx Go.RowKit Go.Proofs Go.Shelf
theorem growX {P:Program} {f:FuncId} {ρ:Ren} (L:Lays8.n4 P ρ) (hf:ρ.f 4=f) (hcl:J2 P f=true) {ks:List K} (hres:J7 P false (Wp P f)=some [.cell (.slice ks)]) (h0:0 < ks.length)
   (hchk:(match P.info? (ρ.t 25)with|some i=>(match i.zero with|some z=>i.size==ks.length&&z.cells.size==ks.length&&decide (i.bytes≤1000)|none=>false)|none=>false)=true):
   ContractX P f [.own ks,.cell (.int .i64)] false fun args K=>∃n:Nat,n≤1000000∧args=[.own ks.length [],.d (.int .i64 n)]∧K [.own ks.length []]:=by
 obtain⟨i0,z,hi0,hz0,hs,hzs,hby⟩:∃i0 z,P.info? (ρ.t 25)=some i0∧i0.zero=some z∧i0.size=ks.length∧z.cells.size=ks.length∧i0.bytes≤1000:=by
   split at hchk <;> try contradiction
   rename_i i hi;split at hchk <;> try contradiction
   rename_i z hz;simp only [Bool.and_eq_true,beq_iff_eq,decide_eq_true_eq]at hchk;exact⟨i,z,hi,hz,hchk.1.1,hchk.1.2,hchk.2⟩
 refine⟨hcl,?_⟩;rintro _ K ⟨n,hn,rfl,hK⟩ _ w m vs hm hr;have hlen2:vs.length=2:=hr.len
 match vs,hlen2 with
 | [v,u],_=>
 have r0:=hr.rep 0 _ v rfl rfl;have r1:=hr.rep 1 _ u rfl rfl;obtain rfl:u=.int .i64 n:=by cases r1 with|d h=>cases h;rfl
 have hty:Yy P f [] [.own ks.length []]:=by
   intro rk hrk;rw [hres]at hrk;cases hrk;exact⟨[.slice []],rfl,by simp [RK.all,RK.kinds,HasKs,HasK]⟩
 have fin:∀ {e:Ending} {w':World} {v':Value},e=.returned v'→RepR m w' (fun b=>w.heap.size≤b∨Yb [.own ks.length [],.d (.int .i64 n)] [v,.int .i64 n] b) (.own ks.length []) v'→MemOk m w'→Apart (Yb [.own ks.length [],.d (.int .i64 n)] [v,.int .i64 n]) w w'→
     ∃ rs us v_1 m',K rs∧Yy P f (if false=true then Za [.own ks,.cell (.int .i64)]else []) rs∧e=.returned v_1∧v_1=Z0i us∧
       RepRs m' w' (fun b=>w.heap.size≤b∨Yb [.own ks.length [],.d (.int .i64 n)] [v,.int .i64 n] b) rs (us++if false=true then Z5 [.own ks.length [],.d (.int .i64 n)] [v,.int .i64 n]else [])∧
       m.le m'∧MemOk m' w'∧(∀b,b < w.heap.size→¬Yb [.own ks.length [],.d (.int .i64 n)] [v,.int .i64 n] b→m' b=m b)∧Apart (Yb [.own ks.length [],.d (.int .i64 n)] [v,.int .i64 n]) w w':=by
   intro e w' v' he hrep hmo hap;refine⟨[.own ks.length []],[v'],v',m,hK,hty,he,by simp [Z0i],⟨rfl,?_,?_⟩,Mem.le_refl m,hmo,fun _ _ _=>rfl,hap⟩
   · intro i r u h1 h2;cases i with
     |zero=>simp at h1 h2;subst h1 h2;exact hrep
     |succ i=>simp at h1
   · intro i j r r' u u' b hne h1 h2;cases i with
     |succ i=>simp at h1
     | zero=>cases j with
       |zero=>exact absurd rfl hne
       |succ j=>simp at h2
 have hfresh:m w.heap.size=none:=by
   cases hh:m w.heap.size with
   |none=>rfl
   |some o=>exact absurd (hm.lt hh) (Nat.lt_irrefl _)
 have alloc_at:∀(W:World) (o:Obj),(W.alloc o).heap[W.heap.size]? =some o:=fun W o=>by
   show(W.heap.push o)[W.heap.size]? =some o;simp
 have new:∀(base:Option Addr) (c:Nat) (cs:List Value),v=.slice base 0 c→c < n→cs.length=c * ks.length→(base=none→c=0)→(∀a,base=some a→∀j v,cs[j]? =some v→w.cell? (a.add j)=some v)→
     Calls P f #[v,.int .i64 n] w fun e w'=>∃rs us v_1 m',K rs∧Yy P f (if false=true then Za [.own ks,.cell (.int .i64)]else []) rs∧e=.returned v_1∧v_1=Z0i us∧
       RepRs m' w' (fun b=>w.heap.size≤b∨Yb [.own ks.length [],.d (.int .i64 n)] [v,.int .i64 n] b) rs (us++if false=true then Z5 [.own ks.length [],.d (.int .i64 n)] [v,.int .i64 n]else [])∧
       m.le m'∧MemOk m' w'∧(∀b,b < w.heap.size→¬Yb [.own ks.length [],.d (.int .i64 n)] [v,.int .i64 n] b→m' b=m b)∧Apart (Yb [.own ks.length [],.d (.int .i64 n)] [v,.int .i64 n]) w w':=by
   rintro base c cs rfl hcn hcl' hnil hcs;have hmul:n * i0.bytes≤1000000 * 1000:=Nat.mul_le_mul hn hby;have:=Any8.slices_Grow_grow L i0 z hi0 hz0 (by omega) base 0 c n cs w (Nat.zero_le _) (by omega) (by rw [Nat.zero_add];omega) (by omega) (by rw [hs];exact hcl') hnil hcs;rw [hf]at this;refine this.mono ?_;rintro e w' ⟨he,rfl⟩;have hG:n≤grownCap w (0+n) c (ρ.t 25):=by have:=grownCap_ge w (0+n) c (ρ.t 25);omega
   have hGm:grownCap w (0+n) c (ρ.t 25)≤maxLen:=grownCap_le_maxLen w (0+n) c (ρ.t 25) (by unfold maxLen;omega);generalize grownCap w (0+n) c (ρ.t 25)=G at he hG hGm ⊢;refine fin he (.own (xs:=[]) (.inl (Nat.le_refl _)) hfresh (alloc_at w.drew _) (by omega) (Nat.zero_le _) hGm (Nat.zero_le _) ?_ (by simp) (by simp)) ?_ ⟨rfl,rfl,rfl,Nat.le_succ _,by show w.heap.size≤(w.heap.push _).size;simp,fun b hb _=>heap_alloc_old w.drew _ hb⟩
   · have hz:∀k,(Builtin.zeroCells z.cells k).size=k * ks.length:=fun k=>by simp [Builtin.zeroCells,hzs]
     simp only [Array.size_append,List.size_toArray,hz,hcl',Nat.zero_add];rw [←Nat.add_mul, ←Nat.add_mul];congr 1;omega
   · intro b o hb;rw [heap_alloc_old w.drew _ (hm.lt hb)];exact hm b o hb
 have old:∀(base:Option Addr) (c:Nat),v=.slice base 0 c→n≤c→c≤maxLen→RepR m w (fun b=>w.heap.size≤b∨Yb [.own ks.length [],.d (.int .i64 n)] [v,.int .i64 n] b) (.own ks.length []) v→
     Calls P f #[v,.int .i64 n] w fun e w'=>∃rs us v_1 m',K rs∧Yy P f (if false=true then Za [.own ks,.cell (.int .i64)]else []) rs∧e=.returned v_1∧v_1=Z0i us∧
       RepRs m' w' (fun b=>w.heap.size≤b∨Yb [.own ks.length [],.d (.int .i64 n)] [v,.int .i64 n] b) rs (us++if false=true then Z5 [.own ks.length [],.d (.int .i64 n)] [v,.int .i64 n]else [])∧
       m.le m'∧MemOk m' w'∧(∀b,b < w.heap.size→¬Yb [.own ks.length [],.d (.int .i64 n)] [v,.int .i64 n] b→m' b=m b)∧Apart (Yb [.own ks.length [],.d (.int .i64 n)] [v,.int .i64 n]) w w':=by
   rintro base c rfl hcn hcm hrep;have:=Any8.slices_Grow_room L base 0 c n w (Nat.zero_le _) (by unfold maxLen at hcm;omega) (by omega) (by omega);rw [hf]at this;refine this.mono ?_;rintro e w' ⟨he,rfl⟩;exact fin he hrep hm ⟨rfl,rfl,rfl,Nat.le_refl _,Nat.le_refl _,fun _ _ _=>rfl⟩
 cases r0 with
 | none=>
   rcases Nat.eq_zero_or_pos n with h|h
   · exact old _ 0 rfl (by omega) (Nat.zero_le _) .none
   · exact new _ 0 [] rfl h (by simp) (fun _=>rfl) (by simp)
 | @own _ _ b c arr t hB hmb hb h0c hc hcc hcap hsz he hv=>
   rcases Nat.lt_or_ge c n with h|h
   · refine new _ c arr.toList rfl h (by simpa using hsz) (fun h=>by cases h) ?_;intro ad had j v hj;cases had;have ea:(⟨b,0,none⟩:Addr).add j=⟨b,j,none⟩:=by
       simp only [Addr.add];split
       · rename_i h0;rw [h0]
       · simp
     rw [ea];simp only [World.cell?,hb];simpa using hj
   · exact old _ c rfl h hcc (.own (.inr ⟨0,_,_,rfl,rfl,rfl,by simp [blk];omega⟩) hmb hb h0c hc hcc hcap hsz (by simp) (by simp))
end Go.Sx.La
namespace Go.Sx.La
open Go Go.Sx Go.RowKit Go.Proofs
noncomputable def t98:R:=let x0:List K:=[.int .i64,.int .i64];let x1:T:=.o1 .len (.idx (Va 0) (Va 2) 0 (.slice x0));let x2:T:=.idx (Va 0) (Va 5) 0 (.slice x0);let x3:T:=.o1 .len (Va 0);.fact (.o2 .le x3 (Vn 140737488355328)) (.loop 0 [Vn 0,Vn 0] x0 (.ite (.o2 .lt (Va 2) x3) (.need (.o2 .le (Vn 0) (Va 2)) (.fact (.o2 .le x1 (Vn 140737488355328)) (.ite (.o2 .lt (.o2 (.add .i64) (Va 1) x1) (Vn 0)) (.fail "slices.go:496") (.again 0 [.o2 (.add .i64) (Va 1) x1,.o2 (.add .i64) (Va 2) (Vn 1)])))) (.callX false 172 [.own 2 .nils,.d (Va 1)] [.own x0] (.loop 1 [Va 3,Vn 0] [.slice x0,.int .i64] (.ite (.o2 .lt (Va 5) x3) (.need (.o2 .le (Vn 0) (Va 5)) (.need (.o2 .le (.o1 .len (.o2 .app (Va 4) x2)) (Vn 8796093022208)) (.again 1 [.o2 .app (Va 4) x2,.o2 (.add .i64) (Va 5) (Vn 1)]))) (.ret [.own 2 (Va 4)]))))))
theorem Zft:fnO Tryz.prog mdA 98 [.cell (.slice [.slice [.int .i64,.int .i64]])]=t98:=by kernel_rfl
theorem Z9w:ContractX Tryz.prog 172 [.own paKs,.cell (.int .i64)] false fun args K=>∃n:Nat,n≤1000000∧args=[.own 2 [],.d (.int .i64 n)]∧K [.own 2 []]:=
 growX Tryz.grow172 rfl (by kernel_rfl) (ks:=paKs) (by kernel_rfl) (by decide) (by kernel_rfl)
theorem Z9I:Contract Tryz.prog 98 fun args K=>∃(ls:List (List Par)),(∀l∈ls,∀p∈l,p.Ok)∧ls.length≤1000000∧(ls.map List.length).sum≤1000000∧args=[.slice (ls.map fun l=>[.slice (l.map Par.enc)])]∧K [.own 2 (ls.flatten.map Par.enc)]:=by
 refine .of (by kernel_rfl) Zft ?_;rintro _ K ⟨ls,hls,h1,h2,rfl,hK⟩ hsm;refine⟨[.slice (ls.map fun l=>[.slice (l.map Par.enc)])],rfl,⟨?_,trivial⟩,?_⟩
 · intro x hx;obtain⟨l,hl,rfl⟩:=List.mem_map.1 hx;exact⟨fun y hy=>by obtain⟨p,hp,rfl⟩:=List.mem_map.1 hy;exact Par.has (hls l hl p hp),trivial⟩
 intro _;refine Wc ls (fun _ l (s:Nat)=>s+(l.map List.length).sum) (fun i s=>[.int .i64 s,.int .i64 i]) 0 (ls.map List.length).sum (by simp) 1 (fun _ _=>rfl) rfl ?_ ?_
 · intro i hi s hgo;refine⟨fun _=>⟨by simp only [zz,reduceCtorEq] <;> omega,?_⟩,fun h=>?_⟩;rotate_left
   · exfalso;simp only [zz,reduceCtorEq,List.length_map,hi]at h
   intro _;simp only [List.map_cons,List.sum_cons]at hgo;refine W3 ?_ ?_
   · simp only [zz,reduceCtorEq,J0 hi,List.length_map];rw [Z1 (by omega)];simp;omega
   simp only [zz,reduceCtorEq,J0 hi,List.length_map];exact⟨s+ls[i].length,⟨by rw [Z1] <;> omega,by rw [Z1] <;> omega⟩,by omega⟩
 · intro s hgo;refine⟨fun h=>?_,fun _=>?_⟩
   · exfalso;simp only [zz,reduceCtorEq,List.length_map,Nat.lt_irrefl]at h
   simp only [List.map_nil,List.sum_nil]at hgo;refine Yv Z9w ⟨_,rfl,?_⟩ (fun h=>by cases h) ⟨s,by omega,by simp only [zz,reduceCtorEq],_,rfl,?_⟩
   · simp [Y1,PK.kinds,HasKs,HasK,IntKind.min,IntKind.max,IntKind.signed,IntKind.bits,den];omega
   refine Wc ls (fun _ l (a:List Par)=>a++l.flatten) (fun i a=>[.slice (a.map Par.enc),.int .i64 i]) [] ls.flatten (by simp) 1 (fun _ _=>rfl) rfl ?_ ?_
   · intro i hi a hgo;refine⟨fun _=>⟨by simp only [zz,reduceCtorEq] <;> omega,?_⟩,fun h=>?_⟩;rotate_left
     · exfalso;simp only [zz,reduceCtorEq,List.length_map,hi]at h
     have hl:a.length+ls[i].length≤1000000:=by
       have:=congrArg List.length hgo;simp only [List.length_append,List.flatten_cons,List.length_flatten]at this;omega
     refine⟨by simp only [zz,reduceCtorEq,J0 hi,List.length_map,List.length_append] <;> omega,?_⟩;simp only [zz,reduceCtorEq,J0 hi,List.length_map];exact⟨a++ls[i],⟨by simp,by rw [Z1] <;> omega⟩,by rw [List.append_assoc];exact hgo⟩
   · intro a hgo;refine⟨fun h=>?_,fun _=>?_⟩
     · exfalso;simp only [zz,reduceCtorEq,List.length_map,Nat.lt_irrefl]at h
     have:a=ls.flatten:=by simpa using hgo
     subst this;simp only [zz,reduceCtorEq];exact hK
noncomputable def t38:R:=let x0:List K:=[.int .i64,.int .i64];let x1:T:=Vl (.idx (Va 12) (Va 13) 1 (.int .i64)) .lnil;let x2:T:=Vl (Va 1) (Vl (Va 2) .lnil);let x3:T:=Vl (Va 4) (Vl (Va 5) .lnil);let x4:T:=.idx (Va 12) (Va 13) 0 (.int .i64);.call none (.fn 67) [Vl (Va 0) x2] [.cell (.slice x0),.cell (.int .i64)] (.call none (.fn 67) [Vl (Va 3) x3] [.cell (.slice x0),.cell (.int .i64)] (.ite (.ite (.o2 .ne (Va 8) (Vn 0)) (.bool true) (.o2 .ne (Va 10) (Vn 0))) (.ret [.d (.bool false)]) (.fact (.o2 .le (.o1 .len (Va 2)) (Vn 140737488355328)) (.loop 0 [Vn 0] [.int .i64] (.ite (.o2 .lt (Va 11) (.o1 .len (Va 2))) (.need (.o2 .le (Vn 0) (Va 11)) (.ite (.o2 .eq (.idx (Va 2) (Va 11) 0 .str) (Va 6)) (.again 0 [.o2 (.add .i64) (Va 11) (Vn 1)]) (.call none (.fn 98) [.push (.push .nils (Vl (Va 7) .lnil)) (Vl (Va 9) .lnil)] [.cell (.slice x0)] (.fact (.o2 .le (.o1 .len (Va 12)) (Vn 140737488355328)) (.loop 1 [Vn 0] [.int .i64] (.ite (.o2 .lt (Va 13) (.o1 .len (Va 12))) (.need (.o2 .le (Vn 0) (Va 13)) (.call none (.fn 30) [Vl (Va 0) x2,.idx (Va 2) (Va 11) 0 .str,Vl x4 x1] [.agg x0,.cell .bool] (.call none (.fn 30) [Vl (Va 3) x3,.idx (Va 2) (Va 11) 0 .str,Vl x4 x1] [.agg x0,.cell .bool] (.ite (.ite (.ite (.o1 .not (Va 16)) (.bool true) (.o1 .not (Va 19))) (.bool true) (.o1 .not (.o2 .band (.o2 .eq (Va 14) (Va 17)) (.o2 .band (.o2 .eq (Va 15) (Va 18)) (.bool true))))) (.ret [.d (.bool false)]) (.again 1 [.o2 (.add .i64) (Va 13) (Vn 1)]))))) (.again 0 [.o2 (.add .i64) (Va 11) (Vn 1)]))))))) (.ret [.d (.bool true)]))))))
theorem Zge:fnO Tryz.prog mdA 38 [.agg liKs,.agg liKs,.cell .str]=t38:=by kernel_rfl
def Z7e (a b:Lis) (s:List UInt8):Prop:=∀c∈a.cues,c.num≠s→∀p,p.Ok→∃v,Z15 a c.num p=(v,true)∧Z15 b c.num p=(v,true)
theorem Z3b:Contract Tryz.prog 38 fun args K=>∃(a b:Lis) (s:List UInt8),a.Ok∧b.Ok∧Z6 Y2 a=0∧Z6 Y2 b=0∧Z7e a b s∧args=[.agg a.enc,.agg b.enc,.str s]∧K [.d (.bool true)]:=by
 refine .of (by kernel_rfl) Zge ?_;rintro _ K ⟨a,b,s,ha,hb,ca,cb,hv,rfl,hK⟩ hsm;refine⟨a.enc++b.enc++[.str s],rfl,by exact((Lis.has ha).append (Lis.has hb)).append (ks':=[.str]) ⟨trivial,trivial⟩,?_⟩;have fa:Z6Q a=(J9 a.cues,0):=by simp [Z6Q,ca]
 have fb:Z6Q b=(J9 b.cues,0):=by simp [Z6Q,cb]
 have hRA:=Zo ha ca;have hRB:=Zo hb cb;refine Z0 Z5S ⟨a,ha,by simp only [zz,reduceCtorEq,Lis.enc],_,rfl,?_⟩;refine Z0 Z5S ⟨b,hb,by simp only [zz,reduceCtorEq,Lis.enc],_,rfl,?_⟩;rw [fa,fb];refine W3 (by simp only [zz,reduceCtorEq,Lis.enc]) ?_;intro _;have hlen:=(Wb ca).len;refine Wc a.cues (fun _ _ (_:Unit)=>()) (fun i _=>[.int .i64 i]) () () rfl 0 (fun _ _=>rfl) rfl ?_ ?_
 · intro i hi _ _;refine⟨fun _=>⟨by simp only [zz,reduceCtorEq,Lis.enc] <;> omega,?_⟩,fun h=>?_⟩;rotate_left
   · exfalso;simp only [zz,reduceCtorEq,Lis.enc,List.length_map,hi]at h
   by_cases hn:a.cues[i].num=s
   · refine Z4 (by simp only [zz,reduceCtorEq,Lis.enc,J0 hi,Cue.enc];simp [hn]) ?_;simp only [zz,reduceCtorEq,Lis.enc];refine⟨(),?_⟩;rw [Z1] <;> omega
   refine W3 (by simp only [zz,reduceCtorEq,Lis.enc,J0 hi,Cue.enc];simp [hn]) ?_;have hpa:∀p∈J9 a.cues++J9 b.cues,p.Ok:=fun p hp=>by
     rcases List.mem_append.1 hp with h|h
     · exact(Z5D hRA p (Yu.1 h)).1
     · exact(Z5D hRB p (Yu.1 h)).1
   refine Z0 Z9I ⟨[J9 a.cues,J9 b.cues],?_,by simp,by have:=WG hRA;have:=WG hRB;simp;omega,by simp only [zz,reduceCtorEq,Lis.enc],_,rfl,?_⟩
   · intro l hl p hp;refine hpa p ?_;simp at hl;rcases hl with rfl|rfl
     · exact List.mem_append_left _ hp
     · exact List.mem_append_right _ hp
   have e2: [J9 a.cues,J9 b.cues].flatten=J9 a.cues++J9 b.cues:=by simp
   rw [e2];intro _;refine Wc (J9 a.cues++J9 b.cues) (fun _ _ (_:Unit)=>()) (fun k _=>[.int .i64 k]) () () rfl 0 (fun _ _=>rfl) rfl ?_ ?_
   · intro k hk _ _;have hkm:=List.getElem_mem hk;refine⟨fun _=>⟨by simp only [zz,reduceCtorEq,Lis.enc] <;> omega,?_⟩,fun h=>?_⟩;rotate_left
     · exfalso;simp only [zz,reduceCtorEq,Lis.enc,List.length_map,hk]at h
     obtain⟨v,v1,v2⟩:=hv _ (List.getElem_mem hi) hn (J9 a.cues++J9 b.cues)[k] (hpa _ hkm);refine Z0 Z3D ⟨a,a.cues[i].num,(J9 a.cues++J9 b.cues)[k],ha,hpa _ hkm,by simp only [zz,reduceCtorEq,Lis.enc,J0 hi,J0 hk,Cue.enc,Par.enc],_,rfl,?_⟩;rw [v1];refine Z0 Z3D ⟨b,a.cues[i].num,(J9 a.cues++J9 b.cues)[k],hb,hpa _ hkm,by simp only [zz,reduceCtorEq,Lis.enc,J0 hi,J0 hk,Cue.enc,Par.enc],_,rfl,?_⟩;rw [v2];refine W3 (by simp only [zz,reduceCtorEq,Lis.enc,Val.enc]) ?_;simp only [zz,reduceCtorEq,Lis.enc];refine⟨(),?_⟩;have hkl:(J9 a.cues++J9 b.cues).length≤1000000:=by have:=WG hRA;have:=WG hRB;simp only [List.length_append];omega
     rw [Z1] <;> omega
   · intro _ _;refine⟨fun h=>?_,fun _=>?_⟩
     · exfalso;simp only [zz,reduceCtorEq,Lis.enc,List.length_map,Nat.lt_irrefl]at h
     simp only [zz,reduceCtorEq,Lis.enc,Z8q _ _ (show(0:Nat)≠1 by decide)];refine⟨(),?_⟩;rw [Z1] <;> omega
 · intro _ _;refine⟨fun h=>?_,fun _=>?_⟩
   · exfalso;simp only [zz,reduceCtorEq,Lis.enc,List.length_map,Nat.lt_irrefl]at h
   simp only [zz,reduceCtorEq,Lis.enc];exact hK
theorem Z3c {l:Lis} (h:Z6 Y2 l=0) {i:Nat} (hi:i < l.cues.length) (p:Par):Z15 l l.cues[i].num p=(J4 l.cues p (i+1),true):=by
 obtain⟨h1,h2,_⟩:=Z3a h hi;unfold Z15;rw [if_neg (by simp [h1]),h2]
structure Less (l:Lis) (A:List Cue) (c:Cue) (B:List Cue) (out:List Cue):Prop where
 len:out.length+1=l.cues.length
 ck:Z6 Y2 {l with cues:=out}=0
 ok:Lis.Ok {l with cues:=out}
 nums:out.map (·.num)=(A++B).map (·.num)
theorem Jq {l:Lis} (h:Z6 Y2 l=0) {P Q:List Cue} {c:Cue} (he:l.cues=P++c::Q) (p:Par):Z15 l c.num p=(vl (c::P.reverse) p,true):=by
 have hi:P.length < l.cues.length:=by rw [he];simp
 have hc:l.cues[P.length]=c:=by
   have:l.cues[P.length]? =some c:=by rw [he];simp
   exact(List.getElem?_eq_some_iff.1 this).2
 have:=Z3c h hi p;rw [hc]at this;rw [this,JE _ p _ (by omega),he,show P++c::Q=(P++[c])++Q by simp,List.take_left' (by simp)];simp
structure RecF (l:Lis) (s:List UInt8) (es:List Ent) (only:Bool) (out:List Cue):Prop where
 ok:Lis.Ok {l with cues:=out}
 ck:Z6 Y2 {l with cues:=out}=0
 len:out.length≤l.cues.length+1
 val:∀e∈es,Z15 {l with cues:=out} s e.pa=(e.va,true)
 alike:only=true→Z7e l {l with cues:=out} s
 nums:(out.map (·.num)).filter (fun x=>!(x==s))=(l.cues.map (·.num)).filter (fun x=>!(x==s))
structure Swap (l:Lis) (A:List Cue) (B:List Cue) (c':Cue):Prop where
 ck:Z6 Y2 {l with cues:=A++c'::B}=0
 ok:Lis.Ok {l with cues:=A++c'::B}
 alike:∀s,Z7e l {l with cues:=A++c'::B} s
theorem Za2 {l:Lis} {A B:List Cue} {c c':Cue} (hl:l.Ok) (h:Z6 Y2 l=0) (he:l.cues=A++c::B) (h16:J5 c'=0) (hco:c'.Ok) (hn:c'.num=c.num) (hv:∀p,vl (c'::A.reverse) p=vl (c::A.reverse) p):Swap l A B c':=by
 have hRL:=Wb h;have hnum:(A++c'::B).map (·.num)=l.cues.map (·.num):=by rw [he];simp [hn]
 have hlen:(A++c'::B).length=l.cues.length:=by rw [he];simp
 have hx:∀x∈A++c'::B,x∈l.cues∨x=c':=fun x hx=>by rw [he];simp at hx ⊢;rcases hx with h|h|h <;> simp [h]
 have hck:Z6 Y2 {l with cues:=A++c'::B}=0:=by
   refine Z0z (by exact Z2Z (l:=l) h) (by show(A++c'::B).length≤64;have:=hRL.len;omega) (fun x hx'=>?_) (Z2f hnum hRL.rising);rcases hx x hx' with h|rfl
   · exact hRL.cues x h
   · exact h16
 refine⟨hck,{hl with cues:=fun x hx'=>?_},fun s x hxl _ p _=>?_⟩
 · rcases hx x hx' with h|rfl
   · exact hl.cues x h
   · exact hco
 · rw [he]at hxl;rcases List.mem_append.1 hxl with hm|hm
   · obtain⟨P,Q,rfl⟩:=List.append_of_mem hm;exact⟨_,Jq h (P:=P) (Q:=Q++c::B) (by rw [he];simp) p,Jq hck (P:=P) (Q:=Q++c'::B) (by simp) p⟩
   rcases List.mem_cons.1 hm with rfl|hm
   · refine⟨_,Jq h he p,?_⟩;have:=Jq hck (P:=A) (Q:=B) (c:=c') rfl p;rw [hn,hv]at this;exact this
   · obtain⟨P,Q,rfl⟩:=List.append_of_mem hm;refine⟨_,Jq h (P:=A++c::P) (Q:=Q) (by rw [he];simp) p,?_⟩;have:=Jq hck (P:=A++c'::P) (Q:=Q) (c:=x) (by simp) p;rw [this];have:=Z7h hv p (x::P.reverse);simpa using this
theorem ZeY {l:Lis} {A Y:List Cue} (h:Z6 Y2 {l with cues:=A++Y}=0):Z6 Y2 {l with cues:=Y}=0:=by
 have hRL:=Wb h;refine Z0z (by exact Z2Z (l:= {l with cues:=A++Y}) h) ?_ (fun x hx=>hRL.cues x (List.mem_append_right _ hx)) (hRL.rising.sublist (List.sublist_append_right A Y));have:=hRL.len;simp at this ⊢;omega
theorem Z0X (cs:List Cue) (n:Nat) (q:Ent→Bool):(Yl cs n).filter q=((J9 cs).filter fun p=>q ⟨p,J4 cs p n⟩).map fun p=>(⟨p,J4 cs p n⟩:Ent):=by
 unfold Yl;rw [List.filter_map];rfl
theorem ZcU {A B:List Cue} {c c':Cue}:(A++c::B).set A.length c'=A++c'::B:=by
 rw [List.set_append_right _ _ (Nat.le_refl _)];simp
theorem Z5l {l:Lis} {s:List UInt8} {A B:List Cue} {c:Cue} (hA:Around l s A c B):l.cues[upto l s - 1]? =some c:=by
 rw [hA.n,Nat.add_sub_cancel,hA.eq];simp
theorem YU {l:Lis} {s:List UInt8} {A B:List Cue} {c:Cue} (hA:Around l s A c B) (p:Par):J4 l.cues p (A.length+1)=vl (c::A.reverse) p∧J4 l.cues p A.length=vl A.reverse p:=by
 have e:l.cues=(A++[c])++B:=by rw [hA.eq];simp
 constructor
 · rw [JE _ p _ (by rw [hA.eq];simp),e,List.take_left' (by simp)];simp
 · rw [JE _ p _ (by rw [hA.eq];simp),hA.eq,List.take_left' rfl]
theorem Z7c {l:Lis} {s:List UInt8} {A B:List Cue} {c:Cue} (hA:Around l s A c B):∀x∈c::A,∀p,W8 p x=true→p∈J9 l.cues:=fun x hx p hp=>Z6w hp (by rw [hA.eq];simp at hx ⊢;rcases hx with h|h <;> simp [h])
theorem Z7Z {l:Lis} {s:List UInt8} {A B:List Cue} {c:Cue} (hl:l.Ok) (hA:Around l s A c B) (h1:Yg l s=0):Z2M l s=(zeroL,5)∨∃c',Z2M l s=({l with cues:=A++c'::B},0)∧Swap l A B c'∧c'.block=true∧c'.num=c.num∧∀p Z,vl (c'::Z) p=vl (c::A.reverse) p:=by
 have hRL:=Wb hA.ck;have hRT:=Zo hl hA.ck;unfold Z2M;rw [if_neg (by simp [h1]),Z5l hA];simp only;have hc16:=hRL.cues c (by rw [hA.eq];simp);have hco:=hl.cues c (by rw [hA.eq];simp);split
 · exact .inl rfl
 rename_i h128;have hbe:Zs l.cues (upto l s) c=((J9 l.cues).filter fun p=>decide (J4 l.cues p (A.length+1)≠hval)&&!W8 p c).map fun p=>(⟨p,J4 l.cues p (A.length+1)⟩:Ent):=by
   unfold Zs;rw [hA.n,Z0X]
 have hkey:∀p Z,vl ({setC c (Zs l.cues (upto l s) c) 1 with block:=true}::Z) p=vl (c::A.reverse) p:=fun p Z=>by
   rw [hbe,Zbv (Z07 _) (Z7c hA) (fun p=>J4 l.cues p (A.length+1)) (fun p=>(YU hA p).1)];exact(YU hA p).1
 have hE:RightEs (Zs l.cues (upto l s) c):=by
   rw [hbe];exact .ofPars ((Jj (by simp [Jp])).filter _) (fun p hp=>(ZG hRT p (List.mem_filter.1 hp).1).2) (fun p=>J4 l.cues p (A.length+1)) fun p=>JN hA.ck p _
 have h16:J5 {setC c (Zs l.cues (upto l s) c) 1 with block:=true}=0:=Z1J (b:=true) (Z10 hc16 hE (by decide) (by have:=(Z00 hc16).one;omega) h128);have hok:({setC c (Zs l.cues (upto l s) c) 1 with block:=true}:Cue).Ok:=by
   have:=YM hco (es:=Zs l.cues (upto l s) c) (fun e he=>Z1r hRT _ e (List.mem_filter.1 he).1) (p:=1) ⟨by decide,by decide⟩;exact {this with}
 refine .inr ⟨_,?_,Za2 hl hA.ck hA.eq h16 hok rfl (fun p=>hkey p _),rfl,rfl,hkey⟩;have:l.cues.set (upto l s - 1) {setC c (Zs l.cues (upto l s) c) 1 with block:=true}=A++ {setC c (Zs l.cues (upto l s) c) 1 with block:=true}::B:=by
   rw [hA.n,Nat.add_sub_cancel]
   conv=>lhs;arg 1;rw [hA.eq]
   rw [ZcU]
 rw [this]
theorem Z5r {l:Lis} {s:List UInt8} {A B:List Cue} {c:Cue} (hl:l.Ok) (hA:Around l s A c B) (h1:Yg l s=0):YI l s=(zeroL,5)∨∃c',YI l s=({l with cues:=A++c'::B},0)∧Swap l A B c'∧c'.block=false:=by
 have hRL:=Wb hA.ck;have hRT:=Zo hl hA.ck;unfold YI;rw [if_neg (by simp [h1]),Z5l hA];simp only;have hc16:=hRL.cues c (by rw [hA.eq];simp);have hco:=hl.cues c (by rw [hA.eq];simp);rw [hA.n,Nat.add_sub_cancel];split
 · exact .inl rfl
 rename_i h128;have hlc:Yp l.cues A.length c= {c with moves:=leave c fun p=>vl A.reverse p,block:=false}:=by
   unfold Yp;congr 1;congr 1;funext p;exact(YU hA p).2
 have hue:JL l.cues A.length c=((J9 l.cues).filter fun p=>decide (vl (c::A.reverse) p=hval)&&decide (vl A.reverse p≠hval)&&!W8 p {c with moves:=leave c fun p=>vl A.reverse p,block:=false}).map fun p=>(⟨p,vl (c::A.reverse) p⟩:Ent):=by
   unfold JL;rw [Z0X,hlc];simp only [fun p=>(YU hA p).1,fun p=>(YU hA p).2]
 have hE:RightEs (JL l.cues A.length c):=by
   unfold JL;rw [Z0X];exact .ofPars ((Jj (by simp [Jp])).filter _) (fun p hp=>(ZG hRT p (List.mem_filter.1 hp).1).2) (fun p=>J4 l.cues p (A.length+1)) fun p=>JN hA.ck p _
 have hl16:=Z8A hc16 l.cues A.length;have h16:J5 (setC (Yp l.cues A.length c) (JL l.cues A.length c) 1)=0:=Z10 hl16 hE (by decide) (by have:=(Z00 hl16).one;omega) h128;have hlo:(Yp l.cues A.length c).Ok:= {hco with moves:=fun m hm=>hco.moves m (List.mem_filter.1 hm).1}
 have hok:=YM hlo (es:=JL l.cues A.length c) (fun e he=>Z1r hRT _ e (List.mem_filter.1 he).1) (p:=1) ⟨by decide,by decide⟩;refine .inr ⟨_,?_,Za2 hl hA.ck hA.eq h16 hok rfl (fun p=>?_),rfl⟩
 · have:l.cues.set A.length (setC (Yp l.cues A.length c) (JL l.cues A.length c) 1)=A++setC (Yp l.cues A.length c) (JL l.cues A.length c) 1::B:=by
     conv=>lhs;arg 1;rw [hA.eq]
     rw [ZcU]
   rw [this]
 · rw [hue,hlc];exact Z7m (Z00 hc16).rc.rising (Z07 _) (Z7c hA) p
theorem Z8O {l:Lis} (hl:l.Ok) (h:Z6 Y2 l=0):Z6 Y2 {l with cues:=Yd l.cues 0 l.cues}=0∧Lis.Ok {l with cues:=Yd l.cues 0 l.cues}∧(∀s,Z7e l {l with cues:=Yd l.cues 0 l.cues} s)∧
   Z7n {l with cues:=Yd l.cues 0 l.cues}=({l with cues:=Yd l.cues 0 l.cues},0):=by
 have hRL:=Wb h;have hris:∀c∈l.cues,Wj c.moves:=fun c hc=>(Z00 (hRL.cues c hc)).rc.rising
 have hlen:=Z1Z l.cues l.cues 0;have hget:∀i (hi:i < l.cues.length),(Yd l.cues 0 l.cues)[i]'(by omega)=Z20 l.cues i l.cues[i]:=fun i hi=>by
   have:=WE l.cues l.cues 0 i;rw [List.getElem?_eq_getElem hi,List.getElem?_eq_getElem (by omega)]at this;simpa using this
 have hin:∀x∈Yd l.cues 0 l.cues,∃i,∃hi:i < l.cues.length,x=Z20 l.cues i l.cues[i]:=fun x hx=>by
   obtain⟨i,hi,rfl⟩:=List.mem_iff_getElem.1 hx;exact⟨i,by omega,hget i (by omega)⟩
 have hck:Z6 Y2 {l with cues:=Yd l.cues 0 l.cues}=0:=by
   refine Z0z (by exact Z2Z (l:=l) h) (by show(Yd l.cues 0 l.cues).length≤64;have:=hRL.len;omega) (fun x hx=>?_) (Z2f (Z8V (Z8N l.cues)) hRL.rising);obtain⟨i,hi,rfl⟩:=hin x hx;have hC:=Z00 (hRL.cues _ (List.getElem_mem hi));exact ZL (hRL.cues _ (List.getElem_mem hi)) (hC.rc.filter _) (Nat.le_trans (List.length_filter_le _ _) hC.len)
 refine⟨hck,{hl with cues:=fun x hx=>?_},fun s x hx _ p _=>?_,?_⟩
 · obtain⟨i,hi,rfl⟩:=hin x hx;have hco:=hl.cues _ (List.getElem_mem hi);exact {hco with moves:=fun m hm=>hco.moves m (List.mem_filter.1 hm).1}
 · obtain⟨i,hi,rfl⟩:=List.mem_iff_getElem.1 hx;refine⟨_,Z3c h hi p,?_⟩;have:=Z3c hck (i:=i) (by show i < (Yd l.cues 0 l.cues).length;omega) p;simp only [hget i hi]at this;have e:(Z20 l.cues i l.cues[i]).num=l.cues[i].num:=rfl;rw [e]at this;rw [this,Z5s hris p _ (by omega)]
 · unfold Z7n;rw [if_neg (by simp [hck])];simp only [Z8M hris]
theorem Zfr {n:Nat} (h:n < 256):HasK (.int .u8) (.int .u8 (n:Int)):=by
 simp only [HasK,IntKind.min,IntKind.max,IntKind.signed,IntKind.bits,true_and];constructor <;> (simp;try omega)
theorem u8_of {d:D} (h:HasK (.int .u8) d):∃n:Nat,d=.int .u8 (n:Int)∧n < 256:=by
 cases d <;> simp only [HasK]at h
 obtain⟨rfl,h1,h2⟩:=h;simp only [IntKind.min,IntKind.max,IntKind.signed,IntKind.bits]at h1 h2;rename_i v;have h1':0≤v:=by simpa using h1
 have h2':v≤255:=by simpa using h2
 exact⟨v.toNat,by rw [Int.toNat_of_nonneg h1'],by omega⟩
theorem ZeE {a n:Nat} (ha:a < 256) (hn:0 < n) (hn2:n < 1000000):wr64 ((wr64 (a:Int)).tmod (n:Int))=((a % n:Nat):Int):=by
 have h1:((a:Int)).tmod (n:Int)=((a % n:Nat):Int):=by
   rw [Int.tmod_eq_emod_of_nonneg (by omega)];simp
 have:=Nat.mod_lt a hn;rw [Z1 (n:=(a:Int)) (by omega),h1,Z1 (by omega)]
noncomputable def t10:R:=let x0:List K:=liKs;let x2:T:=.o2 .ne (.o2 (.add .i64) (.o2 (.add .i64) (Va 8) (Va 12)) (Va 16)) (Vn 0);let x3:T:=Vl (Va 1) (Vl (Va 2) .lnil);let x4:T:=.o1 .len (Va 2);let x5:T:=.o1 .len (Va 7);let x6:T:=.o1 .not (Va 17);let x7:T:=.o1 .not (Va 18);let x8:T:=Vl (Va 14) (Vl (Va 15) .lnil);let x9:T:=.o1 .not (Va 19);let x10:T:=.o1 .len (Va 11);let x11:T:=.o2 .le x4 (Vn 140737488355328);let x12:T:=.o2 .ne x5 x4;let x14:T:=.o2 .ne (Va 23) (Vn 0);let x1:T:=.o2 (.rem .i64) (.o1 (.conv .i64) (Va 3)) x4;let x13:T:=.o1 .not (.idx (Va 7) x1 4 .bool);.call none (.fn 27) [Vl (Va 0) x3] [.cell .bool] (.fact (.ite (.o1 .not (.o1 .not (Va 4))) x11 (.bool true)) (.ite (.ite (.o1 .not (Va 4)) (.bool true) (.o2 .eq x4 (Vn 0))) (.call none (.fn 23) [] [.cell .bool] (.ret [.d (Va 5)])) (.fact x11 (.need (.o2 .ne x4 (Vn 0)) (.need (.o2 .le (Vn 0) x1) (.need (.o2 .lt x1 x4) (.call none (.fn 39) [Vl (Va 0) x3,.idx (Va 2) x1 0 .str] [.agg x0,.cell (.int .i64)] (.call none (.fn 40) [Vl (Va 0) x3,.idx (Va 2) x1 0 .str] [.agg x0,.cell (.int .i64)] (.call none (.fn 41) [Vl (Va 0) x3] [.agg x0,.cell (.int .i64)] (.ite (.ite (.o2 .eq (Va 8) (Vn 5)) (.bool true) (.o2 .eq (Va 12) (Vn 5))) (.call none (.fn 23) [] [.cell .bool] (.ret [.d (Va 17)])) (.call (some (.o1 .not x2)) (.fn 38) [Vl (Va 0) x3,Vl (Va 5) (Vl (Va 6) (Vl (Va 7) .lnil)),.str []] [.cell .bool] (.call (some (.o1 .not (.ite x2 (.bool true) x6))) (.fn 38) [Vl (Va 0) x3,Vl (Va 9) (Vl (Va 10) (Vl (Va 11) .lnil)),.str []] [.cell .bool] (.call (some (.o1 .not (.ite (.ite x2 (.bool true) x6) (.bool true) x7))) (.fn 38) [Vl (Va 0) x3,Vl (Va 13) x8,.str []] [.cell .bool] (.fact (.ite (.o1 .not (.ite (.ite (.ite x2 (.bool true) x6) (.bool true) x7) (.bool true) x9)) (.o2 .le x5 (Vn 140737488355328)) (.bool true)) (.fact (.ite (.o1 .not (.ite (.ite (.ite (.ite x2 (.bool true) x6) (.bool true) x7) (.bool true) x9) (.bool true) x12)) (.o2 .le x10 (Vn 140737488355328)) (.bool true)) (.need (.ite (.o1 .not (.ite (.ite (.ite (.ite (.ite x2 (.bool true) x6) (.bool true) x7) (.bool true) x9) (.bool true) x12) (.bool true) (.o2 .ne x10 x4))) (.o2 .lt x1 x5) (.bool true)) (.need (.ite (.o1 .not (.ite (.ite (.ite (.ite (.ite (.ite x2 (.bool true) x6) (.bool true) x7) (.bool true) x9) (.bool true) x12) (.bool true) (.o2 .ne x10 x4)) (.bool true) x13)) (.o2 .lt x1 x10) (.bool true)) (.ite (.ite (.ite (.ite (.ite (.ite (.ite (.ite x2 (.bool true) x6) (.bool true) x7) (.bool true) x9) (.bool true) x12) (.bool true) (.o2 .ne x10 x4)) (.bool true) x13) (.bool true) (.idx (Va 11) x1 4 .bool)) (.ret [.d (.bool false)]) (.call none (.fn 41) [Vl (Va 13) x8] [.agg x0,.cell (.int .i64)] (.call (some (.o1 .not x14)) (.fn 25) [Vl (Va 20) (Vl (Va 21) (Vl (Va 22) .lnil)),Vl (Va 13) x8] [.cell .bool] (.ite (.ite x14 (.bool true) (.o1 .not (Va 24))) (.ret [.d (.bool false)]) (.need (.o2 .le x1 x5) (.call none (.fn 38) [Vl (Va 5) (Vl (Va 6) (Vl (.sub (Va 7) x1 x5) .lnil)),Vl (Va 0) x3,.str []] [.cell .bool] (.call (some (Va 25)) (.fn 23) [] [.cell .bool] (.ret [.d (.ite (Va 25) (Va 26) (.bool false))])))))))))))))))))))))))))
theorem Zgt:fnO Tryz.prog mdA 10 [.agg liKs,.cell (.int .u8)]=t10:=by kernel_rfl
set_option maxHeartbeats 4000000 in
theorem law10_typed:Contract Tryz.prog 10 fun args K=>∃(l:Lis) (w:Nat),l.Ok∧w < 256∧args=[.agg l.enc,.int .u8 w]∧K [.d (.bool true)]:=by
 refine .of (by kernel_rfl) Zgt ?_;rintro _ K ⟨l,w,hl,hw,rfl,hK⟩ hsm;refine⟨l.enc++[.int .u8 w],rfl,by exact(Lis.has hl).append (ks':=[.int .u8]) ⟨Zfr hw,trivial⟩,?_⟩;refine Z0 ZbX ⟨l,hl,by simp only [zz,reduceCtorEq,Lis.enc],fun b hb=>⟨_,rfl,?_⟩⟩;intro _;by_cases hg:b=true∧0 < l.cues.length;rotate_left
 · refine Z4 ?_ (Z0 Z0B ⟨rfl,_,rfl,by simp only [zz,reduceCtorEq,Lis.enc];exact hK⟩);cases b
   · simp only [zz,reduceCtorEq,Lis.enc]
   · have h0:l.cues.length=0:=by
       rcases Nat.eq_zero_or_pos l.cues.length with h|h
       · exact h
       · exact absurd ⟨rfl,h⟩ hg
     simp only [zz,reduceCtorEq,Lis.enc,List.length_map,h0];rfl
 obtain⟨rfl,h0⟩:=hg;obtain⟨hck,h8⟩:=hb rfl;have hr:wr64 ((wr64 (w:Int)).tmod (l.cues.length:Int))=((w % l.cues.length:Nat):Int):=ZeE hw h0 (by omega);have hi:=Nat.mod_lt w h0;generalize w % l.cues.length=i at hr hi;have hne:l.cues≠[]:=fun e=>by rw [e]at h0;simp at h0
 refine W3 (by simp only [zz,reduceCtorEq,Lis.enc,List.length_map];simp [hne]) ?_;intro _;refine⟨by simp only [zz,reduceCtorEq,Lis.enc,List.length_map];simp [hne],by simp only [zz,reduceCtorEq,Lis.enc,List.length_map,hr] <;> omega,by simp only [zz,reduceCtorEq,Lis.enc,List.length_map,hr] <;> omega,?_⟩;obtain⟨q1,q2,q3⟩:=Z3a hck hi;obtain⟨A,c,B,hA⟩:=Z0o hl q1;have hAl:A.length=i:=by have:=hA.n;omega
 have hcl:l.cues.length=A.length+(B.length+1):=by rw [hA.eq];simp
 refine Z0 Z8F ⟨l,l.cues[i].num,hl,by simp only [zz,reduceCtorEq,Lis.enc,List.length_map,hr,J0 hi,Cue.enc],_,rfl,?_⟩;refine Z0 Z4w ⟨l,l.cues[i].num,hl,by simp only [zz,reduceCtorEq,Lis.enc,List.length_map,hr,J0 hi,Cue.enc],_,rfl,?_⟩;refine Z0 Z9W ⟨l,hl,by simp only [zz,reduceCtorEq,Lis.enc],_,rfl,?_⟩;obtain⟨t1,t2,t3,t4⟩:=Z8O hl hck;have t5:Z7n l=({l with cues:=Yd l.cues 0 l.cues},0):=by unfold Z7n;rw [if_neg (by simp [hck])]
 rw [t5];generalize Yd l.cues 0 l.cues=T at t1 t2 t3 t4;rcases Z7Z hl hA q1 with hb|⟨cb,hb,Sb,bb,bn,bv⟩
 · rw [hb];refine Z4 (by simp only [zz,reduceCtorEq,Lis.enc]) (Z0 Z0B ⟨rfl,_,rfl,by simp only [zz,reduceCtorEq,Lis.enc];exact hK⟩)
 rcases Z5r hl hA q1 with hu|⟨cu,hu,Su,bu⟩
 · rw [hb,hu];refine Z4 (by simp only [zz,reduceCtorEq,Lis.enc] <;> simp) (Z0 Z0B ⟨rfl,_,rfl,by simp only [zz,reduceCtorEq,Lis.enc];exact hK⟩)
 rw [hb,hu];refine W3 (by simp only [zz,reduceCtorEq,Lis.enc] <;> simp) ?_;have w0:wr64 (wr64 (0+0)+0)=0:=by
   rw [show wr64 (0+0)=0 from Z1 ⟨by decide,by decide⟩];exact Z1 ⟨by decide,by decide⟩
 refine W6 Z3b true [.bool true] (by simp only [zz,reduceCtorEq,Lis.enc,w0]) (fun _=>⟨l,_,[],hl,Sb.ok,hck,Sb.ck,Sb.alike [],by simp only [zz,reduceCtorEq,Lis.enc],rfl⟩) (fun h=>by cases h) ?_;refine W6 Z3b true [.bool true] (by simp only [zz,reduceCtorEq,Lis.enc,w0]) (fun _=>⟨l,_,[],hl,Su.ok,hck,Su.ck,Su.alike [],by simp only [zz,reduceCtorEq,Lis.enc],rfl⟩) (fun h=>by cases h) ?_;refine W6 Z3b true [.bool true] (by simp only [zz,reduceCtorEq,Lis.enc,w0]) (fun _=>⟨l,_,[],hl,t2,hck,t1,t3 [],by simp only [zz,reduceCtorEq,Lis.enc],rfl⟩) (fun h=>by cases h) ?_;have gb:(A++cb::B).length=l.cues.length:=by rw [hcl];simp
 have gu:(A++cu::B).length=l.cues.length:=by rw [hcl];simp
 have ib:((A++cb::B).map Cue.enc).getD i []=cb.enc:=by rw [←hAl];simp
 have iu:((A++cu::B).map Cue.enc).getD i []=cu.enc:=by rw [←hAl];simp
 intro _ _;refine⟨by simp only [zz,reduceCtorEq,Lis.enc,List.length_map,w0,gb,gu,hr] <;> omega,by simp only [zz,reduceCtorEq,Lis.enc,List.length_map,w0,gb,gu,hr,ib,Cue.enc,bb] <;> omega,?_⟩;refine W3 (by simp only [zz,reduceCtorEq,Lis.enc,List.length_map,w0,gb,gu,hr,ib,iu,Cue.enc,bb,bu]) ?_;refine Z0 Z9W ⟨_,t2,by simp only [zz,reduceCtorEq,Lis.enc],_,rfl,?_⟩;rw [t4];refine W6 Za9 true [.bool true] (by simp only [zz,reduceCtorEq,Lis.enc]) (fun _=>⟨_,_,t2,t2,by simp only [zz,reduceCtorEq,Lis.enc],by rw [Z7p];rfl⟩) (fun h=>by cases h) ?_;refine W3 (by simp only [zz,reduceCtorEq,Lis.enc]) ?_;refine⟨by simp only [zz,reduceCtorEq,Lis.enc,List.length_map,gb,hr] <;> omega,?_⟩;have hlate:=ZeY (l:=l) (A:=A) (Y:=cb::B) Sb.ck;have hlo:Lis.Ok {l with cues:=cb::B}:= {hl with cues:=fun x hx=>Sb.ok.cues x (List.mem_append_right _ hx)}
 have hal:Z7e {l with cues:=cb::B} l []:=by
   intro x hx _ p _;rcases List.mem_cons.1 hx with rfl|hx
   · refine⟨_,Jq hlate (P:=[]) (Q:=B) (by simp) p,?_⟩;rw [bn,Jq hck hA.eq p,bv]
   · obtain⟨P,Q,hB⟩:=List.append_of_mem hx;subst hB;refine⟨_,Jq hlate (P:=cb::P) (Q:=Q) (by simp) p,?_⟩;rw [Jq hck (P:=A++c::P) (Q:=Q) (by rw [hA.eq];simp) p];have:=Z7h (Z:=[cb]) (Z':=c::A.reverse) (fun p=>bv p []) p (x::P.reverse);simp only [List.reverse_cons,List.reverse_append,List.append_assoc,List.cons_append,List.nil_append]at this ⊢;rw [this]
 refine Z0 Z3b ⟨{l with cues:=cb::B},l,[],hlo,hl,hlate,hck,hal,?_,_,rfl,?_⟩
 · simp only [zz,reduceCtorEq,Lis.enc,List.length_map,gb,hr];rw [←hAl];simp only [List.map_append,List.map_cons];rw [List.take_of_length_le (by simp;omega),List.drop_left' (by simp)]
 refine W6 Z0B true [.bool true] (by simp only [zz,reduceCtorEq,Lis.enc]) (fun _=>⟨rfl,rfl⟩) (fun h=>by cases h) ?_;simp only [zz,reduceCtorEq,Lis.enc];exact hK
theorem law10:Contract Tryz.prog 10 (Z7H Tryz.prog 10):=
 law10_typed.weaken fun args K _ h=>by
   obtain⟨h1,h2,hK⟩:=ZeO [.agg liKs,.cell (.int .u8)] (by kernel_rfl) h
   match args,h1 with
   | [a,b],_=>
     obtain⟨l,hl,rfl⟩:=Lis.ofAgg (h2 0 _ _ rfl rfl);obtain⟨w,rfl,hw⟩:=u8_of (h2 1 _ _ rfl rfl);exact⟨l,w,hl,hw,rfl,hK⟩
end Go.Sx.La
