/-
 Part 11 of the proof: the executor over the kit's code with its soundness, or contracts of functions.
-/
import Derived.Test.YtihpfldadiiinaaGreatDoorECj
set_option linter.unusedSimpArgs false
set_option linter.unusedVariables false
set_option linter.unusedSectionVars false
set_option linter.defProp false
set_option maxRecDepth 100000
namespace Go.Sx.La
open Go Go.Sx Go.RowKit Go.Proofs
theorem Z1p {a b:List Cue} (h:a.map Ww=b.map Ww):a.map (·.num)=b.map (·.num):=by
 have:=congrArg (List.map fun c:Cue=>c.num) h;simpa [List.map_map,Function.comp_def,Ww]using this
theorem Z6k {a b:List Cue} (h:a.map (·.num)=b.map (·.num)) (hb:Yp b):Yp a:=by
 have e:∀l:List Cue,Yp l↔(l.map (·.num)).Pairwise fun x y=>Yd x < Yd y:=by
   intro l;rw [List.pairwise_map];rfl
 rw [e]at hb ⊢;rw [h];exact hb
theorem Z6u:∀ {es:List Ent},(es.map (·.pa)).Nodup→∀ {x y:Ent},x∈es→y∈es→x.pa=y.pa→x=y
 | [],_,_,_,h,_,_=>by cases h
 | e::es,hn,x,y,hx,hy,h=>by
   rw [List.map_cons,List.nodup_cons]at hn;rcases List.mem_cons.1 hx with h1|h1 <;> rcases List.mem_cons.1 hy with h2|h2
   · rw [h1,h2]
   · exact absurd (List.mem_map.2 ⟨y,h2,by rw [←h,h1]⟩) hn.1
   · exact absurd (List.mem_map.2 ⟨x,h1,by rw [h,h2]⟩) hn.1
   · exact Z6u hn.2 h1 h2 h
set_option maxHeartbeats 1000000 in
theorem Z1K {l:Lis} {s:List UInt8} {es:List Ent} (hl:l.Ok) (hes:∀e∈es,e.Ok) (h1:Wa l s=0) (h3:Wg es=0) (hr:(Zj l s es).2=0):
   (Zj l s es).1= {l with cues:=updateL l.cues (upto l s) es}∧(updateL l.cues (upto l s) es).length=l.cues.length∧Y6 Z2 {l with cues:=updateL l.cues (upto l s) es}=0∧
   (∀e∈es,W6 (updateL l.cues (upto l s) es) e.pa (upto l s)=e.va)∧(∀c∈updateL l.cues (upto l s) es,c.Ok):=by
 obtain⟨A,c,B,hA⟩:=Z06 hl h1;have hE:=Z0S hes h3;have hel:=Z1w h3;have hRL:=We hA.ck;have hn:=hA.n;have hlt:A.length < l.cues.length:=by rw [hA.eq];simp
 have hlen64:=hA.rt.len;have hself:Kin l.cues l.cues:=.self hRL.cues hl.cues;have hK:Kin l.cues (updL l.cues (A.length+1) es):=hself.fold (es:=es.filter (srcd l.cues (A.length+1))) (fun e he=>hes e (List.mem_filter.1 he).1) (fun e he=>hE.val e (List.mem_filter.1 he).1);have hlo:A.length < (updL l.cues (A.length+1) es).length:=by rw [hK.len];exact hlt
 have hul:updateL l.cues (A.length+1) es=(updL l.cues (A.length+1) es).set A.length (setC (updL l.cues (A.length+1) es)[A.length] (ownE l.cues (A.length+1) es) 1):=by
   unfold updateL;rw [Nat.add_sub_cancel,Z6O hlo]
 have hd16:=hK.ck _ (List.getElem_mem hlo);have hdo:=hK.ok _ (List.getElem_mem hlo);have howR:RightEs (ownE l.cues (A.length+1) es):=Z4l hE.es;have howO:∀e∈ownE l.cues (A.length+1) es,e.Ok:=fun e he=>hes e (List.mem_filter.1 he).1
 rw [hn];unfold Zj at hr ⊢;rw [if_neg (by simp [h1]),if_neg (by simp [h3]),hn]at hr ⊢;have hlen:(updateL l.cues (A.length+1) es).length=l.cues.length:=by rw [hul,List.length_set,hK.len]
 by_cases h8:128 < (setC (updL l.cues (A.length+1) es)[A.length] (ownE l.cues (A.length+1) es) 1).moves.length
 · rw [YA (c:=setC (updL l.cues (A.length+1) es)[A.length] (ownE l.cues (A.length+1) es) 1) (by show _∈updateL l.cues (A.length+1) es;rw [hul,List.mem_iff_getElem];exact⟨A.length,by simpa using hlo,by simp⟩) h8]at hr;cases hr
 have hck:∀x∈updateL l.cues (A.length+1) es,Z6 x=0∧x.Ok:=by
   intro x hx;rw [hul]at hx;rcases List.mem_or_eq_of_mem_set hx with hx|rfl
   · exact⟨hK.ck x hx,hK.ok x hx⟩
   · exact⟨Z3B hd16 howR (by decide) (by have:=(Z0V hd16).one;omega) h8,JO hdo howO ⟨by decide,by decide⟩⟩
 rw [YD (by show(updateL l.cues (A.length+1) es).length≤64;omega) (fun x hx=>(Z0V (hck x hx).1).len)];refine⟨rfl,hlen,?_,?_,fun x hx=>(hck x hx).2⟩
 · refine Z4W (by exact Z8E (l:=l) hA.ck) (by show(updateL l.cues (A.length+1) es).length≤64;omega) (fun x hx=>(hck x hx).1) ?_;exact Z6k (Z1p (Z1L _ _ _)) hRL.rising
 · intro e he;have hno:=hE.es.nodup;have hgo:A.length < (updateL l.cues (A.length+1) es).length:=by rw [hlen];exact hlt
   have hv:∀p,W6 (updateL l.cues (A.length+1) es) p (A.length+1)=match Ys (ownE l.cues (A.length+1) es) p with|some e=>e.va|none=>W6 (updL l.cues (A.length+1) es) p (A.length+1):=by
     intro p;rw [ZK _ p _ (by omega),ZK _ p _ (by omega),List.take_succ_eq_append_getElem hgo,List.take_succ_eq_append_getElem hlo,List.reverse_append,List.reverse_append];simp only [List.reverse_singleton,List.singleton_append];have e1:(updateL l.cues (A.length+1) es)[A.length]=setC (updL l.cues (A.length+1) es)[A.length] (ownE l.cues (A.length+1) es) 1:=by simp [hul]
     have e2:(updateL l.cues (A.length+1) es).take A.length=(updL l.cues (A.length+1) es).take A.length:=by rw [hul,List.take_set_of_le (Nat.le_refl _)]
     rw [e1,e2,ZeC howR.nodup];cases Ys (ownE l.cues (A.length+1) es) p <;> rfl
   rw [hv];by_cases hs:srcd l.cues (A.length+1) e=true
   · have hnone:Ys (ownE l.cues (A.length+1) es) e.pa=none:=by
       unfold Ys;rw [List.find?_eq_none];intro x hx hxe;have hxe:x.pa=e.pa:=by simpa using hxe
       have hx2:=(List.mem_filter.1 hx).2;unfold srcd at hs hx2;rw [hxe]at hx2;simp [hs]at hx2
     rw [hnone];simp only;have hs2:0≤src l.cues e.pa (A.length+1):=by simpa [srcd]using hs
     rcases Z5e (cs:=l.cues) (p:=e.pa) (n:=A.length+1) (by omega)with⟨q,_⟩|⟨i,hi,q1,q2,_,q4⟩
     · omega
     have hf:=Z2d (cs0:=l.cues) (n:=A.length+1) (i:=i) (e:=e) (by omega) (es.filter (srcd l.cues (A.length+1))) l.cues ((List.filter_sublist.map _).nodup hno) (List.mem_filter.2 ⟨he,hs⟩);have hio:i < (updL l.cues (A.length+1) es).length:=by rw [hK.len];exact hi
     have hf':(((updL l.cues (A.length+1) es)[i]?).map fun c=>(Y8 c.moves e.pa).map (·.va))=(l.cues[i]?).map fun c=>(Y8 c.moves e.pa).map fun _=>e.va:=hf
     rw [List.getElem?_eq_getElem hio,List.getElem?_eq_getElem hi]at hf';simp only [Option.map_some,Option.some.injEq]at hf';obtain⟨m,hm⟩:=Option.isSome_iff_exists.1 (show(Y8 l.cues[i].moves e.pa).isSome=true from q4);rw [hm]at hf';cases hm2:Y8 (updL l.cues (A.length+1) es)[i].moves e.pa with
     |none=>rw [hm2]at hf';simp at hf'
     | some m2=>
       rw [hm2]at hf';simp at hf';rw [Z5R hio (by rw [hK.len];omega) (by rw [Z9Z hK _ _ (by omega)];exact q1) m2 hm2];exact hf'
   · have hmem:e∈ownE l.cues (A.length+1) es:=List.mem_filter.2 ⟨he,by simpa using hs⟩;have hsome:Ys (ownE l.cues (A.length+1) es) e.pa=some e:=by
       unfold Ys;cases hf:(ownE l.cues (A.length+1) es).find? (fun x=>decide (x.pa=e.pa))with
       |none=>rw [List.find?_eq_none]at hf;have h9:=hf e hmem;simp at h9
       | some x=>
         have hx:=List.mem_of_find?_eq_some hf;have hxe:x.pa=e.pa:=by simpa using List.find?_some hf
         rw [Z6u howR.nodup hx hmem hxe]
     rw [hsome]
noncomputable def t6:R:=let x0:T:=.o1 .len (Va 2);let x1:T:=Vl (Va 10) (Vl (Va 11) .lnil);let x2:T:=.o1 .len (Va 11);let x3:T:=Vl (Va 10) (Vl (.sub (Va 11) (Vn 0) (Va 16)) .lnil);let x4:T:=Vl (Va 1) (Vl (.sub (Va 2) (Vn 0) (Va 16)) .lnil);let x5:T:=.o2 .eq (Va 12) (Vn 6);let x6:T:=.o2 .eq (Va 12) (Vn 5);let x7:T:=.o2 .ne (Va 13) (Vn 0);let x9:T:=Vl (Va 1) (Vl (Va 2) .lnil);let x10:T:=.o1 .not (Va 7);let x11:T:=.o1 .len (Va 4);let x12:T:=.o2 .le (Vn 0) (Va 16);let x13:T:=.o2 .ne (Va 8) (Vn 0);let x8:T:=.o2 .le x11 (Vn 140737488355328);.call none (.fn 27) [Vl (Va 0) x9] [.cell .bool] (.call (some (.o1 .not x10)) (.fn 14) [Va 4] [.cell (.int .i64)] (.fact (.ite (.o1 .not (.ite x10 (.bool true) x13)) x8 (.bool true)) (.ite (.ite (.ite x10 (.bool true) x13) (.bool true) (.o2 .gt x11 (Vn 12))) (.call none (.fn 23) [] [.cell .bool] (.ret [.d (Va 9)])) (.call none (.fn 28) [Vl (Va 0) x9,Va 3,Va 4] [.agg liKs,.cell (.int .i64)] (.ite (.o2 .ne (Va 12) (Vn 0)) (.call (some (.o1 .not (.ite x5 (.bool true) x6))) (.fn 13) [Va 3] [.cell (.int .i64)] (.call (some (.ite (.ite x5 (.bool true) x6) (.bool true) x7)) (.fn 23) [] [.cell .bool] (.ret [.d (.ite (.ite (.ite x5 (.bool true) x6) (.bool true) x7) (Va 14) (.bool false))]))) (.fact (.o2 .le x2 (Vn 140737488355328)) (.fact (.o2 .le x0 (Vn 140737488355328)) (.call (some (.o1 .not (.o2 .ne x2 x0))) (.fn 29) [Vl (Va 9) x1] [.cell (.int .i64)] (.ite (.ite (.o2 .ne x2 x0) (.bool true) x7) (.ret [.d (.bool false)]) (.fact x8 (.loop 0 [Vn 0] [.int .i64] (.ite (.o2 .lt (Va 14) x11) (.need (.o2 .le (Vn 0) (Va 14)) (.call none (.fn 30) [Vl (Va 9) x1,Va 3,Vl (.idx (Va 4) (Va 14) 0 (.int .i64)) (Vl (.idx (Va 4) (Va 14) 1 (.int .i64)) .lnil)] [.agg [.int .i64,.int .i64],.cell .bool] (.ite (.ite (.o1 .not (Va 17)) (.bool true) (.o1 .not (.o2 .band (.o2 .eq (Va 15) (.idx (Va 4) (Va 14) 2 (.int .i64))) (.o2 .band (.o2 .eq (Va 16) (.idx (Va 4) (Va 14) 3 (.int .i64))) (.bool true))))) (.ret [.d (.bool false)]) (.again 0 [.o2 (.add .i64) (Va 14) (Vn 1)])))) (.call none (.fn 31) [Va 2,.clo 32 (Vl (.ptr (Vl (Va 9) x1)) .lnil)] [.cell (.int .i64)] (.lets [.ite (.o2 .lt (Va 15) (Vn 0)) x0 (Va 15)] (.guess (.bool true) (.ite (Va 17) (.need x12 (.need (.o2 .le (Va 16) x0) (.need (.o2 .le (Va 16) x2) (.call none (.fn 25) [Vl (Va 0) x4,Vl (Va 9) x3] [.cell .bool] (.call (some (Va 18)) (.fn 23) [] [.cell .bool] (.ret [.d (.ite (Va 18) (Va 19) (.bool false))])))))) (.need x12 (.need (.o2 .le (Va 16) x0) (.need (.o2 .le (Va 16) x2) (.call none (.fn 25) [Vl (Va 0) x4,Vl (Va 9) x3] [.cell .bool] (.call (some (Va 18)) (.fn 23) [] [.cell .bool] (.ret [.d (.ite (Va 18) (Va 19) (.bool false))]))))))))))))))))))))))
theorem t6_ok:fnO Tryz.prog mdA 6 [.agg liKs,.agg [.str,.slice enKs,.int .i64,.bool]]=t6:=by kernel_rfl
theorem c6:W3 Tryz.prog 6=true:=by kernel_rfl
def Z3o (a l:Lis):Nat:=if Wq (Z1b a) 0 l.cues < 0 then l.cues.length else(Wq (Z1b a) 0 l.cues).toNat
theorem Z4B {p:Cue→Bool}:∀(l:List Cue) (i:Nat),(Wq p i l= -1∧∀c∈l,p c=false)∨∃j,∃hj:j < l.length,Wq p i l=(i+j:Nat)∧∀k (hk:k < j),p (l[k]'(by omega))=false
 | [],i=>.inl ⟨rfl,by simp⟩
 | c ::l,i=>by
   by_cases h:p c=true
   · exact .inr ⟨0,by simp,by simp [Wq,h],fun k hk=>by omega⟩
   · have h':p c=false:=by simpa using h
     rcases Z4B l (i+1)with⟨h1,h2⟩|⟨j,hj,h1,h2⟩
     · refine .inl ⟨by simp only [Wq,h',Bool.false_eq_true,if_false];exact h1,fun x hx=>?_⟩;rcases List.mem_cons.1 hx with rfl|hx
       · exact h'
       · exact h2 x hx
     · refine .inr ⟨j+1,by simp;omega,by simp only [Wq,h',Bool.false_eq_true,if_false,h1];omega,fun k hk=>?_⟩;cases k with
       |zero=>exact h'
       |succ k=>exact h2 k (by omega)
theorem Z7S (a l:Lis):Z3o a l≤l.cues.length∧∀k (hk:k < Z3o a l) (hk2:k < l.cues.length),Z1b a l.cues[k]=false:=by
 unfold Z3o;rcases Z4B (p:=Z1b a) l.cues 0 with⟨h1,h2⟩|⟨j,hj,h1,h2⟩
 · rw [h1];simp only [show((-1:Int) < 0)from by decide,if_true];exact⟨Nat.le_refl _,fun k _ hk2=>h2 _ (List.getElem_mem hk2)⟩
 · rw [h1,if_neg (by omega)];simp only [Nat.zero_add,Int.toNat_natCast];exact⟨by omega,fun k hk hk2=>h2 k hk⟩
theorem Z9W {l a:Lis} (hck:Y6 Z2 l=0) (hs:a.cues.map Ww=l.cues.map Ww) (n:Nat) (h:∀k (hk:k < n) (hk2:k < l.cues.length),Z1b a l.cues[k]=false):a.cues.take n=l.cues.take n:=by
 have hlen:a.cues.length=l.cues.length:=by simpa using congrArg List.length hs
 apply List.ext_getElem?;intro k;rw [List.getElem?_take,List.getElem?_take];by_cases hk:k < n
 · rw [if_pos hk,if_pos hk];by_cases hk2:k < l.cues.length
   · have hk3:k < a.cues.length:=by omega
     rw [List.getElem?_eq_getElem hk2,List.getElem?_eq_getElem hk3];congr 1;have hd:=h k hk hk2;unfold Z1b at hd;rw [Z1r (Z1p hs),(Z5G hck hk2).2.2,Int.toNat_natCast,List.getElem?_eq_getElem hk3]at hd;have hm:a.cues[k].moves=l.cues[k].moves:=by simpa using hd
     refine ZbD ?_ hm;have:=congrArg (fun x=>x[k]?) hs;simp only [List.getElem?_map,List.getElem?_eq_getElem hk2,List.getElem?_eq_getElem hk3,Option.map_some,Option.some.injEq]at this;exact this
   · rw [List.getElem?_eq_none (by omega),List.getElem?_eq_none (by omega)]
 · rw [if_neg hk,if_neg hk]
theorem Z7k {l:Lis} {s:List UInt8} {es:List Ent} (hck:Y6 Z2 l=0) (h3:Wg es=0) (h:(Zj l s es).2≠0):(Zj l s es).2=6∨(Zj l s es).2=5∨Z3 s≠0:=by
 unfold Zj at h ⊢;by_cases h1:Wa l s=0
 · rw [if_neg (by simp [h1]),if_neg (by simp [h3])]at h ⊢;unfold Yw at h ⊢;split
   · exact .inr (.inl rfl)
   · rename_i h4;rw [if_neg h4]at h;exact absurd rfl h
 · rw [if_pos h1]at h ⊢;unfold Wa Jj;rw [if_neg (by simp [hck])];by_cases h5:Z3 s=0
   · rw [if_neg (by simp [h5])];by_cases h6:place l.cues s < 0
     · rw [if_pos h6];exact .inl rfl
     · exact absurd (by unfold Wa Jj;rw [if_neg (by simp [hck]),if_neg (by simp [h5]),if_neg h6]) h1
   · exact .inr (.inr h5)
theorem Z8N {l:Lis} {s:List UInt8} {es:List Ent} (hl:l.Ok) (hes:∀e∈es,e.Ok):(Zj l s es).1.Ok:=by
 by_cases h:(Zj l s es).2=0
 · by_cases h1:Wa l s=0
   · by_cases h3:Wg es=0
     · obtain⟨e1,_,_,_,e5⟩:=Z1K hl hes h1 h3 h;rw [e1];exact {hl with cues:=e5}
     · unfold Zj;rw [if_neg (by simp [h1]),if_pos h3];exact WD
   · unfold Zj;rw [if_pos h1];exact WD
 · unfold Zj at h ⊢;split
   · exact WD
   split
   · exact WD
   rename_i h1 h3;rw [if_neg h1,if_neg h3]at h;unfold Yw at h ⊢;split
   · exact WD
   · rename_i h4;rw [if_neg h4]at h;exact absurd rfl h
theorem Z9y {l a:Lis} (h1:Y6 Z2 l=0) (h2:Y6 Z2 a=0) (hn:a.cues.map (·.num)=l.cues.map (·.num)) (s:List UInt8):Wa a s=Wa l s∧upto a s=upto l s:=by
 have:=Z1r hn s;refine⟨?_,by simp only [upto,this]⟩;unfold Wa Jj;rw [this];simp [h1,h2]
set_option maxHeartbeats 2000000 in
theorem law6_typed:Contract Tryz.prog 6 fun args K=>∃(l:Lis) (n:Note),l.Ok∧n.Ok∧args=[.agg l.enc,.agg n.enc]∧K [.d (.bool true)]:=by
 refine .of c6 t6_ok ?_;rintro _ K ⟨l,n,hl,hn,rfl,hK⟩ hsm;refine⟨l.enc++n.enc,rfl,by exact(Lis.has hl).append (Note.has hn),?_⟩;refine Z0 ZbG ⟨l,hl,by simp only [zz,reduceCtorEq,Lis.enc,Note.enc],fun b hb=>⟨_,rfl,?_⟩⟩;refine J4 ZaQ b [.int .i64 (if b then Wg n.es else 0)] (by cases b <;> simp only [zz,reduceCtorEq,Lis.enc,Note.enc] <;> rfl) (fun h=>⟨n.es,hn.es,by simp only [zz,reduceCtorEq,Lis.enc,Note.enc],by rw [h];rfl⟩) (fun h=>by rw [h];rfl) ?_;intro _;by_cases hg:b=true∧Wg n.es=0∧n.es.length≤12;rotate_left
 · refine Y5 ?_ (Z0 ZO ⟨rfl,_,rfl,by simp only [zz,reduceCtorEq,Lis.enc,Note.enc];exact hK⟩);cases b
   · simp only [zz,reduceCtorEq,Lis.enc,Note.enc]
   · by_cases h3:Wg n.es=0
     · have h9:12 < n.es.length:=by
         rcases Nat.lt_or_ge 12 n.es.length with h|h
         · exact h
         · exact absurd ⟨rfl,h3,h⟩ hg
       simp only [zz,reduceCtorEq,Lis.enc,Note.enc,List.length_map,h3]
       first|done|omega|(simp;omega)
     · simp only [zz,reduceCtorEq,Lis.enc,Note.enc,List.length_map,h3]
 obtain⟨rfl,h3,h12⟩:=hg;obtain⟨hck,h8⟩:=hb rfl;refine W4 (by simp only [zz,reduceCtorEq,Lis.enc,Note.enc,List.length_map,h3];simp;omega) ?_;refine Z0 YV ⟨l,n.s,n.es,hl,hn.es,by simp only [zz,reduceCtorEq,Lis.enc,Note.enc],_,rfl,?_⟩;have hao:=Z8N hl hn.es (s:=n.s);by_cases hr:(Zj l n.s n.es).2=0;rotate_left
 · refine Y5 (by simp only [zz,reduceCtorEq,Lis.enc,Note.enc,hr]) ?_;have hro:=Z7k hck h3 hr;by_cases h5:(Zj l n.s n.es).2=6∨(Zj l n.s n.es).2=5
   · refine J4 Z0i false [.int .i64 0] (by simp only [zz,reduceCtorEq,Lis.enc,Note.enc];rcases h5 with h5|h5 <;> simp [h5]) (fun h=>by cases h) (fun _=>rfl) ?_;refine J4 ZO true [.bool true] (by simp only [zz,reduceCtorEq,Lis.enc,Note.enc];rcases h5 with h5|h5 <;> simp [h5]) (fun _=>⟨rfl,rfl⟩) (fun h=>by cases h) ?_;have e9:K [.d (.bool true)]:=hK;rcases h5 with h5|h5 <;> simp only [zz,reduceCtorEq,Lis.enc,Note.enc,h5] <;> simpa using hK
   · have h6:Z3 n.s≠0:=by rcases hro with h|h|h <;> simp_all
     refine J4 Z0i true [.int .i64 (Z3 n.s)] (by simp only [zz,reduceCtorEq,Lis.enc,Note.enc];simp at h5;simp [h5]) (fun _=>⟨n.s,by simp only [zz,reduceCtorEq,Lis.enc,Note.enc],rfl⟩) (fun h=>by cases h) ?_;refine J4 ZO true [.bool true] (by simp only [zz,reduceCtorEq,Lis.enc,Note.enc];simp [h6]) (fun _=>⟨rfl,rfl⟩) (fun h=>by cases h) ?_;simp only [zz,reduceCtorEq,Lis.enc,Note.enc];simpa [h6]using hK
 have h1:Wa l n.s=0:=by
   by_cases h1:Wa l n.s=0
   · exact h1
   · unfold Zj at hr;rw [if_pos h1]at hr;exact hr
 obtain⟨e1,e2,e3,e4,e5⟩:=Z1K hl hn.es h1 h3 hr;have e6:=Z1L l.cues (upto l n.s) n.es;obtain⟨e7,e8⟩:=Z9y hck e3 (Z1p e6) n.s;rw [hr,e1];refine W4 (by simp only [zz,reduceCtorEq,Lis.enc,Note.enc]) ?_;have hae:Lis.Ok {l with cues:=updateL l.cues (upto l n.s) n.es}:= {hl with cues:=e5}
 intro _ _;refine J4 JB true [.int .i64 0] (by simp only [zz,reduceCtorEq,Lis.enc,Note.enc,List.length_map,e2]) (fun _=>⟨_,hae,by simp only [zz,reduceCtorEq,Lis.enc,Note.enc],by rw [e3];rfl⟩) (fun h=>by cases h) ?_;refine W4 (by simp only [zz,reduceCtorEq,Lis.enc,Note.enc,List.length_map,e2]) ?_;intro _;refine Zc n.es (fun _ _ (_:Unit)=>()) (fun i _=>[.int .i64 i]) () () rfl 0 (fun _ _=>rfl) rfl ?_ ?_
 · intro i hi _ _;have hem:=List.getElem_mem hi;refine⟨fun _=>⟨by simp only [zz,reduceCtorEq,Lis.enc,Note.enc] <;> omega,?_⟩,fun h=>?_⟩;rotate_left
   · exfalso;simp only [zz,reduceCtorEq,Lis.enc,Note.enc,List.length_map,hi]at h
   refine Z0 Z7B ⟨{l with cues:=updateL l.cues (upto l n.s) n.es},n.s,n.es[i].pa,hae,(hn.es _ hem).1,by simp only [zz,reduceCtorEq,Lis.enc,Note.enc,Y0 hi,Ent.enc,Par.enc],_,rfl,?_⟩;have hv:Z5T {l with cues:=updateL l.cues (upto l n.s) n.es} n.s n.es[i].pa=(n.es[i].va,true):=by
     unfold Z5T;rw [if_neg (by rw [e7];simp [h1]),e8,e4 _ hem]
   rw [hv];refine W4 (by simp only [zz,reduceCtorEq,Lis.enc,Note.enc,Y0 hi,Ent.enc,Val.enc]) ?_;simp only [zz,reduceCtorEq,Lis.enc,Note.enc,Val.enc];refine⟨(),?_⟩;rw [Z1] <;> omega
 · intro _ _;refine⟨fun h=>?_,fun _=>?_⟩
   · exfalso;simp only [zz,reduceCtorEq,Lis.enc,Note.enc,List.length_map,Nat.lt_irrefl]at h
   refine Z0 JE ⟨l.cues,Z1b {l with cues:=updateL l.cues (upto l n.s) n.es},32,[.ptr (Lis.enc {l with cues:=updateL l.cues (upto l n.s) n.es})],hl.cues,by simp only [zz,reduceCtorEq,Lis.enc,Note.enc],Z3Y hae l.cues hl.cues,_,rfl,?_⟩;obtain⟨f1,f2⟩:=Z7S {l with cues:=updateL l.cues (upto l n.s) n.es} l;refine Z6Y [.int .i64 (Z3o {l with cues:=updateL l.cues (upto l n.s) n.es} l)] ?_ ?_
   · have hfd:((Z3o {l with cues:=updateL l.cues (upto l n.s) n.es} l:Nat):Int)=if Wq (Z1b {l with cues:=updateL l.cues (upto l n.s) n.es}) 0 l.cues < 0 then(l.cues.length:Int)else Wq (Z1b {l with cues:=updateL l.cues (upto l n.s) n.es}) 0 l.cues:=by
       unfold Z3o;split
       · rfl
       · omega
     rw [hfd];by_cases hx:Wq (Z1b {l with cues:=updateL l.cues (upto l n.s) n.es}) 0 l.cues < 0
     · simp only [zz,reduceCtorEq,Lis.enc,Note.enc,List.length_map,hx,List.map]
     · simp only [zz,reduceCtorEq,Lis.enc,Note.enc,List.length_map,hx,List.map]
   generalize Z3o {l with cues:=updateL l.cues (upto l n.s) n.es} l=k at f1 f2 ⊢;have hts:=Z9W (l:=l) (a:= {l with cues:=updateL l.cues (upto l n.s) n.es}) hck e6 k f2;rw [Yb];rintro b -;have hs1:Lis.Ok {l with cues:=l.cues.take k}:= {hl with cues:=fun c hc=>hl.cues c (List.mem_of_mem_take hc)}
   have hts':(updateL l.cues (upto l n.s) n.es).take k=l.cues.take k:=hts;cases b
   · refine W4 (by simp only [zz,reduceCtorEq,Lis.enc,Note.enc]) ?_;refine⟨by simp only [zz,reduceCtorEq,Lis.enc,Note.enc] <;> omega,by simp only [zz,reduceCtorEq,Lis.enc,Note.enc,List.length_map] <;> omega,by simp only [zz,reduceCtorEq,Lis.enc,Note.enc,List.length_map] <;> omega,?_⟩;refine Z0 Z6j ⟨{l with cues:=l.cues.take k},{l with cues:=l.cues.take k},hs1,hs1,?_,_,rfl,?_⟩
     · simp only [zz,reduceCtorEq,Lis.enc,Note.enc];rw [←List.map_take, ←List.map_take,hts'];exact⟨rfl,rfl⟩
     rw [Z2O];refine J4 ZO true [.bool true] (by simp only [zz,reduceCtorEq,Lis.enc,Note.enc]) (fun _=>⟨rfl,rfl⟩) (fun h=>by cases h) ?_;simp only [zz,reduceCtorEq,Lis.enc,Note.enc];exact hK
   · refine Y5 (by simp only [zz,reduceCtorEq,Lis.enc,Note.enc]) ?_;refine⟨by simp only [zz,reduceCtorEq,Lis.enc,Note.enc] <;> omega,by simp only [zz,reduceCtorEq,Lis.enc,Note.enc,List.length_map] <;> omega,by simp only [zz,reduceCtorEq,Lis.enc,Note.enc,List.length_map] <;> omega,?_⟩;refine Z0 Z6j ⟨{l with cues:=l.cues.take k},{l with cues:=l.cues.take k},hs1,hs1,?_,_,rfl,?_⟩
     · simp only [zz,reduceCtorEq,Lis.enc,Note.enc];rw [←List.map_take, ←List.map_take,hts'];exact⟨rfl,rfl⟩
     rw [Z2O];refine J4 ZO true [.bool true] (by simp only [zz,reduceCtorEq,Lis.enc,Note.enc]) (fun _=>⟨rfl,rfl⟩) (fun h=>by cases h) ?_;simp only [zz,reduceCtorEq,Lis.enc,Note.enc];exact hK
theorem law6:Contract Tryz.prog 6 (Z7O Tryz.prog 6):=
 law6_typed.weaken fun args K _ h=>by
   obtain⟨h1,h2,hK⟩:=Zfc [.agg liKs,.agg ntKs] (by kernel_rfl) h
   match args,h1 with
   | [a,b],_=>
     obtain⟨l,hl,rfl⟩:=Lis.ofAgg (h2 0 _ _ rfl rfl);obtain⟨n,hn,rfl⟩:=Note.ofAgg (h2 1 _ _ rfl rfl);exact⟨l,n,hl,hn,rfl,hK⟩
end Go.Sx.La
