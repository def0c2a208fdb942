/-
 Part 9 of the proof: the executor over the kit's code with its soundness, or contracts of functions.
-/
import Derived.Test.YtihpfldadiiinaaGreatDoorFDh
set_option linter.unusedSimpArgs false
set_option linter.unusedVariables false
set_option linter.unusedSectionVars false
set_option linter.defProp false
set_option maxRecDepth 100000
namespace Go.Sx.La
open Go Go.Sx Go.RowKit Go.Proofs
noncomputable def t209:R:=.call none (.fn 210) [Vl (Va 0) (Vl (Va 1) .lnil),Vl (Va 5) (Vl (Va 6) .lnil)] [.cell (.int .i64)] (.ret [.d (Va 7)])
theorem Ze7:fnO Tryz.prog mdA 209 [.agg mvKs,.agg [.int .i64,.int .i64]]=t209:=by kernel_rfl
theorem c209:J2 Tryz.prog 209=true:=by kernel_rfl
noncomputable def t160:R:=.call none (.fn 207) [Va 0,Vl (Va 1) (Vl (Va 2) .lnil),.fn 209] [.cell (.int .i64),.cell .bool] (.ret [.d (Va 3),.d (Va 4)])
theorem ZeV:fnO Tryz.prog mdA 160 [.cell (.slice mvKs),.agg [.int .i64,.int .i64]]=t160:=by kernel_rfl
noncomputable def t89:R:=.call none (.fn 91) [Vl (Va 0) (Vl (Va 1) (Vl (Va 2) (Vl (Va 3) (Vl (Va 4) (Vl (Va 5) (Vl (Va 6) (Vl (Va 7) (Vl (Va 8) .lnil))))))))] [.cell (.int .i64)] (.ite (.o2 .ne (Va 11) (Vn 0)) (.ret [.d (Vn 0),.d (.bool false),.d (Va 11)]) (.call none (.fn 159) [Vl (Va 9) (Vl (Va 10) .lnil)] [.cell (.int .i64)] (.ite (.o2 .ne (Va 12) (Vn 0)) (.ret [.d (Vn 0),.d (.bool false),.d (Va 12)]) (.call none (.fn 160) [Va 2,Vl (Va 9) (Vl (Va 10) .lnil)] [.cell (.int .i64),.cell .bool] (.ite (Va 14) (.ret [.d (Va 13),.d (.bool true),.d (Vn 0)]) (.ret [.d (Vn 0),.d (.bool false),.d (Vn 0)]))))))
theorem Zgt:fnO Tryz.prog mdA 89 [.agg J9,.agg [.int .i64,.int .i64]]=t89:=by kernel_rfl
theorem Zc7:Contract Tryz.prog 209 fun args K=>∃(m:Mov) (q:Par),m.Ok∧q.Ok∧args=[.agg m.enc,.agg q.enc]∧K [.d (.int .i64 (pcmp m.pa q))]:=by
 refine .of c209 Ze7 ?_;rintro _ K ⟨m,q,hm,hq,rfl,hK⟩ hsm;refine⟨m.enc++q.enc,rfl,by exact(Mov.has hm).append (Par.has hq),?_⟩;refine Z0 ZaM ⟨m.pa,q,hm.1,hq,rfl,_,rfl,?_⟩;simp only [zz,reduceCtorEq,Mov.enc,Par.enc];exact hK
theorem Zc8 {m:Mov} {p:Par} (hm:m.Ok) (hp:p.Ok):FvC Tryz.prog (.clo 209 []) fun as_ K=>as_=[.agg m.enc,.agg p.enc]∧K [.d (.int .i64 (pcmp m.pa p))]:=by
 refine FvC.of c209 Zc7 ?_;rintro _ K ⟨rfl,hK⟩;refine⟨⟨m,p,hm,hp,rfl,hK⟩,Z4 [some (.agg mvKs),some (.agg paKs)] (by kernel_rfl) ?_⟩;intro i rk d h1 h2
 match i,h1,h2 with
 |0,h1,h2=>simp at h1 h2;subst h1 h2;exact Mov.has hm
 |1,h1,h2=>simp at h1 h2;subst h1 h2;exact Par.has hp
theorem Z7d:Contract Tryz.prog 160 fun args K=>∃(ms:List Mov) (p:Par),(∀m∈ms,m.Ok)∧p.Ok∧RightB ms∧Z3 p=0∧args=[.slice (ms.map Mov.enc),.agg p.enc]∧K [.d (.int .i64 (low ms p)),.d (.bool (ms.any fun m=>decide (m.pa=p)))]:=by
 refine .of (by kernel_rfl) ZeV ?_;rintro _ K ⟨ms,p,hms,hp,hR,hpp,rfl,hK⟩ hsm;refine⟨.slice (ms.map Mov.enc)::p.enc,rfl,by exact(show HasKs (.slice mvKs::paKs) _ from⟨Z7 fun m hm=>Mov.has (hms m hm),Par.has hp⟩),?_⟩;refine Z0 bsearchG_ok ⟨ms,p,209,hms,hp,hR,hpp,fun m hm=>Zc8 (hms m hm) hp,by simp only [zz,reduceCtorEq,Par.enc],_,rfl,?_⟩;simp only [zz,reduceCtorEq,Par.enc];exact hK
theorem Zdt:Contract Tryz.prog 89 fun args K=>∃(c:Cue) (p:Par),c.Ok∧J5 c=0∧p.Ok∧Z3 p=0∧args=[.agg c.enc,.agg p.enc]∧
   K [.d (.int .i64 (if(Ze c.moves p).isSome then low c.moves p else 0)),.d (.bool (Ze c.moves p).isSome),.d (.int .i64 0)]:=by
 refine .of (by kernel_rfl) Zgt ?_;rintro _ K ⟨c,p,hc,hck,hp,hpp,rfl,hK⟩ hsm;refine⟨c.enc++p.enc,rfl,by exact(Cue.has hc).append (Par.has hp),?_⟩;refine Z0 Z1j ⟨c,hc,by simp only [zz,reduceCtorEq,Cue.enc,Par.enc],_,rfl,?_⟩;rw [hck];simp only [zz,reduceCtorEq,Cue.enc,Par.enc];refine Z0 Z7c ⟨p,hp,by simp only [zz,reduceCtorEq,Cue.enc,Par.enc],_,rfl,?_⟩;rw [hpp];simp only [zz,reduceCtorEq,Cue.enc,Par.enc];refine Z0 Z7d ⟨c.moves,p,hc.moves,hp,(Z3l (WY hck)).toB,hpp,by simp only [zz,reduceCtorEq,Cue.enc,Par.enc],_,rfl,?_⟩;rw [Z0b];simp only [zz,reduceCtorEq,Cue.enc,Par.enc];cases hs:(Ze c.moves p).isSome with
 | true=>
   rw [hs]at hK;exact⟨fun _=>hK,fun h=>by simp at h⟩
 | false=>
   rw [hs]at hK;exact⟨fun h=>by simp at h,fun _=>hK⟩
structure Early (l:Lis) (s:List UInt8) (n:Nat):Prop where
 ok:Lis.Ok {l with cues:=l.cues.take n}
 look:Z0n {l with cues:=l.cues.take n} s=(Ja (l.cues.take n) n,0)
noncomputable def t88:R:=.guess (.o2 .eq (.o1 .len (Va 0)) (Vn 0)) (.ite (Va 1) (.ret [.own 5 .nils]) (.need (.o2 .le (.o1 .len (.o2 .app .nils (Va 0))) (Vn 3518437208883)) (.ret [.own 5 (.o2 .app .nils (Va 0))])))
theorem Zgu:fnO Tryz.prog mdA 88 [.cell (.slice mvKs)]=t88:=by kernel_rfl
noncomputable def t94:R:=.guess (.o2 .eq (.o1 .len (Va 0)) (Vn 0)) (.ite (Va 1) (.ret [.own 6 .nils]) (.need (.o2 .le (.o1 .len (.o2 .app .nils (Va 0))) (Vn 2932031007402)) (.ret [.own 6 (.o2 .app .nils (Va 0))])))
theorem Zgp:fnO Tryz.prog mdA 94 [.cell (.slice tmKs)]=t94:=by kernel_rfl
noncomputable def t125:R:=.call none (.fn 94) [Va 3] [.own tmKs] (.ret [.box (Vl (Va 0) (Vl (Va 1) (Vl (Va 2) (Vl (Va 9) (Vl (Va 4) (Vl (Va 5) (Vl (Va 6) (Vl (Va 7) (Vl (Va 8) .lnil)))))))))])
theorem Zfj:fnUO Tryz.prog mdA 125 [.box J9]=t125:=by kernel_rfl
theorem Z3Z:Contract Tryz.prog 88 fun args K=>∃(ms:List Mov),(∀m∈ms,m.Ok)∧ms.length≤1000000∧args=[.slice (ms.map Mov.enc)]∧K [.own 5 (ms.map Mov.enc)]:=by
 refine .of (by kernel_rfl) Zgu ?_;rintro _ K ⟨cs,hcs,hlen,rfl,hK⟩ hsm;refine⟨[.slice (cs.map Mov.enc)],rfl,⟨Z7 fun m hm=>Mov.has (hcs m hm),trivial⟩,?_⟩;unfold t88;simp only [denR];intro b hb;simp only [zz,reduceCtorEq,List.length_map];cases b with
 | true=>
   have:=hb rfl;simp only [zz,reduceCtorEq,List.length_map]at this;have h0:cs=[]:=List.eq_nil_of_length_eq_zero (by omega);subst h0;exact⟨fun _=>hK,fun h=>by simp at h⟩
 |false=>exact⟨fun h=>by simp at h,fun _=>⟨by omega,hK⟩⟩
theorem ZbZ:Contract Tryz.prog 94 fun args K=>∃(ts:List Tim),(∀m∈ts,m.Ok)∧ts.length≤1000000∧args=[.slice (ts.map Tim.enc)]∧K [.own 6 (ts.map Tim.enc)]:=by
 refine .of (by kernel_rfl) Zgp ?_;rintro _ K ⟨cs,hcs,hlen,rfl,hK⟩ hsm;refine⟨[.slice (cs.map Tim.enc)],rfl,⟨Z7 fun m hm=>Tim.has (hcs m hm),trivial⟩,?_⟩;unfold t94;simp only [denR];intro b hb;simp only [zz,reduceCtorEq,List.length_map];cases b with
 | true=>
   have:=hb rfl;simp only [zz,reduceCtorEq,List.length_map]at this;have h0:cs=[]:=List.eq_nil_of_length_eq_zero (by omega);subst h0;exact⟨fun _=>hK,fun h=>by simp at h⟩
 |false=>exact⟨fun h=>by simp at h,fun _=>⟨by omega,hK⟩⟩
theorem ZfW:ContractX Tryz.prog 125 [.box J9] true fun args K=>∃c:Cue,c.Ok∧c.parts.length≤1000000∧args=[.box c.enc]∧K [.box c.enc]:=by
 refine .ofU (by kernel_rfl) Zfj ?_;rintro _ K ⟨c,hc,hlen,rfl,hK⟩;refine⟨c.enc,rfl,by exact Cue.has hc,?_⟩;refine Z0 ZbZ ⟨c.parts,hc.parts,hlen,by simp only [zz,reduceCtorEq,Cue.enc],_,rfl,?_⟩;simp only [zz,reduceCtorEq,Cue.enc];exact hK
noncomputable def t124:R:=let x1:List K:=mvKs;let x2:T:=.idx (Va 1) (Va 4) 0 (.int .i64);let x3:T:=.idx (Va 1) (Va 4) 1 (.int .i64);let x4:T:=.o1 .len (Va 3);let x0:T:=Vl x2 (Vl x3 (Vl (.idx (Va 1) (Va 4) 2 (.int .i64)) (Vl (.idx (Va 1) (Va 4) 3 (.int .i64)) (Vl (.idx (Va 1) (Va 4) 4 (.int .i64)) .lnil))));.call none (.fn 88) [Va 0] [.own x1] (.fact (.o2 .le (.o1 .len (Va 1)) (Vn 140737488355328)) (.loop 0 [Va 2,Vn 0] [.slice x1,.int .i64] (.ite (.o2 .lt (Va 4) (.o1 .len (Va 1))) (.need (.o2 .le (Vn 0) (Va 4)) (.call none (.fn 160) [Va 3,Vl x2 (Vl x3 .lnil)] [.cell (.int .i64),.cell .bool] (.ite (Va 6) (.need (.o2 .le (Vn 0) (Va 5)) (.need (.o2 .lt (Va 5) x4) (.again 0 [.upd (Va 3) (Va 5) 0 x0,.o2 (.add .i64) (Va 4) (Vn 1)]))) (.callX false 191 [.own 5 (Va 3),.d (Va 5),.own 5 (.push .nils x0)] [.own x1] (.again 0 [Va 7,.o2 (.add .i64) (Va 4) (Vn 1)]))))) (.fact (.o2 .le x4 (Vn 140737488355328)) (.ite (.o2 .gt x4 (Vn 128)) (.ret [.d .nils,.d (Vn 5)]) (.ret [.own 5 (Va 3),.d (Vn 0)]))))))
theorem Zfk:fnO Tryz.prog mdA 124 [.cell (.slice mvKs),.cell (.slice mvKs)]=t124:=by kernel_rfl
noncomputable def t54:R:=let x0:T:=Vl (.str []) (Vl (.str []) (Vl .nils (Vl .nils (Vl (.bool false) (Vl (.bool false) (Vl (Vn 0) (Vl (.str []) (Vl (Vn 0) .lnil))))))));let x1:T:=.push .nils (Vl (.idx (Va 9) (Va 14) 0 (.int .i64)) (Vl (.idx (Va 9) (Va 14) 1 (.int .i64)) (Vl (.idx (Va 9) (Va 14) 2 (.int .i64)) (Vl (.idx (Va 9) (Va 14) 3 (.int .i64)) (Vl (Va 10) .lnil)))));let x2:T:=Vl (Va 3) (Vl (Va 4) (Vl (Va 5) (Vl (Va 6) (Vl (Va 7) (Vl (Va 8) .lnil)))));let x3:List K:=mvKs;let x4:T:=.o2 .lt (Va 10) (Vn 1);.call none (.fn 91) [Vl (Va 0) (Vl (Va 1) (Vl (Va 2) x2))] [.cell (.int .i64)] (.ite (.o2 .ne (Va 11) (Vn 0)) (.ret [.d x0,.d (Va 11)]) (.call none (.fn 52) [Va 9] [.cell (.int .i64)] (.ite (.o2 .ne (Va 12) (Vn 0)) (.ret [.d x0,.d (Va 12)]) (.fact (.ite (.o1 .not x4) (.o2 .le (.o1 .len (Va 3)) (Vn 140737488355328)) (.bool true)) (.ite (.ite x4 (.bool true) (.o2 .gt (Va 10) (.o1 .len (Va 3)))) (.ret [.d x0,.d (Vn 6)]) (.fact (.o2 .le (.o1 .len (Va 9)) (Vn 140737488355328)) (.loop 0 [.nils,Vn 0] [.slice x3,.int .i64] (.ite (.o2 .lt (Va 14) (.o1 .len (Va 9))) (.need (.o2 .le (Vn 0) (Va 14)) (.need (.o2 .le (.o1 .len (.o2 .app (Va 13) x1)) (Vn 3518437208883)) (.again 0 [.o2 .app (Va 13) x1,.o2 (.add .i64) (Va 14) (Vn 1)]))) (.call none (.fn 124) [Va 2,Va 13] [.cell (.slice x3),.cell (.int .i64)] (.ite (.o2 .ne (Va 16) (Vn 0)) (.ret [.d x0,.d (Va 16)]) (.callX true 125 [.box (Vl (Va 0) (Vl (Va 1) (Vl (Va 15) x2)))] [.box [.str,.str,.slice x3,.slice tmKs,.bool,.bool,.int .i64,.str,.int .i64]] (.ret [.d (Vl (Va 17) (Vl (Va 18) (Vl (Va 19) (Vl (Va 20) (Vl (Va 21) (Vl (Va 22) (Vl (Va 23) (Vl (Va 24) (Vl (Va 25) .lnil))))))))),.d (Vn 0)]))))))))))))
theorem Zh2:fnO Tryz.prog mdA 54 [.agg J9,.cell (.slice enKs),.cell (.int .i64)]=t54:=by kernel_rfl
noncomputable def t145:R:=let x0:T:=Vl (Vn 0) .lnil;.ret [.d (Vl (Va 0) (Vl (.str []) (Vl .nils (Vl (.rep (Vn 1) (Vl (Vn 0) (Vl (Vn 0) (Vl (Vn 0) (Vl (Vn 0) (Vl (Vn 0) x0)))))) (Vl (.bool false) (Vl (.bool false) (Vl (Vn (-1)) (Vl (.str []) x0))))))))]
theorem Zbk {es:List Ent} {p:Int} (h:∀e∈es,e.Ok) (hp:I64 p):∀m∈givM es p,m.Ok:=by
 intro m hm;obtain⟨e,he,rfl⟩:=List.mem_map.1 hm;exact⟨(h e he).1,(h e he).2,hp⟩
theorem ZfL {ms:List Mov} {m:Mov} (h:∀x∈ms,x.Ok) (hm:m.Ok):∀x∈putM ms m,x.Ok:=fun x hx=>by
 rcases Z19 hx with rfl|hx
 · exact hm
 · exact h x hx
theorem ZaV {a b:List Mov} (ha:∀x∈a,x.Ok) (hb:∀x∈b,x.Ok):∀x∈Ww a b,x.Ok:=fun x hx=>by
 rcases Z1G hx with hx|hx
 · exact ha x hx
 · exact hb x hx
theorem YU {c:Cue} (hc:c.Ok) {es:List Ent} (hes:∀e∈es,e.Ok) {p:Int} (hp:I64 p):(setC c es p).Ok:= {hc with moves:=ZaV hc.moves (Zbk hes hp)}
theorem Z2R {ms:List Mov} (h:∀m∈ms,m.Ok):HasK (.slice mvKs) (.slice (ms.map Mov.enc)):=Z7 fun m hm=>Mov.has (h m hm)
theorem ZaU:Contract Tryz.prog 124 fun args K=>∃(a b:List Mov),(∀m∈a,m.Ok)∧(∀m∈b,m.Ok)∧Wt a∧(∀m∈a,Z3 m.pa=0)∧(∀m∈b,Z3 m.pa=0)∧a.length≤128∧b.length≤10000∧
   args=[.slice (a.map Mov.enc),.slice (b.map Mov.enc)]∧(128 < (Ww a b).length→K [.d (.slice []),.d (.int .i64 5)])∧(¬128 < (Ww a b).length→K [.own 5 ((Ww a b).map Mov.enc),.d (.int .i64 0)]):=by
 refine .of (by kernel_rfl) Zfk ?_;rintro _ K ⟨a,b,ha,hb,hra,hpa,hpb,hla,hlb,rfl,hK1,hK2⟩ hsm;refine⟨[.slice (a.map Mov.enc),.slice (b.map Mov.enc)],rfl,⟨Z2R ha,Z2R hb,trivial⟩,?_⟩;refine Z0 Z3Z ⟨a,ha,by omega,rfl,_,rfl,?_⟩;simp only [zz,reduceCtorEq,List.length_map];intro hcap;refine Jj b (fun _ l acc=>Ww acc l) (fun i acc=>[.slice (acc.map Mov.enc),.int .i64 i]) (fun i acc=>(∀m∈acc,m.Ok)∧Wt acc∧(∀m∈acc,Z3 m.pa=0)∧acc.length≤128+i) a (Ww a b) rfl ⟨ha,hra,hpa,by omega⟩ 1 (fun _ _=>rfl) rfl ?_ ?_
 · rintro i hi acc ⟨h1,h2,h3,h4⟩ hgo;have hbm:=List.getElem_mem hi;have hbo:=hb _ hbm;simp only [zz,reduceCtorEq,List.length_map,hi,J0 hi,Mov.enc];refine⟨by omega,?_⟩;refine Z0 Z7d ⟨acc,b[i].pa,h1,hbo.1,⟨h3,h2,by omega⟩,hpb _ hbm,by simp only [zz,reduceCtorEq,J0 hi,Mov.enc,Par.enc],_,rfl,?_⟩;rw [Z0b];have hl1:=Z8F b[i] acc;have inv:(∀m∈putM acc b[i],m.Ok)∧Wt (putM acc b[i])∧(∀m∈putM acc b[i],Z3 m.pa=0)∧(putM acc b[i]).length≤128+(i+1):=
     ⟨ZfL h1 hbo,Z0B h2,fun x hx=>by
       rcases Z19 hx with rfl|hx
       · exact hpb _ hbm
       · exact h3 x hx,by omega⟩
   rcases Z8E (m:=b[i]) h2 with⟨⟨x,g1⟩,g2,g3⟩|⟨g1,g2,g3⟩
   · rw [g1];refine W8 (by simp only [zz,reduceCtorEq,Option.isSome_some]) ?_;simp only [zz,reduceCtorEq,List.length_map,g2,J0 hi,Mov.enc,D.upd];refine⟨by omega,putM acc b[i],⟨?_,by rw [Z1] <;> omega⟩,inv,hgo⟩;rw [g3];exact Zdw g2 b[i]
   · rw [g1];refine Z6 (by simp only [zz,reduceCtorEq,Option.isSome_none]) ?_;refine Jo Zba ⟨[.slice (acc.map Mov.enc),.int .i64 (low acc b[i].pa),.slice [b[i].enc]],by simp only [zz,reduceCtorEq,J0 hi,Mov.enc];rfl,?_⟩ (fun h=>by cases h) ⟨acc.map Mov.enc,low acc b[i].pa,b[i].enc,by simpa using g2,by simp;omega,by simp only [zz,reduceCtorEq,J0 hi,Mov.enc],_,rfl,?_⟩
     · exact⟨Z2R h1,Y4 ⟨by omega,by omega⟩,by intro x hx;simp at hx;subst hx;exact Mov.has hbo,trivial⟩
     · simp only [zz,reduceCtorEq];refine⟨putM acc b[i],⟨?_,by rw [Z1] <;> omega⟩,inv,hgo⟩;rw [g3];simp [List.map_take,List.map_drop]
 · rintro acc ⟨h1,h2,h3,h4⟩ hgo;have hgo:acc=Ww a b:=hgo;subst hgo;simp only [zz,reduceCtorEq,List.length_map,Nat.lt_irrefl];intro _;refine⟨fun h=>hK1 (by omega),fun h=>hK2 (by omega)⟩
theorem ZfI {c:Cue} (hc:c.Ok) {es:List Ent} (hes:∀e∈es,e.Ok) {p:Int} (hp:I64 p):(setR c es p).1.Ok:=by
 have hz:zeroC.Ok:=⟨by simp [zeroC],by simp [zeroC],⟨by decide,by decide⟩,⟨by decide,by decide⟩⟩
 unfold setR;split; · exact hz
 split; · exact hz
 split; · exact hz
 split; · exact hz
 exact YU hc hes hp
theorem Z8f:Contract Tryz.prog 54 fun args K=>∃(c:Cue) (es:List Ent) (p:Int),c.Ok∧(∀e∈es,e.Ok)∧I64 p∧args=[.agg c.enc,.slice (es.map Ent.enc),.int .i64 p]∧
   K [.d (.agg (setR c es p).1.enc),.d (.int .i64 (setR c es p).2)]:=by
 refine .of (by kernel_rfl) Zh2 ?_;rintro _ K ⟨c,es,p,hc,hes,hp,rfl,hK⟩ hsm;refine⟨c.enc++[.slice (es.map Ent.enc)]++[.int .i64 p],rfl,by exact(show HasKs ((J9++[.slice enKs])++[.int .i64]) _ from((Cue.has hc).append (show HasKs [.slice enKs] [.slice (es.map Ent.enc)]from⟨Zi hes,trivial⟩)).append (ZX hp)),?_⟩;unfold setR at hK;refine Z0 Z1j ⟨c,hc,by simp only [zz,reduceCtorEq,Cue.enc],_,rfl,?_⟩;rcases Decidable.em (J5 c=0)with h1|h1
 rotate_left
 · rw [if_pos h1]at hK;refine W8 (by simp only [zz,reduceCtorEq,Cue.enc,h1]) ?_;simp only [zz,reduceCtorEq,Cue.enc];exact hK
 rw [if_neg (by simpa using h1)]at hK;rw [h1];refine Z6 (by simp only [zz,reduceCtorEq,Cue.enc]) ?_;refine Z0 Z5A ⟨es,hes,by simp only [zz,reduceCtorEq,Cue.enc],_,rfl,?_⟩;rcases Decidable.em (Yj es=0)with h2|h2
 rotate_left
 · rw [if_pos h2]at hK;refine W8 (by simp only [zz,reduceCtorEq,Cue.enc,h2]) ?_;simp only [zz,reduceCtorEq,Cue.enc];exact hK
 rw [if_neg (by simpa using h2)]at hK;rw [h2];refine Z6 (by simp only [zz,reduceCtorEq,Cue.enc]) ?_;have hE:=Z0U hes h2;have hC:=Z2A h1;have hp4:=hC.four;simp only [zz,reduceCtorEq,Cue.enc,List.length_map];intro _;by_cases h3:p < 1∨(c.parts.length:Int) < p
 · rw [if_pos h3]at hK;refine⟨fun _=>hK,fun h=>?_⟩;exfalso;rcases h3 with h3|h3
   · simp [h3]at h
   · by_cases h4:p < 1
     · simp [h4]at h
     · simp [h4]at h;omega
 rw [if_neg h3]at hK;have e0:(setC c es p).moves.length=(Ww c.moves (givM es p)).length:=rfl;rw [e0]at hK;simp only [not_or,Int.not_lt]at h3;refine⟨fun h=>?_,fun _=>?_⟩
 · exfalso;have h4:¬p < 1:=by omega
   simp [h4]at h;omega
 intro hcap;have hel:=hE.len;refine Jj es (fun _ l (acc:List Mov)=>acc++givM l p) (fun i acc=>[.slice (acc.map Mov.enc),.int .i64 i]) (fun i acc=>acc.length=i) [] (givM es p) rfl rfl 1 (fun _ _=>rfl) rfl ?_ ?_
 · intro i hi acc hI hgo;simp only [zz,reduceCtorEq,List.length_map,hi,J0 hi,Ent.enc,List.length_append];refine⟨by omega,by simp;omega,acc++[⟨es[i].pa,es[i].va,p⟩],⟨by simp [Mov.enc],by rw [Z1] <;> omega⟩,by simp [hI],by simp only [givM,List.append_assoc,List.singleton_append,List.map_cons,List.map_drop]at hgo ⊢;exact hgo⟩
 · intro acc hI hgo;simp only [givM,List.map_nil,List.append_nil]at hgo;have hgo:acc=givM es p:=hgo;subst hgo;simp only [zz,reduceCtorEq,List.length_map,Nat.lt_irrefl];refine Z0 ZaU ⟨c.moves,givM es p,hc.moves,Zbk hes hp,hC.rc.rising,fun m hm=>(hC.rc.each m hm).1,fun m hm=>(Z9T (n:=c.parts.length) hE h3.1 h3.2 m hm).1,hC.len,by simp [givM];omega,by simp only [zz,reduceCtorEq],fun h=>?_,fun h=>?_⟩
   · rw [if_pos h]at hK;refine⟨_,rfl,?_⟩;simp only [zz,reduceCtorEq];exact⟨fun _=>hK,fun h=>by simp at h⟩
   · rw [if_neg h]at hK;refine⟨_,rfl,?_⟩;refine Z6 (by simp only [zz,reduceCtorEq]) ?_;have hS:=YU hc hes hp;refine Jo ZfW ⟨(setC c es p).enc,by simp only [zz,reduceCtorEq,Cue.enc,setC];rfl,Cue.has hS⟩ (fun _=>by kernel_rfl) ?_;refine⟨setC c es p,hS,by show c.parts.length≤_;omega,by simp only [zz,reduceCtorEq,Cue.enc,setC],(setC c es p).enc,rfl,?_⟩;simp only [zz,reduceCtorEq,Cue.enc,setC];exact hK
noncomputable def t58:R:=let x0:T:=Vl (.idx (Va 0) (Va 3) 1 (.int .i64)) (Vl (.idx (Va 0) (Va 3) 2 (.int .i64)) (Vl (.idx (Va 0) (Va 3) 3 (.int .i64)) .lnil));let x2:T:=.idx (Va 0) (Va 3) 0 (.int .i64);let x1:T:=.o2 .app (Va 2) (.push .nils (Vl x2 x0));.fact (.o2 .le (.o1 .len (Va 0)) (Vn 140737488355328)) (.loop 0 [.nils,Vn 0] [.slice enKs,.int .i64] (.ite (.o2 .lt (Va 3) (.o1 .len (Va 0))) (.need (.o2 .le (Vn 0) (Va 3)) (.call none (.val (Va 1)) [Vl x2 x0] [.cell .bool] (.need (.ite (Va 4) (.o2 .le (.o1 .len x1) (Vn 4398046511104)) (.bool true)) (.lets [.ite (Va 4) x1 (Va 2)] (.again 0 [Va 5,.o2 (.add .i64) (Va 3) (Vn 1)]))))) (.ret [.own 4 (Va 2)])))
theorem ZgY:fnO Tryz.prog mdA 58 [.cell (.slice enKs),.cell .fn]=t58:=by kernel_rfl
noncomputable def t68:R:=let x1:T:=Vl (.idx (Va 0) (Va 3) 1 (.int .i64)) .lnil;let x2:T:=.idx (Va 0) (Va 3) 0 (.int .i64);let x0:T:=.o2 .app (Va 2) (.push .nils (Vl x2 x1));.fact (.o2 .le (.o1 .len (Va 0)) (Vn 140737488355328)) (.loop 0 [.nils,Vn 0] [.slice [.int .i64,.int .i64],.int .i64] (.ite (.o2 .lt (Va 3) (.o1 .len (Va 0))) (.need (.o2 .le (Vn 0) (Va 3)) (.call none (.val (Va 1)) [Vl x2 x1] [.cell .bool] (.need (.ite (Va 4) (.o2 .le (.o1 .len x0) (Vn 8796093022208)) (.bool true)) (.lets [.ite (Va 4) x0 (Va 2)] (.again 0 [Va 5,.o2 (.add .i64) (Va 3) (Vn 1)]))))) (.ret [.own 2 (Va 2)])))
theorem ZgN:fnO Tryz.prog mdA 68 [.cell (.slice [.int .i64,.int .i64]),.cell .fn]=t68:=by kernel_rfl
noncomputable def t173:R:=let x0:T:=Vl (.idx (Va 0) (Va 3) 1 (.int .i64)) (Vl (.idx (Va 0) (Va 3) 2 (.int .i64)) (Vl (.idx (Va 0) (Va 3) 3 (.int .i64)) (Vl (.idx (Va 0) (Va 3) 4 (.int .i64)) .lnil)));let x2:T:=.idx (Va 0) (Va 3) 0 (.int .i64);let x1:T:=.o2 .app (Va 2) (.push .nils (Vl x2 x0));.fact (.o2 .le (.o1 .len (Va 0)) (Vn 140737488355328)) (.loop 0 [.nils,Vn 0] [.slice mvKs,.int .i64] (.ite (.o2 .lt (Va 3) (.o1 .len (Va 0))) (.need (.o2 .le (Vn 0) (Va 3)) (.call none (.val (Va 1)) [Vl x2 x0] [.cell .bool] (.need (.ite (Va 4) (.o2 .le (.o1 .len x1) (Vn 3518437208883)) (.bool true)) (.lets [.ite (Va 4) x1 (Va 2)] (.again 0 [Va 5,.o2 (.add .i64) (Va 3) (Vn 1)]))))) (.ret [.own 5 (Va 2)])))
noncomputable def t63:R:=let x0:T:=.push .nils (Vl (Va 4) (Vl (Va 5) (Vl (Va 6) (Vl (Va 7) .lnil))));let x1:List K:=enKs;.fact (.o2 .le (.o1 .len (Va 0)) (Vn 140737488355328)) (.loop 0 [.nils,Vn 0] [.slice x1,.int .i64] (.ite (.o2 .lt (Va 3) (.o1 .len (Va 0))) (.need (.o2 .le (Vn 0) (Va 3)) (.call none (.val (Va 1)) [Vl (.idx (Va 0) (Va 3) 0 (.int .i64)) (Vl (.idx (Va 0) (Va 3) 1 (.int .i64)) (Vl (.idx (Va 0) (Va 3) 2 (.int .i64)) (Vl (.idx (Va 0) (Va 3) 3 (.int .i64)) .lnil)))] [.agg x1] (.need (.o2 .le (.o1 .len (.o2 .app (Va 2) x0)) (Vn 4398046511104)) (.again 0 [.o2 .app (Va 2) x0,.o2 (.add .i64) (Va 3) (Vn 1)])))) (.ret [.own 4 (Va 2)])))
theorem ZgT:fnO Tryz.prog mdA 63 [.cell (.slice enKs),.cell .fn]=t63:=by kernel_rfl
noncomputable def t70:R:=let x0:T:=.push .nils (Vl (Va 4) (Vl (Va 5) (Vl (Va 6) (Vl (Va 7) .lnil))));let x1:List K:=enKs;.fact (.o2 .le (.o1 .len (Va 0)) (Vn 140737488355328)) (.loop 0 [.nils,Vn 0] [.slice x1,.int .i64] (.ite (.o2 .lt (Va 3) (.o1 .len (Va 0))) (.need (.o2 .le (Vn 0) (Va 3)) (.call none (.val (Va 1)) [Vl (.idx (Va 0) (Va 3) 0 (.int .i64)) (Vl (.idx (Va 0) (Va 3) 1 (.int .i64)) .lnil)] [.agg x1] (.need (.o2 .le (.o1 .len (.o2 .app (Va 2) x0)) (Vn 4398046511104)) (.again 0 [.o2 .app (Va 2) x0,.o2 (.add .i64) (Va 3) (Vn 1)])))) (.ret [.own 4 (Va 2)])))
theorem ZgI:fnO Tryz.prog mdA 70 [.cell (.slice [.int .i64,.int .i64]),.cell .fn]=t70:=by kernel_rfl
noncomputable def t53:R:=.call none (.fn 31) [Va 2,.clo 123 (Vl (.ptr (Vl (Va 3) .lnil)) .lnil)] [.cell (.int .i64)] (.ret [.d (Va 4)])
theorem Zh3:fnO Tryz.prog mdA 53 [.agg liKs,.cell .str]=t53:=by kernel_rfl
noncomputable def t123:R:=.ret [.d (.o2 .eq (Va 0) (.fld (Va 9) 0 .str))]
theorem Zfl:fnO Tryz.prog mdA 123 ([.agg J9]++[.cell (.ptr [.str])])=t123:=by kernel_rfl
theorem c123:J2 Tryz.prog 123=true:=by kernel_rfl
noncomputable def t57:R:=let x0:T:=Vl (.idx (Va 4) (Va 6) 0 (.int .i64)) (Vl (.idx (Va 4) (Va 6) 1 (.int .i64)) .lnil);let x1:T:=Vl (Vl (.idx (Va 4) (Va 6) 2 (.int .i64)) (Vl (.idx (Va 4) (Va 6) 3 (.int .i64)) .lnil)) .lnil;.ite (.o2 .ge (Va 3) (Vn 0)) (.need (.o2 .le (Vn 0) (Va 3)) (.need (.o2 .lt (Va 3) (.o1 .len (Va 2))) (.call none (.fn 18) [Vl (Va 0) (Vl (Va 1) (Vl (Va 2) .lnil)),.idx (Va 2) (Va 3) 0 .str] [.cell (.slice enKs),.cell (.int .i64)] (.fact (.o2 .le (.o1 .len (Va 4)) (Vn 140737488355328)) (.loop 0 [Vn 0,.nils] [.int .i64,.slice [.agg [.int .i64,.int .i64],.agg [.int .i64,.int .i64]]] (.ite (.o2 .lt (Va 6) (.o1 .len (Va 4))) (.need (.o2 .le (Vn 0) (Va 6)) (.again 0 [.o2 (.add .i64) (Va 6) (Vn 1),.ite (.o2 .ge (.o2 .find (Va 7) x0) (Vn 0)) (.upd (Va 7) (.o2 .find (Va 7) x0) 1 x1) (.push (Va 7) (Vl x0 x1))])) (.ret [.d (.clo 132 (Vl (.ptr (Vl (.o1 .mpd (Va 7)) .lnil)) .lnil))]))))))) (.ret [.d (.clo 132 (Vl (.ptr (Vl (.o1 .mpd .nils) .lnil)) .lnil))])
theorem ZgZ:fnO Tryz.prog mdA 57 [.agg liKs,.cell (.int .i64)]=t57:=by kernel_rfl
noncomputable def t132:R:=let x2:List K:=[.int .i64,.int .i64];let x0:T:=.o1 .rows (.fld (Va 2) 0 (.mp [.agg x2,.agg x2]));let x1:T:=.o2 .find x0 (Vl (Va 0) (Vl (Va 1) .lnil));.ite (.o2 .ge x1 (Vn 0)) (.ret [.d (Vl (.sel (.idx x0 x1 1 (.agg x2)) (Vn 0) (.int .i64)) (Vl (.sel (.idx x0 x1 1 (.agg x2)) (Vn 1) (.int .i64)) .lnil))]) (.call none (.fn 100) [] [.agg x2] (.ret [.d (Vl (Va 3) (Vl (Va 4) .lnil))]))
theorem Zfb:fnO Tryz.prog mdA 132 ([.agg [.int .i64,.int .i64]]++[.cell (.ptr [.mp [.agg paKs,.agg paKs]])])=t132:=by kernel_rfl
theorem c132:J2 Tryz.prog 132=true:=by kernel_rfl
noncomputable def t100:R:=.ret [.d (Vl (Vn (-1)) (Vl (Vn 0) .lnil))]
theorem ZfG:fnO Tryz.prog mdA 100 []=t100:=by kernel_rfl
noncomputable def t60:R:=.need (.o2 .le (Vn 0) (Va 3)) (.need (.o2 .lt (Va 3) (.o1 .len (Va 2))) (.call none (.fn 133) [.idx (Va 2) (Va 3) 2 (.slice mvKs),.clo 134 (Vl (.ptr (Vl (Va 4) (Vl (Va 5) .lnil))) .lnil)] [.cell .bool] (.ret [.d (Va 6)])))
theorem ZgW:fnO Tryz.prog mdA 60 [.agg liKs,.cell (.int .i64),.agg [.int .i64,.int .i64]]=t60:=by kernel_rfl
noncomputable def t134:R:=.ret [.d (.o2 .band (.o2 .eq (Va 0) (.fld (Va 5) 0 (.int .i64))) (.o2 .band (.o2 .eq (Va 1) (.fld (Va 5) 1 (.int .i64))) (.bool true)))]
theorem Zf9:fnO Tryz.prog mdA 134 ([.agg mvKs]++[.cell (.ptr paKs)])=t134:=by kernel_rfl
theorem c134:J2 Tryz.prog 134=true:=by kernel_rfl
noncomputable def t61:R:=.ite (.o2 .ne (Va 3) (Vn 0)) (.ret [.d (Vl (Vn 0) (Vl (Vn 0) (Vl .nils .lnil))),.d (Va 3)]) (.ret [.d (Vl (Va 0) (Vl (Va 1) (Vl (Va 2) .lnil))),.d (Vn 0)])
theorem ZgV:fnO Tryz.prog mdA 61 [.agg liKs,.cell (.int .i64)]=t61:=by kernel_rfl
noncomputable def t62:R:=let x1:List K:=tmKs;let x2:List K:=mvKs;let x0:List K:=[.str,.str,.slice x2,.slice x1,.bool,.bool,.int .i64,.str,.int .i64];.need (.o2 .le (Vn 0) (Va 3)) (.need (.o2 .lt (Va 3) (.o1 .len (Va 2))) (.call none (.fn 54) [Vl (.idx (Va 2) (Va 3) 0 .str) (Vl (.idx (Va 2) (Va 3) 1 .str) (Vl (.idx (Va 2) (Va 3) 2 (.slice x2)) (Vl (.idx (Va 2) (Va 3) 3 (.slice x1)) (Vl (.idx (Va 2) (Va 3) 4 .bool) (Vl (.idx (Va 2) (Va 3) 5 .bool) (Vl (.idx (Va 2) (Va 3) 6 (.int .i64)) (Vl (.idx (Va 2) (Va 3) 7 .str) (Vl (.idx (Va 2) (Va 3) 8 (.int .i64)) .lnil)))))))),Va 4,Vn 1] [.agg x0,.cell (.int .i64)] (.ite (.o2 .ne (Va 14) (Vn 0)) (.ret [.d (Vl (Vn 0) (Vl (Vn 0) (Vl .nils .lnil))),.d (Va 14)]) (.call none (.fn 90) [Vl (Va 0) (Vl (Va 1) (Vl (Va 2) .lnil)),Va 3,Vl (Va 5) (Vl (Va 6) (Vl (Va 7) (Vl (Va 8) (Vl (Va 9) (Vl (Va 10) (Vl (Va 11) (Vl (Va 12) (Vl (Va 13) .lnil))))))))] [.agg [.int .i64,.int .i64,.slice x0]] (.ret [.d (Vl (Va 15) (Vl (Va 16) (Vl (Va 17) .lnil))),.d (Vn 0)])))))
theorem ZgU:fnO Tryz.prog mdA 62 [.agg liKs,.cell (.int .i64),.cell (.slice enKs)]=t62:=by kernel_rfl
noncomputable def t65:R:=let x0:T:=Vl (Va 1) (Vl (Va 2) .lnil);.call none (.fn 135) [Vl (Va 0) x0,Va 3] [.cell (.int .i64),.cell .bool,.cell (.int .i64)] (.lets [.ite (.ite (.o2 .eq (Va 6) (Vn 0)) (.o1 .not (Va 5)) (.bool false)) (Vn 6) (Va 6)] (.ret [.d (Vl (Va 0) x0),.d (Va 4),.d (Va 7)]))
theorem ZgQ:fnO Tryz.prog mdA 65 [.agg liKs,.cell .str]=t65:=by kernel_rfl
noncomputable def t90:R:=.call none (.fn 137) [Va 2] [.own J9] (.need (.o2 .le (Vn 0) (Va 3)) (.need (.o2 .lt (Va 3) (.o1 .len (Va 13))) (.ret [.d (Vl (Va 0) (Vl (Va 1) (Vl (.upd (Va 13) (Va 3) 0 (Vl (Va 4) (Vl (Va 5) (Vl (Va 6) (Vl (Va 7) (Vl (Va 8) (Vl (Va 9) (Vl (Va 10) (Vl (Va 11) (Vl (Va 12) .lnil)))))))))) .lnil)))])))
theorem Zgs:fnO Tryz.prog mdA 90 [.agg liKs,.cell (.int .i64),.agg J9]=t90:=by kernel_rfl
def Z6f {X Y:Type} (P:Program) (fv:D) (enc:X→List D) (enc':Y→List D) (l:List X) (g:X→Y):Prop:=∃sf,FvC P fv sf∧∀x∈l,sf [.agg (enc x)] fun rs=>rs=[.d (.agg (enc' (g x)))]
theorem Z6U:Contract Tryz.prog 58 fun args K=>∃(l:List Ent) (p:Ent→Bool) (f:FuncId) (caps:List D),(∀x∈l,x.Ok)∧l.length≤100000∧args=[.slice (l.map Ent.enc),.clo f caps]∧Yp Tryz.prog (.clo f caps) Ent.enc l p∧K [.own 4 ((l.filter p).map Ent.enc)]:=by
 refine .of (by kernel_rfl) ZgY ?_;rintro _ K ⟨l,p,f,caps,hl,hlen,rfl,⟨sf,hf,hs⟩,hK⟩ hsm;refine⟨[.slice (l.map Ent.enc),.clo f caps],rfl,⟨Z7 fun x hx=>Ent.has (hl x hx),trivial,trivial⟩,?_⟩;simp only [zz,reduceCtorEq,t58,List.length_map];intro hcap;refine Jj l (fun _ l' acc=>acc++l'.filter p) (fun i acc=>[.slice (acc.map Ent.enc),.int .i64 i]) (fun i acc=>acc.length≤i) [] (l.filter p) (by simp) (by simp) 1 (fun _ _=>rfl) rfl ?_ ?_
 · intro i hi acc hI hgo;simp only [zz,reduceCtorEq,List.length_map,hi,Ent.enc,J0 hi];refine⟨by omega,W6 (FvC.up' (s:=sf) (fv:=.clo f caps) hf) ⟨fun rs=>rs=[.d (.bool (p l[i]))],?_,fun rs h=>⟨[.bool (p l[i])],by rw [h];rfl,by simp [RK.all,RK.kinds,HasKs,HasK],?_⟩⟩⟩
   · simp only [zz,reduceCtorEq,J0 hi,Ent.enc];exact hs l[i] (List.getElem_mem hi)
   · rw [List.filter_cons]at hgo;cases hp:p l[i]with
     | true=>
       simp only [zz,reduceCtorEq,List.length_map,List.length_append,J0 hi,Ent.enc];exact⟨by simp;omega,acc++[l[i]],⟨by simp [Ent.enc],by rw [Z1] <;> omega⟩,by simp;omega,by simpa [hp]using hgo⟩
     | false=>
       simp only [zz,reduceCtorEq,List.length_map,List.length_append];exact⟨acc,⟨by simp,by rw [Z1] <;> omega⟩,by omega,by simpa [hp]using hgo⟩
 · intro acc hI hgo;simp only [List.filter_nil,List.append_nil]at hgo;subst hgo;simp only [zz,reduceCtorEq,List.length_map,Nat.lt_irrefl];exact hK
theorem Z6T:Contract Tryz.prog 68 fun args K=>∃(l:List Par) (p:Par→Bool) (f:FuncId) (caps:List D),(∀x∈l,x.Ok)∧l.length≤100000∧args=[.slice (l.map Par.enc),.clo f caps]∧Yp Tryz.prog (.clo f caps) Par.enc l p∧K [.own 2 ((l.filter p).map Par.enc)]:=by
 refine .of (by kernel_rfl) ZgN ?_;rintro _ K ⟨l,p,f,caps,hl,hlen,rfl,⟨sf,hf,hs⟩,hK⟩ hsm;refine⟨[.slice (l.map Par.enc),.clo f caps],rfl,⟨Z7 fun x hx=>Par.has (hl x hx),trivial,trivial⟩,?_⟩;simp only [zz,reduceCtorEq,t68,List.length_map];intro hcap;refine Jj l (fun _ l' acc=>acc++l'.filter p) (fun i acc=>[.slice (acc.map Par.enc),.int .i64 i]) (fun i acc=>acc.length≤i) [] (l.filter p) (by simp) (by simp) 1 (fun _ _=>rfl) rfl ?_ ?_
 · intro i hi acc hI hgo;simp only [zz,reduceCtorEq,List.length_map,hi,Par.enc,J0 hi];refine⟨by omega,W6 (FvC.up' (s:=sf) (fv:=.clo f caps) hf) ⟨fun rs=>rs=[.d (.bool (p l[i]))],?_,fun rs h=>⟨[.bool (p l[i])],by rw [h];rfl,by simp [RK.all,RK.kinds,HasKs,HasK],?_⟩⟩⟩
   · simp only [zz,reduceCtorEq,J0 hi,Par.enc];exact hs l[i] (List.getElem_mem hi)
   · rw [List.filter_cons]at hgo;cases hp:p l[i]with
     | true=>
       simp only [zz,reduceCtorEq,List.length_map,List.length_append,J0 hi,Par.enc];exact⟨by simp;omega,acc++[l[i]],⟨by simp [Par.enc],by rw [Z1] <;> omega⟩,by simp;omega,by simpa [hp]using hgo⟩
     | false=>
       simp only [zz,reduceCtorEq,List.length_map,List.length_append];exact⟨acc,⟨by simp,by rw [Z1] <;> omega⟩,by omega,by simpa [hp]using hgo⟩
 · intro acc hI hgo;simp only [List.filter_nil,List.append_nil]at hgo;subst hgo;simp only [zz,reduceCtorEq,List.length_map,Nat.lt_irrefl];exact hK
theorem Z9x:Contract Tryz.prog 63 fun args K=>∃(l:List Ent) (g:Ent→Ent) (f:FuncId) (caps:List D),(∀x∈l,x.Ok)∧(∀x∈l,(g x).Ok)∧l.length≤100000∧args=[.slice (l.map Ent.enc),.clo f caps]∧Z6f Tryz.prog (.clo f caps) Ent.enc Ent.enc l g∧K [.own 4 ((l.map g).map Ent.enc)]:=by
 refine .of (by kernel_rfl) ZgT ?_;rintro _ K ⟨l,g,f,caps,hl,hg,hlen,rfl,⟨sf,hf,hs⟩,hK⟩ hsm;refine⟨[.slice (l.map Ent.enc),.clo f caps],rfl,⟨Z7 fun x hx=>Ent.has (hl x hx),trivial,trivial⟩,?_⟩;simp only [zz,reduceCtorEq,t63,List.length_map];intro hcap;refine Jj l (fun _ l' acc=>acc++l'.map g) (fun i acc=>[.slice (acc.map Ent.enc),.int .i64 i]) (fun i acc=>acc.length=i) [] (l.map g) (by simp) (by simp) 1 (fun _ _=>rfl) rfl ?_ ?_
 · intro i hi acc hI hgo;have hgo':=hg _ (List.getElem_mem hi);simp only [zz,reduceCtorEq,List.length_map,hi,Ent.enc,J0 hi];refine⟨by omega,W6 (FvC.up' (s:=sf) (fv:=.clo f caps) hf) ⟨fun rs=>rs=[.d (.agg (g l[i]).enc)],?_,fun rs h=>⟨(g l[i]).enc,by rw [h];rfl,Ent.has hgo',?_⟩⟩⟩
   · simp only [zz,reduceCtorEq,J0 hi,Ent.enc];exact hs l[i] (List.getElem_mem hi)
   · simp only [zz,reduceCtorEq,List.length_map,List.length_append,Ent.enc];exact⟨by simp;omega,acc++[g l[i]],⟨by simp [Ent.enc],by rw [Z1] <;> omega⟩,by simp;omega,by simp only [List.append_assoc,List.singleton_append,List.map_cons,List.map_nil,List.map_append,List.map_drop]at hgo ⊢;exact hgo⟩
 · intro acc hI hgo;simp only [List.map_nil,List.append_nil]at hgo;subst hgo;simp only [zz,reduceCtorEq,List.length_map,Nat.lt_irrefl];exact hK
theorem Z9w:Contract Tryz.prog 70 fun args K=>∃(l:List Par) (g:Par→Ent) (f:FuncId) (caps:List D),(∀x∈l,x.Ok)∧(∀x∈l,(g x).Ok)∧l.length≤100000∧args=[.slice (l.map Par.enc),.clo f caps]∧Z6f Tryz.prog (.clo f caps) Par.enc Ent.enc l g∧K [.own 4 ((l.map g).map Ent.enc)]:=by
 refine .of (by kernel_rfl) ZgI ?_;rintro _ K ⟨l,g,f,caps,hl,hg,hlen,rfl,⟨sf,hf,hs⟩,hK⟩ hsm;refine⟨[.slice (l.map Par.enc),.clo f caps],rfl,⟨Z7 fun x hx=>Par.has (hl x hx),trivial,trivial⟩,?_⟩;simp only [zz,reduceCtorEq,t70,List.length_map];intro hcap;refine Jj l (fun _ l' acc=>acc++l'.map g) (fun i acc=>[.slice (acc.map Ent.enc),.int .i64 i]) (fun i acc=>acc.length=i) [] (l.map g) (by simp) (by simp) 1 (fun _ _=>rfl) rfl ?_ ?_
 · intro i hi acc hI hgo;have hgo':=hg _ (List.getElem_mem hi);simp only [zz,reduceCtorEq,List.length_map,hi,Par.enc,J0 hi];refine⟨by omega,W6 (FvC.up' (s:=sf) (fv:=.clo f caps) hf) ⟨fun rs=>rs=[.d (.agg (g l[i]).enc)],?_,fun rs h=>⟨(g l[i]).enc,by rw [h];rfl,Ent.has hgo',?_⟩⟩⟩
   · simp only [zz,reduceCtorEq,J0 hi,Par.enc];exact hs l[i] (List.getElem_mem hi)
   · simp only [zz,reduceCtorEq,List.length_map,List.length_append,Ent.enc];exact⟨by simp;omega,acc++[g l[i]],⟨by simp [Ent.enc],by rw [Z1] <;> omega⟩,by simp;omega,by simp only [List.append_assoc,List.singleton_append,List.map_cons,List.map_nil,List.map_append,List.map_drop]at hgo ⊢;exact hgo⟩
 · intro acc hI hgo;simp only [List.map_nil,List.append_nil]at hgo;subst hgo;simp only [zz,reduceCtorEq,List.length_map,Nat.lt_irrefl];exact hK
theorem ZfZ:Contract Tryz.prog 123 fun args K=>∃(c:Cue) (s:List UInt8),c.Ok∧args=[.agg c.enc,.ptr [.str s]]∧K [.d (.bool (c.num==s))]:=by
 refine .of c123 Zfl ?_;rintro _ K ⟨c,s,hc,rfl,hK⟩ hsm;refine⟨c.enc++[.ptr [.str s]],rfl,by exact(Cue.has hc).append (show HasKs [.ptr [.str]] [.ptr [.str s]]from⟨⟨trivial,trivial⟩,trivial⟩),?_⟩;simp only [zz,reduceCtorEq,t123,Cue.enc];exact hK
theorem Zb9 (l:List Cue) (hl:∀c∈l,c.Ok) (s:List UInt8):Yp Tryz.prog (.clo 123 [.ptr [.str s]]) Cue.enc l (fun c=>c.num==s):=by
 refine⟨fun as_ K=>∃c:Cue,c.Ok∧as_=[.agg c.enc]∧K [.d (.bool (c.num==s))],FvC.of c123 ZfZ ?_,fun c hc=>⟨c,hl c hc,rfl,rfl⟩⟩;rintro _ K ⟨c,hc,rfl,hK⟩;refine⟨⟨c,s,hc,rfl,hK⟩,Z4 [some (.agg J9)] (by kernel_rfl) ?_⟩;intro i rk d h1 h2;cases i with
 |zero=>simp at h1 h2;subst h1 h2;exact Cue.has hc
 |succ i=>simp at h1
theorem Zch:Contract Tryz.prog 53 fun args K=>∃(l:Lis) (s:List UInt8),l.Ok∧args=[.agg l.enc,.str s]∧K [.d (.int .i64 (place l.cues s))]:=by
 refine .of (by kernel_rfl) Zh3 ?_;rintro _ K ⟨l,s,hl,rfl,hK⟩ hsm;refine⟨l.enc++[.str s],rfl,by exact Z2B hl,?_⟩;refine Z0 JW ⟨l.cues,fun c=>c.num==s,123,[.ptr [.str s]],hl.cues,rfl,Zb9 l.cues hl.cues s,_,rfl,?_⟩;simp only [zz,reduceCtorEq,Lis.enc];exact hK
theorem Z6g:Contract Tryz.prog 90 fun args K=>∃(l:Lis) (i:Nat) (c:Cue),l.Ok∧c.Ok∧i < l.cues.length∧l.cues.length≤1000000∧args=[.agg l.enc,.int .i64 i,.agg c.enc]∧K [.d (.agg (Lis.enc {l with cues:=l.cues.set i c}))]:=by
 refine .of (by kernel_rfl) Zgs ?_;rintro _ K ⟨l,i,c,hl,hc,hi,hlen,rfl,hK⟩ hsm;refine⟨l.enc++[.int .i64 (i:Nat)]++c.enc,rfl,by exact(show HasKs ((liKs++[.int .i64])++J9) _ from((Lis.has hl).append (ZX (v:=(i:Nat)) ⟨by omega,by omega⟩)).append (Cue.has hc)),?_⟩;refine Z0 Z41 ⟨l.cues,hl.cues,hlen,by simp only [zz,reduceCtorEq,Lis.enc],_,rfl,?_⟩;simp only [zz,reduceCtorEq,Lis.enc,Cue.enc,List.length_map,hi,D.upd];refine⟨by omega,?_⟩;have e:=Zdx hi c;simp only [Lis.enc, ←e]at hK;exact hK
theorem Zg4 {l:Lis} (hl:l.Ok) {i:Int} (hi:I64 i) {es:List Ent} (hes:∀e∈es,e.Ok):HasKs ((liKs++[.int .i64])++[.slice enKs]) ((l.enc++[.int .i64 i])++[.slice (es.map Ent.enc)]):=
 ((Lis.has hl).append (ZX hi)).append (show HasKs [.slice enKs] [.slice (es.map Ent.enc)]from⟨Zi hes,trivial⟩)
def Z0G (l:Lis) (i:Nat) (c:Cue) (es:List Ent):Lis×Int:=if(setR c es 1).2≠0 then(zeroL,(setR c es 1).2)else({l with cues:=l.cues.set i (setR c es 1).1},0)
theorem Z7T:Contract Tryz.prog 62 fun args K=>∃(l:Lis) (i:Nat) (es:List Ent) (hi:i < l.cues.length),l.Ok∧(∀e∈es,e.Ok)∧l.cues.length≤1000000∧args=[.agg l.enc,.int .i64 i,.slice (es.map Ent.enc)]∧
   K [.d (.agg (Z0G l i l.cues[i] es).1.enc),.d (.int .i64 (Z0G l i l.cues[i] es).2)]:=by
 refine .of (by kernel_rfl) ZgU ?_;rintro _ K ⟨l,i,es,hi,hl,hes,hlen,rfl,hK⟩ hsm;have h1:I64 1:=⟨by decide,by decide⟩
 refine⟨(l.enc++[.int .i64 (i:Nat)])++[.slice (es.map Ent.enc)],rfl,by exact Zg4 hl ⟨by omega,by omega⟩ hes,?_⟩;have hc:=hl.cues _ (List.getElem_mem hi);simp only [zz,reduceCtorEq,t62,Lis.enc,List.length_map,hi];refine⟨by omega,?_⟩;refine Z0 Z8f ⟨l.cues[i],es,1,hc,hes,h1,by simp only [zz,reduceCtorEq,J0 hi,Cue.enc,Lis.enc],_,rfl,?_⟩;have hS:=ZfI hc hes h1;unfold Z0G at hK;generalize setR l.cues[i] es 1=r at hK hS;obtain⟨c',e⟩:=r;simp only at hK hS;by_cases he:e=0
 · subst he;simp only [zz,reduceCtorEq,Lis.enc,Cue.enc];refine Z0 Z6g ⟨l,i,c',hl,hS,hi,hlen,by simp only [zz,reduceCtorEq,Lis.enc,Cue.enc],_,rfl,?_⟩;simp only [zz,reduceCtorEq,Lis.enc,Cue.enc];simpa [Lis.enc]using hK
 · rw [if_pos he]at hK;simp only [zz,reduceCtorEq,Lis.enc,Cue.enc,he];simpa [Lis.enc,zeroL]using hK
theorem Z9J:Contract Tryz.prog 134 fun args K=>∃(m:Mov) (p:Par),m.Ok∧p.Ok∧args=[.agg m.enc,.ptr p.enc]∧K [.d (.bool (decide (m.pa=p)))]:=by
 refine .of c134 Zf9 ?_;rintro _ K ⟨m,p,hm,hp,rfl,hK⟩ hsm;refine⟨m.enc++[.ptr p.enc],rfl,by exact(Mov.has hm).append (show HasKs [.ptr paKs] [.ptr p.enc]from⟨Par.has hp,trivial⟩),?_⟩;simp only [zz,reduceCtorEq,t134,Mov.enc,Par.enc];have e:decide (m.pa=p)=(decide (m.pa.ch=p.ch)&&decide (m.pa.at_=p.at_)):=by
   rw [Bool.eq_iff_iff];simp only [decide_eq_true_eq,Bool.and_eq_true];exact⟨fun h=>by rw [h];exact⟨rfl,rfl⟩,fun h=>Par.ext' h.1 h.2⟩
 rw [e]at hK;simpa using hK
theorem Z6J (l:List Mov) (hl:∀c∈l,c.Ok) {p:Par} (hp:p.Ok):Yp Tryz.prog (.clo 134 [.ptr p.enc]) Mov.enc l (fun m=>decide (m.pa=p)):=by
 refine⟨fun as_ K=>∃m:Mov,m.Ok∧as_=[.agg m.enc]∧K [.d (.bool (decide (m.pa=p)))],FvC.of c134 Z9J ?_,fun c hc=>⟨c,hl c hc,rfl,rfl⟩⟩;rintro _ K ⟨c,hc,rfl,hK⟩;refine⟨⟨c,p,hc,hp,rfl,hK⟩,Z4 [some (.agg mvKs)] (by kernel_rfl) ?_⟩;intro i rk d h1 h2;cases i with
 |zero=>simp at h1 h2;subst h1 h2;exact Mov.has hc
 |succ i=>simp at h1
theorem ZcZ:Contract Tryz.prog 60 fun args K=>∃(l:Lis) (i:Nat) (p:Par) (hi:i < l.cues.length),l.Ok∧p.Ok∧l.cues.length≤1000000∧args=[.agg l.enc,.int .i64 i,.agg p.enc]∧K [.d (.bool (Wg p l.cues[i]))]:=by
 refine .of (by kernel_rfl) ZgW ?_;rintro _ K ⟨l,i,p,hi,hl,hp,hlen,rfl,hK⟩ hsm;refine⟨l.enc++[.int .i64 (i:Nat)]++p.enc,rfl,by exact(show HasKs ((liKs++[.int .i64])++paKs) _ from((Lis.has hl).append (ZX (v:=(i:Nat)) ⟨by omega,by omega⟩)).append (Par.has hp)),?_⟩;have hc:=hl.cues _ (List.getElem_mem hi);simp only [zz,reduceCtorEq,t60,Lis.enc,List.length_map,hi];refine⟨by omega,?_⟩;refine Z0 Z0t ⟨l.cues[i].moves,fun m=>decide (m.pa=p),134,[.ptr p.enc],hc.moves,by simp only [zz,reduceCtorEq,J0 hi,Cue.enc,Par.enc,Lis.enc],Z6J _ hc.moves hp,_,rfl,?_⟩;simp only [zz,reduceCtorEq,Lis.enc,Par.enc];rw [Z0b];exact hK
theorem Z5b:Contract Tryz.prog 65 fun args K=>∃(l:Lis) (s:List UInt8),l.Ok∧args=[.agg l.enc,.str s]∧K [.d (.agg l.enc),.d (.int .i64 (WA l s).1),.d (.int .i64 (Ya l s))]:=by
 refine .of (by kernel_rfl) ZgQ ?_;rintro _ K ⟨l,s,hl,rfl,hK⟩ hsm;refine⟨l.enc++[.str s],rfl,by exact Z2B hl,?_⟩;refine Z0 Z5W ⟨l,s,hl,by simp only [zz,reduceCtorEq,Lis.enc],_,rfl,?_⟩;have e:Ya l s=if(WA l s).2.2=0∧(WA l s).2.1=false then 6 else(WA l s).2.2:=by
   unfold Ya Jv WA Wn;by_cases h1:J4 Y2 l=0
   · simp only [h1,ne_eq,not_true_eq_false,if_false];by_cases h2:W3 s=0
     · simp only [h2,ne_eq,not_true_eq_false,if_false];by_cases h3:place l.cues s < 0
       · have:¬0≤place l.cues s:=by omega
         simp [h3,this]
       · have:0≤place l.cues s:=by omega
         simp [h3,this]
     · simp [h2]
   · simp [h1]
 rw [e]at hK;simp only [zz,reduceCtorEq,Lis.enc];by_cases h1:(WA l s).2.2=0
 · cases h2:(WA l s).2.1 <;> simp [h1,h2,Lis.enc]at hK ⊢ <;> exact hK
 · simp [h1,Lis.enc]at hK ⊢;exact hK
theorem Zbg:Contract Tryz.prog 100 fun args K=>args=[]∧K [.d (.agg hval.enc)]:=by
 refine .of (by kernel_rfl) ZfG ?_;rintro _ K ⟨rfl,hK⟩ hsm;exact⟨[],rfl,trivial,hK⟩
def rowE (e:Ent):List D:=[.agg e.pa.enc,.agg e.va.enc]
def Z0Q (es:List Ent):List (List D):=es.map rowE
def wOf (es:List Ent) (p:Par):Val:=((ZL es p).map (·.va)).getD hval
theorem Z09 (p:Par):∀(es:List Ent) (i:Nat),(ZL es p=none∧D.findRow (.agg p.enc) (Z0Q es) i= -1)∨∃(j:Nat) (hj:j < es.length),ZL es p=some es[j]∧D.findRow (.agg p.enc) (Z0Q es) i=((i+j:Nat):Int)
 | [],i=>.inl ⟨rfl,rfl⟩
 | e ::es,i=>by
   have e1:D.findRow (.agg p.enc) (Z0Q (e::es)) i=if p=e.pa then(i:Int)else D.findRow (.agg p.enc) (Z0Q es) (i+1):=by
     simp only [Z0Q,List.map_cons,D.findRow,rowE,List.headD_cons,Z8C,decide_eq_true_eq]
   rw [e1];by_cases h:p=e.pa
   · exact .inr ⟨0,by simp,by simp [ZL,h],by rw [if_pos h];simp⟩
   · have h':¬e.pa=p:=fun x=>h x.symm
     have e2:ZL (e::es) p=ZL es p:=by simp [ZL,h']
     rw [if_neg h,e2];rcases Z09 p es (i+1)with⟨h1,h2⟩|⟨j,hj,h1,h2⟩
     · exact .inl ⟨h1,h2⟩
     · exact .inr ⟨j+1,by simp;omega,by simpa using h1,by rw [h2];congr 1;omega⟩
theorem ZcL {es:List Ent} (h:∀e∈es,e.Ok):∀x∈Z0Q es,HasKs [.agg paKs,.agg paKs] x:=by
 intro x hx;obtain⟨e,he,rfl⟩:=List.mem_map.1 hx;exact⟨Par.has (h e he).1,⟨Y4 (h e he).2.1,Y4 (h e he).2.2,trivial⟩,trivial⟩
theorem Z8Y:Contract Tryz.prog 132 fun args K=>∃(p:Par) (es:List Ent),p.Ok∧(∀e∈es,e.Ok)∧args=[.agg p.enc,.ptr [.mp (Z0Q es)]]∧K [.d (.agg (wOf es p).enc)]:=by
 refine .of c132 Zfb ?_;rintro _ K ⟨p,es,hp,hes,rfl,hK⟩ hsm;refine⟨p.enc++[.ptr [.mp (Z0Q es)]],rfl,by exact(Par.has hp).append (show HasKs [.ptr [.mp [.agg paKs,.agg paKs]]] [.ptr [.mp (Z0Q es)]]from⟨⟨ZcL hes,trivial⟩,trivial⟩),?_⟩;unfold wOf at hK;rcases Z09 p es 0 with⟨h1,h2⟩|⟨j,hj,h1,h2⟩
 · rw [h1]at hK;refine Z6 (by simp only [Par.enc]at h2;simp only [zz,reduceCtorEq,Par.enc,D.cells,D.cell,h2] <;> omega) ?_;refine Z0 Zbg ⟨rfl,_,rfl,?_⟩;simp only [zz,reduceCtorEq,Par.enc,Val.enc];exact hK
 · rw [h1]at hK;simp only [Par.enc,Nat.zero_add]at h2;have e1:(Z0Q es).getD j []=rowE es[j]:=by simp [Z0Q,hj]
   refine W8 (by simp only [zz,reduceCtorEq,Par.enc,D.cells,D.cell,h2] <;> omega) ?_;simp only [zz,reduceCtorEq,Par.enc,D.cells,D.cell,h2,Int.toNat_natCast,e1,rowE,D.cellAt,D.list,Val.enc];exact hK
def Z4A (fv:D) (W:Par→Val):Prop:=∃sf,FvC Tryz.prog fv sf∧∀p:Par,p.Ok→sf [.agg p.enc] fun rs=>rs=[.d (.agg (W p).enc)]
theorem Z21 {es:List Ent} (hes:∀e∈es,e.Ok):Z4A (.clo 132 [.ptr [.mp (Z0Q es)]]) (wOf es):=by
 refine⟨fun as_ K=>∃p:Par,p.Ok∧as_=[.agg p.enc]∧K [.d (.agg (wOf es p).enc)],FvC.of c132 Z8Y ?_,fun p hp=>⟨p,hp,rfl,rfl⟩⟩;rintro _ K ⟨p,hp,rfl,hK⟩;refine⟨⟨p,es,hp,hes,rfl,hK⟩,Z4 [some (.agg paKs)] (by kernel_rfl) ?_⟩;intro i rk d h1 h2;cases i with
 |zero=>simp at h1 h2;subst h1 h2;exact Par.has hp
 |succ i=>simp at h1
theorem Z0K (cs:List Cue) (n:Nat) (hn:n≤cs.length) (p:Par):wOf (Ja cs n) p=J3 cs p n:=by
 unfold wOf Ja;have e:(Yd cs).map (fun p=>(⟨p,J3 cs p n⟩:Ent))=((Yd cs).filter fun _=>true).map fun p=>(⟨p,J3 cs p n⟩:Ent):=by rw [List.filter_eq_self.2 fun _ _=>rfl]
 rw [e,Z1K (fun _=>true) fun p=>J3 cs p n];by_cases h:p∈Yd cs
 · rw [if_pos ⟨h,rfl⟩];rfl
 · rw [if_neg fun x=>h x.1,Jp cs p n hn];exact(Z31 fun c hc=>Z3s h c (List.mem_of_mem_take (List.mem_reverse.1 hc))).symm
theorem Z34:Contract Tryz.prog 57 fun args K=>∃(l:Lis) (n:Nat),l.Ok∧J4 Y2 l=0∧n≤l.cues.length∧args=[.agg l.enc,.int .i64 ((n:Int) - 1)]∧∀f caps,Z4A (.clo f caps) (fun p=>J3 l.cues p n)→K [.d (.clo f caps)]:=by
 refine .of (by kernel_rfl) ZgZ ?_;rintro _ K ⟨l,n,hl,hck,hn,rfl,hK⟩ hsm;have hlen:=(Zc hck).len;have h64:I64 ((n:Int) - 1):=⟨by omega,by omega⟩
 refine⟨l.enc++[.int .i64 ((n:Int) - 1)],rfl,by exact Zbh hl h64,?_⟩;cases n with
 | zero=>
   refine Z6 (by simp only [zz,reduceCtorEq,Lis.enc] <;> omega) ?_;have h:=Z21 (es:=[]) (by simp);have e:wOf []=fun p=>J3 l.cues p 0:=by funext p;simp [wOf,ZL,J3,Z6E,Yl]
   rw [e]at h;exact hK _ _ h
 | succ n=>
   have hn':n < l.cues.length:=by omega
   have e1:(((n+1:Nat):Int) - 1)=(n:Int):=by omega
   rw [e1];refine W8 (by simp only [zz,reduceCtorEq,Lis.enc] <;> omega) ?_;obtain⟨c1,c2,c3⟩:=Z2Z hck hn';simp only [zz,reduceCtorEq,Lis.enc,List.length_map,hn'];refine⟨by omega,?_⟩;refine Z0 Z0h ⟨l,l.cues[n].num,hl,by simp only [zz,reduceCtorEq,Lis.enc,J0 hn',Cue.enc],?_⟩;have hlook:Z0n l l.cues[n].num=(Ja l.cues (n+1),0):=by unfold Z0n;rw [if_neg (by simp [c1]),c2]
   rw [hlook];have hR:=Zf hl hck;have hes:=Wu hR (n+1);have hll:=YJ hR (n+1);have hnd:((Ja l.cues (n+1)).map (·.pa)).Nodup:=by
     simp only [Ja,List.map_map];have:((fun e:Ent=>e.pa) ∘ fun p=>(⟨p,J3 l.cues p (n+1)⟩:Ent))=id:=rfl;rw [this,List.map_id];exact Z2e _
   have hw:wOf (Ja l.cues (n+1))=fun p=>J3 l.cues p (n+1):=funext fun p=>Z0K _ _ hn p
   generalize Ja l.cues (n+1)=es at hes hll hnd hw;refine⟨_,rfl,?_⟩;simp only [zz,reduceCtorEq,List.length_map];intro hcap;refine Jj es (fun _ l' acc=>acc++l') (fun i acc=>[.int .i64 i,.slice (Z0Q acc)]) (fun i acc=>acc=es.take i) [] es (by simp) (by simp) 0 (fun _ _=>rfl) rfl ?_ ?_
   · intro i hi acc hI hgo;simp only [zz,reduceCtorEq,List.length_map,hi,J0 hi,Ent.enc];refine⟨by omega,acc++[es[i]],⟨by rw [Z1] <;> omega,?_⟩,by rw [hI,List.take_succ_eq_append_getElem hi],by simpa using hgo⟩;have hno:ZL acc es[i].pa=none:=List.find?_eq_none.2 fun x hx=>by
       rw [hI]at hx;obtain⟨k,hk,rfl⟩:=List.getElem_of_mem hx;simp only [decide_eq_true_eq];intro h;have hk2:k < i:=by simp at hk;omega
       have:=List.pairwise_iff_getElem.1 hnd k i (by simp;omega) (by simpa using hi) hk2;simp only [List.getElem_take]at h;exact this (by simpa using h)
     rcases Z09 es[i].pa acc 0 with⟨h1,h2⟩|⟨j,hj,h1,h2⟩
     · simp only [Par.enc]at h2;simp only [h2];simp [Z0Q,rowE,Par.enc,Val.enc]
     · rw [hno]at h1;cases h1
   · intro acc hI hgo;simp only [List.append_nil]at hgo;subst hgo;simp only [zz,reduceCtorEq,List.length_map,Nat.lt_irrefl];have h:=Z21 hes;rw [hw]at h;exact hK _ _ h
theorem Z5z:Contract Tryz.prog 61 fun args K=>∃(l:Lis) (e:Int),l.Ok∧I64 e∧args=[.agg l.enc,.int .i64 e]∧K [.d (.agg (if e=0 then l else zeroL).enc),.d (.int .i64 e)]:=by
 refine .of (by kernel_rfl) ZgV ?_;rintro _ K ⟨l,e,hl,he,rfl,hK⟩ hsm;refine⟨l.enc++[.int .i64 e],rfl,by exact Zbh hl he,?_⟩;simp only [zz,reduceCtorEq,t61,Lis.enc];refine⟨fun h=>?_,fun h=>?_⟩
 · rw [if_neg h]at hK;simpa [Lis.enc,zeroL]using hK
 · have h:e=0:=by simpa using h
   subst h;simpa [Lis.enc]using hK
theorem Z6W {xs:List Ent}:∀(cs:List Ent) (i:Nat),cs=xs.drop i→(∀m∈cs,Z3 m.pa=0∧Y7 m.va=0)→(∀j,i≤j→0 < j→(hj:j < xs.length)→Y3 (xs[j - 1]'(by omega)).pa (xs[j]).pa=true)→WZ xs i cs=0
 | [],_,_,_,_=>rfl
 | c ::cs,i,he,h1,h2=>by
   have hlt:i < xs.length:=by
     rcases Nat.lt_or_ge i xs.length with h|h
     · exact h
     · rw [List.drop_eq_nil_of_le h]at he;cases he
   rw [List.drop_eq_getElem_cons hlt]at he;obtain⟨rfl,rfl⟩:=List.cons.inj he;have hc:=h1 _ List.mem_cons_self;have ih:=Z6W (xs.drop (i+1)) (i+1) rfl (fun m hm=>h1 m (List.mem_cons_of_mem _ hm)) (fun j a b hj=>h2 j (by omega) b hj);have e0:e15 xs[i]=0:=by unfold e15;rw [if_neg (by simp [hc.1])];exact hc.2
   simp only [WZ];rw [if_neg (by simp [e0]),if_neg]
   · exact ih
   · rintro⟨h0,hb⟩;have:=h2 i (Nat.le_refl _) h0 hlt;rw [getElem!_pos xs (i - 1) (by omega)]at hb;rw [this]at hb;cases hb
structure RightEs (es:List Ent):Prop where
 par:∀e∈es,Z3 e.pa=0
 val:∀e∈es,Y7 e.va=0
 rising:es.Pairwise fun a b=>Y3 a.pa b.pa=true
theorem RightE.es {es:List Ent} (h:RightE es):RightEs es:=⟨h.par,h.val,h.rising⟩
theorem RightEs.nodup {es:List Ent} (h:RightEs es):(es.map (·.pa)).Nodup:=by
 rw [List.Nodup,List.pairwise_map];exact h.rising.imp fun {a b} hab e=>by rw [e,Wb]at hab;cases hab
theorem RightEs.each {n:Nat} {es:List Ent} (h:RightEs es) {part:Int} (h1:1≤part) (h2:part≤(n:Int)):∀m∈givM es part,Z3 m.pa=0∧Y7 m.va=0∧1≤m.part∧m.part≤(n:Int):=by
 intro m hm;obtain⟨e,he,rfl⟩:=List.mem_map.1 hm;exact⟨h.par e he,h.val e he,h1,h2⟩
theorem RightEs.filter {es:List Ent} (h:RightEs es) (p:Ent→Bool):RightEs (es.filter p):=
 ⟨fun e he=>h.par e (List.mem_filter.1 he).1,fun e he=>h.val e (List.mem_filter.1 he).1,h.rising.filter p⟩
theorem RightEs.revalue {es:List Ent} (h:RightEs es) (g:Par→Val) (hg:∀e∈es,Y7 (g e.pa)=0):RightEs (es.map fun e=>(⟨e.pa,g e.pa⟩:Ent)):=by
 refine⟨fun e he=>?_,fun e he=>?_,?_⟩
 · obtain⟨x,hx,rfl⟩:=List.mem_map.1 he;exact h.par x hx
 · obtain⟨x,hx,rfl⟩:=List.mem_map.1 he;exact hg x hx
 · rw [List.pairwise_map];exact h.rising
theorem RightEs.ofPars {ps:List Par} (hr:Yz ps) (hp:∀p∈ps,Z3 p=0) (g:Par→Val) (hg:∀p,Y7 (g p)=0):RightEs (ps.map fun p=>(⟨p,g p⟩:Ent)):=by
 refine⟨fun e he=>?_,fun e he=>?_,?_⟩
 · obtain⟨x,hx,rfl⟩:=List.mem_map.1 he;exact hp x hx
 · obtain⟨x,hx,rfl⟩:=List.mem_map.1 he;exact hg x
 · rw [List.pairwise_map];exact hr
theorem Z5g {es:List Ent} (h:Yj es=0):es.length≤4096:=by
 unfold Yj at h;split at h
 · cases h
 · omega
theorem Zbs {es:List Ent} (h:RightEs es) (hl:es.length≤4096):Yj es=0:=by
 unfold Yj;rw [if_neg (by omega)];refine Z6W es 0 rfl (fun m hm=>⟨h.par m hm,h.val m hm⟩) fun j _ h0 hj=>?_
 exact List.pairwise_iff_getElem.1 h.rising (j - 1) j (by omega) hj (by omega)
theorem Z6t {q:Par→Bool} {m:Mov} (hq:q m.pa=true):∀a:List Mov,1+(a.filter fun x=>q x.pa&&!decide (x.pa=m.pa)).length≤((putM a m).filter fun x=>q x.pa).length
 | []=>by simp [putM,hq]
 | x ::a=>by
   have ih:=Z6t hq a;simp only [putM];split
   · rename_i hb;have hne:x.pa≠m.pa:=fun e=>by rw [e,Wb]at hb;cases hb
     by_cases hx:q x.pa=true
     · rw [List.filter_cons_of_pos (by simp [hx,hne]),List.filter_cons_of_pos (p:=fun x:Mov=>q x.pa) hx,List.length_cons,List.length_cons];omega
     · rw [List.filter_cons_of_neg (by simp [hx]),List.filter_cons_of_neg (p:=fun x:Mov=>q x.pa) hx];exact ih
   have sub:(a.filter fun x=>q x.pa&&!decide (x.pa=m.pa)).length≤(a.filter fun x=>q x.pa).length:=by
     have:(a.filter fun x=>q x.pa&&!decide (x.pa=m.pa))=(a.filter fun x=>q x.pa).filter fun x=>!decide (x.pa=m.pa):=by
       rw [List.filter_filter];congr 1;funext y;rw [Bool.and_comm]
     rw [this];exact List.length_filter_le _ _
   split
   · rename_i hb he;rw [List.filter_cons_of_neg (by simp [he]),List.filter_cons_of_pos (p:=fun x:Mov=>q x.pa) hq,List.length_cons];omega
   · rename_i hb he;rw [List.filter_cons_of_pos (p:=fun x:Mov=>q x.pa) hq,List.length_cons];by_cases hx:q x.pa=true
     · rw [List.filter_cons_of_pos (by simp [hx,he]),List.filter_cons_of_pos (p:=fun x:Mov=>q x.pa) hx,List.length_cons,List.length_cons];omega
     · rw [List.filter_cons_of_neg (by simp [hx]),List.filter_cons_of_neg (p:=fun x:Mov=>q x.pa) hx];omega
theorem Z6y:∀ {b a:List Mov},(b.map (·.pa)).Nodup→b.length+(a.filter fun x=>!(b.map (·.pa)).contains x.pa).length≤(Ww a b).length
 | [],a,_=>by simp [Ww];exact List.length_filter_le _ _
 | m ::b,a,hn=>by
   simp only [List.map_cons,List.nodup_cons]at hn;have ih:=Z6y (b:=b) (a:=putM a m) hn.2;have hq:(!(b.map (·.pa)).contains m.pa)=true:=by simpa using hn.1
   have hk:=Z6t (q:=fun p=>!(b.map (·.pa)).contains p) hq a;have e:(a.filter fun x=>!((m::b).map (·.pa)).contains x.pa)=a.filter fun x=>(!(b.map (·.pa)).contains x.pa)&&!decide (x.pa=m.pa):=by
     congr 1;funext x;simp only [List.map_cons,List.contains_cons,Bool.not_or];rw [Bool.and_comm];congr 1
   rw [e];show _≤(Ww (putM a m) b).length;simp only [List.length_cons];omega
theorem Z5w {d:Cue} {es:List Ent} (hd:J5 d=0) (he:RightEs es):setR d es 1=if 128 < (setC d es 1).moves.length then(zeroC,5)else(setC d es 1,0):=by
 have hC:=Z2A hd;have h1:=hC.one;unfold setR;rw [if_neg (by simp [hd])];by_cases hl:es.length≤4096
 · rw [if_neg (by simp [Zbs he hl]),if_neg (by omega)]
 · have h5:Yj es=5:=by unfold Yj;rw [if_pos (by omega)]
   have hge:=Z6y (b:=givM es 1) (a:=d.moves) (Z3J he.nodup 1);have hll:(givM es 1).length=es.length:=by simp [givM]
   rw [h5,if_pos (by decide),if_pos (by show 128 < (Ww d.moves (givM es 1)).length;omega)]
theorem JX {d:Cue} {es:List Ent} (hd:J5 d=0) (he:RightEs es) {part:Int} (h1:1≤part) (h2:part≤(d.parts.length:Int)) (hl:¬128 < (setC d es part).moves.length):J5 (setC d es part)=0:=
 Z2y hd ((Z2A hd).rc.merge (he.each h1 h2)) (by show(setC d es part).moves.length≤128;omega)
theorem JN {l:Lis} (h1:l.cues.length≤64) (h2:∀c∈l.cues,c.moves.length≤128):Wq l=(l,0):=by
 unfold Wq;rw [if_neg];rintro(h|h)
 · omega
 · obtain⟨c,hc,h⟩:=List.any_eq_true.1 h;have:=h2 c hc;simp only [decide_eq_true_eq]at h;omega
theorem Z6l {l:Lis} (h:64 < l.cues.length):Wq l=(zeroL,5):=by unfold Wq;rw [if_pos (.inl h)]
theorem JL {l:Lis} {c:Cue} (hc:c∈l.cues) (h:128 < c.moves.length):Wq l=(zeroL,5):=by
 unfold Wq;rw [if_pos (.inr (List.any_eq_true.2 ⟨c,hc,by simpa using h⟩))]
theorem Z65 {s:List UInt8} (h:W3 s=0):J5 (Z0p s)=0:=by
 unfold J5 Z0p;simp only;rw [if_neg (by simp [h])];rfl
theorem Z3A {cs:List Cue} {n:Nat} {d:Cue} {es:List Ent} (h:RightEs es) (hv:∀p,Y7 (J3 cs p n)=0):RightEs (JE cs n d es):=
 (h.filter _).revalue (fun p=>J3 cs p n) fun e _=>hv e.pa
theorem Z0v {l:Lis} (hl:l.Ok) (h:J4 Y2 l=0) (out:List Cue) (n:Nat):RightEs (Yc l.cues out n):=
 .ofPars ((WG (by simp [Yz])).filter _) (fun p hp=>(Jt (Zf hl h) p (List.mem_filter.1 hp).1).2) (fun p=>J3 l.cues p (n+1)) fun p=>Z0c h p (n+1)
noncomputable def t16:R:=let x1:T:=Vl (Va 1) (Vl (Va 2) .lnil);let x2:T:=Vl (Vn 0) (Vl (Vn 0) (Vl .nils .lnil));let x3:T:=Vl (Va 22) (Vl (Va 23) .lnil);let x5:List K:=enKs;let x6:T:=Vl (Va 38) (Vl (Va 39) (Vl (Va 40) .lnil));let x7:T:=Vl (Va 12) (Vl (Va 13) (Vl (Va 14) (Vl (Va 15) (Vl (Va 16) (Vl (Va 17) (Vl (Va 18) (Vl (Va 19) .lnil)))))));let x8:T:=Vl (.ptr (Vl (Va 29) .lnil)) .lnil;let x9:T:=Vl (Va 35) (Vl (Va 36) .lnil);let x10:T:=Vl (.ptr (Vl (Va 0) x1)) (Vl (.ptr (Vl (Va 28) .lnil)) .lnil);let x11:List K:=tmKs;let x12:List K:=mvKs;let x13:T:=.o2 .lt (Va 28) (.o1 .len (Va 2));let x14:T:=.o1 .not (Va 26);let x15:T:=.o1 .not (Va 6);let x16:T:=.o2 .ne (Va 20) (Vn 0);let x17:T:=.o2 .ne (Va 24) (Vn 0);let x18:T:=.o2 .le (Vn 0) (Va 28);let x19:T:=.idx (Va 2) (Va 28) 4 .bool;let x0:List K:=[.str,.str,.slice x12,.slice x11,.bool,.bool,.int .i64,.str,.int .i64];let x4:T:=.o1 .not (.ite x15 (.bool true) x14);.call none (.fn 29) [Vl (Va 0) x1] [.cell (.int .i64)] (.ite (.o2 .ne (Va 7) (Vn 0)) (.ret [.d x2,.d (Va 7)]) (.call none (.fn 51) [Va 3] [.cell (.int .i64)] (.ite (.o2 .ne (Va 8) (Vn 0)) (.ret [.d x2,.d (Va 8)]) (.call none (.fn 52) [Va 4] [.cell (.int .i64)] (.ite (.o2 .ne (Va 9) (Vn 0)) (.ret [.d x2,.d (Va 9)]) (.call none (.fn 53) [Vl (Va 0) x1,Va 3] [.cell (.int .i64)] (.ite (.o2 .ge (Va 10) (Vn 0)) (.need (.o2 .le (Vn 0) (Va 10)) (.need (.o2 .lt (Va 10) (.o1 .len (Va 2))) (.call none (.fn 54) [Vl (.idx (Va 2) (Va 10) 0 .str) (Vl (.idx (Va 2) (Va 10) 1 .str) (Vl (.idx (Va 2) (Va 10) 2 (.slice x12)) (Vl (.idx (Va 2) (Va 10) 3 (.slice x11)) (Vl (.idx (Va 2) (Va 10) 4 .bool) (Vl (.idx (Va 2) (Va 10) 5 .bool) (Vl (.idx (Va 2) (Va 10) 6 (.int .i64)) (Vl (.idx (Va 2) (Va 10) 7 .str) (Vl (.idx (Va 2) (Va 10) 8 (.int .i64)) .lnil)))))))),Va 4,Va 5] [.agg x0,.cell (.int .i64)] (.ite x16 (.ret [.d x2,.d (Va 20)]) (.call none (.fn 55) [Vl (Va 0) x1,Vl (Va 11) x7] [.agg [.int .i64,.int .i64,.slice x0],.cell (.int .i64)] (.ite x17 (.ret [.d x2,.d (Va 24)]) (.call none (.fn 56) [Vl (Va 0) x1,Va 3] [.cell .str,.cell .bool,.cell (.int .i64)] (.call none (.fn 53) [Vl (Va 0) x1,Va 25] [.cell (.int .i64)] (.need (.ite x4 x18 (.bool true)) (.need (.ite x4 x13 (.bool true)) (.ite (.ite (.ite x15 (.bool true) x14) (.bool true) x19) (.ret [.d (Vl (Va 21) x3),.d (Vn 0)]) (.call none (.fn 57) [Vl (Va 0) x1,Va 28] [.cell .fn] (.call none (.fn 58) [Va 4,.clo 59 x10] [.cell (.slice x5)] (.guess (.bool true) (.ite (Va 31) (.call none (.fn 53) [Vl (Va 21) x3,Va 25] [.cell (.int .i64)] (.call none (.fn 63) [Va 30,.clo 64 x8] [.cell (.slice x5)] (.call none (.fn 62) [Vl (Va 21) x3,Va 32,Va 33] [.agg [.int .i64,.int .i64,.slice x0],.cell (.int .i64)] (.call none (.fn 61) [Vl (Va 34) x9,Va 37] [.agg [.int .i64,.int .i64,.slice x0],.cell (.int .i64)] (.ret [.d x6,.d (Va 41)]))))) (.call none (.fn 53) [Vl (Va 21) x3,Va 25] [.cell (.int .i64)] (.call none (.fn 63) [Va 30,.clo 64 x8] [.cell (.slice x5)] (.call none (.fn 62) [Vl (Va 21) x3,Va 32,Va 33] [.agg [.int .i64,.int .i64,.slice x0],.cell (.int .i64)] (.call none (.fn 61) [Vl (Va 34) x9,Va 37] [.agg [.int .i64,.int .i64,.slice x0],.cell (.int .i64)] (.ret [.d x6,.d (Va 41)])))))))))))))))))))) (.call none (.fn 54) [Vl (Va 3) (Vl (.str []) (Vl .nils (Vl (.rep (Vn 1) (Vl (Vn 0) (Vl (Vn 0) (Vl (Vn 0) (Vl (Vn 0) (Vl (Vn 0) (Vl (Vn 0) .lnil))))))) (Vl (.bool false) (Vl (.bool false) (Vl (Vn (-1)) (Vl (.str []) (Vl (Vn 0) .lnil)))))))),Va 4,Va 5] [.agg x0,.cell (.int .i64)] (.ite x16 (.ret [.d x2,.d (Va 20)]) (.call none (.fn 55) [Vl (Va 0) x1,Vl (Va 11) x7] [.agg [.int .i64,.int .i64,.slice x0],.cell (.int .i64)] (.ite x17 (.ret [.d x2,.d (Va 24)]) (.call none (.fn 56) [Vl (Va 0) x1,Va 3] [.cell .str,.cell .bool,.cell (.int .i64)] (.call none (.fn 53) [Vl (Va 0) x1,Va 25] [.cell (.int .i64)] (.need (.ite x4 x18 (.bool true)) (.need (.ite x4 x13 (.bool true)) (.ite (.ite (.ite x15 (.bool true) x14) (.bool true) x19) (.ret [.d (Vl (Va 21) x3),.d (Vn 0)]) (.call none (.fn 57) [Vl (Va 0) x1,Va 28] [.cell .fn] (.call none (.fn 58) [Va 4,.clo 59 x10] [.cell (.slice x5)] (.guess (.bool true) (.ite (Va 31) (.call none (.fn 53) [Vl (Va 21) x3,Va 25] [.cell (.int .i64)] (.call none (.fn 63) [Va 30,.clo 64 x8] [.cell (.slice x5)] (.call none (.fn 62) [Vl (Va 21) x3,Va 32,Va 33] [.agg [.int .i64,.int .i64,.slice x0],.cell (.int .i64)] (.call none (.fn 61) [Vl (Va 34) x9,Va 37] [.agg [.int .i64,.int .i64,.slice x0],.cell (.int .i64)] (.ret [.d x6,.d (Va 41)]))))) (.call none (.fn 53) [Vl (Va 21) x3,Va 25] [.cell (.int .i64)] (.call none (.fn 63) [Va 30,.clo 64 x8] [.cell (.slice x5)] (.call none (.fn 62) [Vl (Va 21) x3,Va 32,Va 33] [.agg [.int .i64,.int .i64,.slice x0],.cell (.int .i64)] (.call none (.fn 61) [Vl (Va 34) x9,Va 37] [.agg [.int .i64,.int .i64,.slice x0],.cell (.int .i64)] (.ret [.d x6,.d (Va 41)])))))))))))))))))))))))))
theorem Zhn:fnO Tryz.prog mdA 16 [.agg liKs,.cell .str,.cell (.slice enKs),.cell (.int .i64),.cell .bool]=t16:=by kernel_rfl
noncomputable def t59:R:=.call none (.fn 60) [Vl (.fld (Va 4) 0 (.int .i64)) (Vl (.fld (Va 4) 1 (.int .i64)) (Vl (.fld (Va 4) 2 (.slice J9)) .lnil)),.fld (Va 5) 0 (.int .i64),Vl (Va 0) (Vl (Va 1) .lnil)] [.cell .bool] (.ret [.d (.o1 .not (Va 6))])
theorem ZgX:fnO Tryz.prog mdA 59 ([.agg enKs]++[.cell (.ptr liKs),.cell (.ptr [.int .i64])])=t59:=by kernel_rfl
theorem c59:J2 Tryz.prog 59=true:=by kernel_rfl
noncomputable def t64:R:=.call none (.val (.fld (Va 4) 0 .fn)) [Vl (Va 0) (Vl (Va 1) .lnil)] [.agg [.int .i64,.int .i64]] (.ret [.d (Vl (Va 0) (Vl (Va 1) (Vl (Va 5) (Vl (Va 6) .lnil))))])
theorem ZgS:fnO Tryz.prog mdA 64 ([.agg enKs]++[.cell (.ptr [.fn])])=t64:=by kernel_rfl
theorem c64:J2 Tryz.prog 64=true:=by kernel_rfl
theorem ZfK:Contract Tryz.prog 59 fun args K=>∃(e:Ent) (l:Lis) (i:Nat) (hi:i < l.cues.length),e.Ok∧l.Ok∧l.cues.length≤1000000∧args=[.agg e.enc,.ptr l.enc,.ptr [.int .i64 i]]∧K [.d (.bool (!Wg e.pa l.cues[i]))]:=by
 refine .of c59 ZgX ?_;rintro _ K ⟨e,l,i,hi,he,hl,hlen,rfl,hK⟩ hsm;refine⟨e.enc++[.ptr l.enc,.ptr [.int .i64 (i:Nat)]],rfl,by exact(Ent.has he).append (show HasKs [.ptr liKs,.ptr [.int .i64]] [.ptr l.enc,.ptr [.int .i64 (i:Nat)]]from⟨Lis.has hl,⟨Y4 ⟨by omega,by omega⟩,trivial⟩,trivial⟩),?_⟩;refine Z0 ZcZ ⟨l,i,e.pa,hi,hl,he.1,hlen,by simp only [zz,reduceCtorEq,Ent.enc,Lis.enc,Par.enc,D.cells,D.cell],_,rfl,?_⟩;simp only [zz,reduceCtorEq,Ent.enc];exact hK
theorem ZaI {l:Lis} (hl:l.Ok) {i:Nat} (hi:i < l.cues.length) (hlen:l.cues.length≤1000000) {es:List Ent} (hes:∀e∈es,e.Ok):
   Yp Tryz.prog (.clo 59 [.ptr l.enc,.ptr [.int .i64 (i:Nat)]]) Ent.enc es fun e=>!Wg e.pa l.cues[i]:=by
 refine⟨fun as_ K=>∃e:Ent,e.Ok∧as_=[.agg e.enc]∧K [.d (.bool (!Wg e.pa l.cues[i]))],FvC.of c59 ZfK ?_,fun e he=>⟨e,hes e he,rfl,rfl⟩⟩;rintro _ K ⟨e,he,rfl,hK⟩;refine⟨⟨e,l,i,hi,he,hl,hlen,rfl,hK⟩,Z4 [some (.agg enKs)] (by kernel_rfl) ?_⟩;intro i rk d h1 h2;cases i with
 |zero=>simp at h1 h2;subst h1 h2;exact Ent.has he
 |succ i=>simp at h1
theorem ZfJ:Contract Tryz.prog 64 fun args K=>∃(e:Ent) (f:FuncId) (caps:List D) (W:Par→Val),e.Ok∧(W e.pa).Ok∧Z4A (.clo f caps) W∧args=[.agg e.enc,.ptr [.clo f caps]]∧K [.d (.agg (Ent.enc ⟨e.pa,W e.pa⟩))]:=by
 refine .of c64 ZgS ?_;rintro _ K ⟨e,f,caps,W,he,hw,⟨sf,hf,hs⟩,rfl,hK⟩ hsm;refine⟨e.enc++[.ptr [.clo f caps]],rfl,by exact(Ent.has he).append (show HasKs [.ptr [.fn]] [.ptr [.clo f caps]]from⟨⟨trivial,trivial⟩,trivial⟩),?_⟩;refine W6 (FvC.up' (s:=sf) (fv:=.clo f caps) hf) ⟨fun rs=>rs=[.d (.agg (W e.pa).enc)],?_,fun rs h=>⟨(W e.pa).enc,by rw [h];rfl,⟨Y4 hw.1,Y4 hw.2,trivial⟩,?_⟩⟩
 · simp only [zz,reduceCtorEq,Ent.enc];exact hs e.pa he.1
 · simp only [zz,reduceCtorEq,Ent.enc,Val.enc];exact hK
theorem ZaH {fv:D} {f:FuncId} {caps:List D} {W:Par→Val} (h:Z4A (.clo f caps) W) {es:List Ent} (hes:∀e∈es,e.Ok) (hW:∀p,(W p).Ok):
   Z6f Tryz.prog (.clo 64 [.ptr [.clo f caps]]) Ent.enc Ent.enc es fun e=>⟨e.pa,W e.pa⟩:=by
 refine⟨fun as_ K=>∃e:Ent,e.Ok∧as_=[.agg e.enc]∧K [.d (.agg (Ent.enc ⟨e.pa,W e.pa⟩))],FvC.of c64 ZfJ ?_,fun e he=>⟨e,hes e he,rfl,rfl⟩⟩;rintro _ K ⟨e,he,rfl,hK⟩;refine⟨⟨e,f,caps,W,he,hW e.pa,h,rfl,hK⟩,Z4 [some (.agg enKs)] (by kernel_rfl) ?_⟩;intro i rk d h1 h2;cases i with
 |zero=>simp at h1 h2;subst h1 h2;exact Ent.has he
 |succ i=>simp at h1
theorem Z0e {cs A X B:List Cue} {s:List UInt8} (h:Split cs s A X B):(place cs s < 0∧oldC cs s=Z0p s∧X=[])∨∃(j:Nat) (hj:j < cs.length),place cs s=j∧oldC cs s=cs[j]∧X=[cs[j]]:=by
 unfold oldC;rw [Z4c h];rcases h.place with⟨rfl,hp⟩|⟨c,rfl,hc,hp⟩
 · exact .inl ⟨by omega,rfl,rfl⟩
 · have hlt:A.length < cs.length:=by rw [h.eq];simp
   have hg:cs[A.length]=c:=by
     have:cs[A.length]? =some c:=by rw [h.eq];simp
     exact(List.getElem?_eq_some_iff.1 this).2
   exact .inr ⟨A.length,hlt,hp,by rw [hg];rfl,by rw [hg]⟩
theorem Z3q {l:Lis} (hl:l.Ok) (hck:J4 Y2 l=0) {A X B:List Cue} {s:List UInt8} (hs:W3 s=0) (h:Split l.cues s A X B):(oldC l.cues s).Ok∧J5 (oldC l.cues s)=0:=by
 rcases Z0e h with⟨_,h2,_⟩|⟨j,hj,_,h2,_⟩
 · rw [h2];refine⟨⟨by simp [Z0p],?_,show I64 (-1)from⟨by decide,by decide⟩,show I64 0 from⟨by decide,by decide⟩⟩,Z65 hs⟩;intro t ht;simp only [Z0p,List.mem_singleton]at ht;subst ht;exact⟨⟨by decide,by decide⟩,⟨by decide,by decide⟩,⟨by decide,by decide⟩,⟨by decide,by decide⟩,⟨by decide,by decide⟩,⟨by decide,by decide⟩⟩
 · rw [h2];exact⟨hl.cues _ (List.getElem_mem hj),(Zc hck).cues _ (List.getElem_mem hj)⟩
theorem Z20 {cs A X B':List Cue} {d:Cue} (h:cs=A++X++d::B') (p:Par):J3 cs p ((A++X).length+1)=vl (d::(A++X).reverse) p:=by
 rw [Jp cs p _ (by rw [h];simp;omega),h];congr 1;rw [show(A++X)++d::B'=((A++X)++[d])++B' by simp,List.take_left' (by simp;omega)];simp
theorem Z98 {l:Lis} {c:Cue} {s:List UInt8} {A X B:List Cue} (h1:J4 Y2 l=0) (hc:J5 c=0) (hn:c.num=s) (h:Split l.cues s A X B):
   putR l c=if 64 < (A++c::B).length then(zeroL,5)else({l with cues:=A++c::B},0):=by
 unfold putR;rw [if_neg (by simpa using h1),if_neg (by simpa using hc),hn,h.without,h.ins hn]
theorem Z7e {l:Lis} {s:List UInt8} {A X B:List Cue} (h1:J4 Y2 l=0) (h2:W3 s=0) (h:Split l.cues s A X B):
   Z5q l s=match B.head? with|some d=>(d.num,true,(0:Int))|none=>([],false,0):=by
 unfold Z5q;rw [if_neg (by simp [Z1J h1 h2]),Z9o,h.next];cases B <;> rfl
set_option maxHeartbeats 1000000 in
theorem ZaD:Contract Tryz.prog 16 fun args K=>∃(l:Lis) (s:List UInt8) (es:List Ent) (part:Int) (only:Bool),l.Ok∧(∀e∈es,e.Ok)∧I64 part∧
   args=[.agg l.enc,.str s,.slice (es.map Ent.enc),.int .i64 part,.bool only]∧K [.d (.agg (YI l s es part only).1.enc),.d (.int .i64 (YI l s es part only).2)]:=by
 refine .of (by kernel_rfl) Zhn ?_;rintro _ K ⟨l,s,es,part,only,hl,hes,hp,rfl,hK⟩ hsm;refine⟨l.enc++[.str s,.slice (es.map Ent.enc),.int .i64 part,.bool only],rfl,by exact(Lis.has hl).append (show HasKs [.str,.slice enKs,.int .i64,.bool] [.str s,.slice (es.map Ent.enc),.int .i64 part,.bool only]from⟨trivial,Zi hes,Y4 hp,trivial,trivial⟩),?_⟩;unfold YI at hK;refine Z0 YD ⟨l,hl,by simp only [zz,reduceCtorEq,Lis.enc],_,rfl,?_⟩;rcases Decidable.em (J4 Y2 l=0)with h1|h1
 rotate_left
 · rw [if_pos h1]at hK;refine W8 (by simp only [zz,reduceCtorEq,Lis.enc,h1]) ?_;simp only [zz,reduceCtorEq,Lis.enc];exact hK
 rw [if_neg (by simpa using h1)]at hK;rw [h1];refine Z6 (by simp only [zz,reduceCtorEq,Lis.enc]) ?_;refine Z0 Z00 ⟨s,by simp only [zz,reduceCtorEq,Lis.enc],_,rfl,?_⟩;rcases Decidable.em (W3 s=0)with h2|h2
 rotate_left
 · rw [if_pos h2]at hK;refine W8 (by simp only [zz,reduceCtorEq,Lis.enc,h2]) ?_;simp only [zz,reduceCtorEq,Lis.enc];exact hK
 rw [if_neg (by simpa using h2)]at hK;rw [h2];refine Z6 (by simp only [zz,reduceCtorEq,Lis.enc]) ?_;refine Z0 Z5A ⟨es,hes,by simp only [zz,reduceCtorEq,Lis.enc],_,rfl,?_⟩;rcases Decidable.em (Yj es=0)with h3|h3
 rotate_left
 · rw [if_pos h3]at hK;refine W8 (by simp only [zz,reduceCtorEq,Lis.enc,h3]) ?_;simp only [zz,reduceCtorEq,Lis.enc];exact hK
 rw [if_neg (by simpa using h3)]at hK;rw [h3];refine Z6 (by simp only [zz,reduceCtorEq,Lis.enc]) ?_;refine Z0 Zch ⟨l,s,hl,by simp only [zz,reduceCtorEq,Lis.enc],_,rfl,?_⟩;have hRL:=Zc h1;have hRT:=Zf hl h1;have hE:=Z0U hes h3;have hel:=Z5g h3;obtain⟨A,X,B,hS⟩:=ZU h2 hRL.rising hRL.num;obtain⟨hoOk,ho16⟩:=Z3q hl h1 h2 hS;have honum:=Z11 hS;have hnext:=hS.next
 have hrec:=YG hS hRL.rising es part only;have hlen64:=hRL.len;have hset:setR (oldC l.cues s) es part=if part < 1∨((oldC l.cues s).parts.length:Int) < part then(zeroC,6)else if 128 < (setC (oldC l.cues s) es part).moves.length then(zeroC,5)else(setC (oldC l.cues s) es part,0):=by
   unfold setR;rw [if_neg (by simpa using ho16),if_neg (by simpa using h3)]
 rcases Z0e hS with⟨hpl,ho,hX⟩|⟨j,hj,hpl,ho,hX⟩
 refine Z6 (by simp only [zz,reduceCtorEq,Lis.enc] <;> omega) ?_;refine Z0 Z8f ⟨oldC l.cues s,es,part,hoOk,hes,hp,by rw [ho];rfl,?_⟩;rotate_left
 refine W8 (by simp only [zz,reduceCtorEq,Lis.enc,hpl] <;> omega) ?_;refine⟨by simp only [zz,reduceCtorEq,Lis.enc,hpl] <;> omega,by simp only [zz,reduceCtorEq,Lis.enc,hpl,List.length_map] <;> omega,?_⟩;refine Z0 Z8f ⟨oldC l.cues s,es,part,hoOk,hes,hp,by rw [ho];simp only [zz,reduceCtorEq,Lis.enc,hpl,J0 hj,Cue.enc],?_⟩
 all_goals
   clear ho;refine⟨_,rfl,?_⟩;rw [hset];rcases Decidable.em (part < 1∨((oldC l.cues s).parts.length:Int) < part)with h4|h4
   · rw [if_pos h4]at hK ⊢;refine W8 (by simp only [zz,reduceCtorEq,Lis.enc];rfl) ?_;simp only [zz,reduceCtorEq,Lis.enc];exact hK
   rw [if_neg h4]at hK ⊢;have hmem:setC (oldC l.cues s) es part∈Yg l.cues s es part only:=by
     rcases hrec with⟨_,h⟩|⟨d,B',_,h⟩ <;> rw [h] <;> simp
   rcases Decidable.em (128 < (setC (oldC l.cues s) es part).moves.length)with h5|h5
   · rw [if_pos h5];rw [JL (l:= {l with cues:=Yg l.cues s es part only}) hmem h5]at hK;refine W8 (by simp only [zz,reduceCtorEq,Lis.enc];rfl) ?_;simp only [zz,reduceCtorEq,Lis.enc];exact hK
   rw [if_neg h5];simp only [not_or,Int.not_lt]at h4;have hc16:=JX ho16 hE.es h4.1 h4.2 h5;have hcOk:=YU hoOk hes hp;have hcnum:(setC (oldC l.cues s) es part).num=s:=honum;generalize hc':setC (oldC l.cues s) es part=c' at *;refine Z6 (by simp only [zz,reduceCtorEq,Lis.enc];rfl) ?_;refine Z0 ZcM ⟨l,c',hl,hcOk,by simp only [zz,reduceCtorEq,Lis.enc,Cue.enc],_,rfl,?_⟩;rw [Z98 h1 hc16 hcnum hS];have hin:∀x∈A++c'::B,x.moves.length≤128∧J5 x=0∧x.Ok:=fun x hx=>by
     rcases List.mem_append.1 hx with hx|hx
     · have hm:x∈l.cues:=by rw [hS.eq];simp [hx]
       exact⟨(Z2A (hRL.cues x hm)).len,hRL.cues x hm,hl.cues x hm⟩
     rcases List.mem_cons.1 hx with rfl|hx
     · exact⟨by omega,hc16,hcOk⟩
     · have hm:x∈l.cues:=by rw [hS.eq];simp [hx]
       exact⟨(Z2A (hRL.cues x hm)).len,hRL.cues x hm,hl.cues x hm⟩
   have hll:(Yg l.cues s es part only).length=(A++c'::B).length:=by
     rcases hrec with⟨rfl,h⟩|⟨d,B',rfl,h⟩ <;> rw [h] <;> simp
   rcases Decidable.em (64 < (A++c'::B).length)with h6|h6
   · rw [if_pos h6];rw [Z6l (l:= {l with cues:=Yg l.cues s es part only}) (by show 64 < (Yg l.cues s es part only).length;omega)]at hK;refine W8 (by simp only [zz,reduceCtorEq,Lis.enc];rfl) ?_;simp only [zz,reduceCtorEq,Lis.enc];exact hK
   rw [if_neg h6];refine Z6 (by simp only [zz,reduceCtorEq,Lis.enc];rfl) ?_;refine Z0 Zci ⟨l,s,hl,by simp only [zz,reduceCtorEq,Lis.enc],_,rfl,?_⟩;rw [Z7e h1 h2 hS];rcases hrec with⟨hB,hr⟩|⟨d,B',hB,hr⟩
   · subst hB;simp only [List.head?_nil];refine Z0 Zch ⟨l,[],hl,by simp only [zz,reduceCtorEq,Lis.enc,Cue.enc],_,rfl,?_⟩;refine⟨by cases only <;> simp only [zz,reduceCtorEq,Lis.enc,Cue.enc],by cases only <;> simp only [zz,reduceCtorEq,Lis.enc,Cue.enc],W8 (by cases only <;> simp only [zz,reduceCtorEq,Lis.enc,Cue.enc]) ?_⟩;rw [hr,JN (by simpa using h6) (fun x hx=>(hin x hx).1)]at hK;simp only [zz,reduceCtorEq,Lis.enc,Cue.enc];simpa [Lis.enc]using hK
   subst hB;simp only [List.head?_cons];have hd:d∈l.cues:=by rw [hS.eq];simp
   have hdR:=hRL.cues d hd;have hnl:(A++X).length < l.cues.length:=by rw [hS.eq];simp <;> omega
   have hget:l.cues[(A++X).length]=d:=by
     have:l.cues[(A++X).length]? =some d:=by rw [hS.eq];simp
     exact(List.getElem?_eq_some_iff.1 this).2
   have hpd:place l.cues d.num=((A++X).length:Nat):=by
     rw [hS.eq];exact YC (hS.rising hRL.rising d B' rfl).1 rfl
   have hpo:place (A++c'::d::B') d.num=((A.length+1:Nat):Int):=by
     rw [show A++c'::d::B'=(A++[c'])++d::B' by simp,YC (fun c hc=>?_) rfl]
     · simp
     · rcases List.mem_append.1 hc with hc|hc
       · exact(hS.rising hRL.rising d B' rfl).2 c hc
       · simp at hc;subst hc;rw [hcnum];exact fun e=>hS.hi_ne d (by simp) e.symm
   have hvs:=fun p=>Z20 hS.eq p
   have hvv:∀p,Y7 (J3 l.cues p ((A++X).length+1))=0:=fun p=>Z0c h1 p _
   have hvo:∀p,(J3 l.cues p ((A++X).length+1)).Ok:=fun p=>Yv hRT p _
   have hkR:=Z3A (cs:=l.cues) (n:=(A++X).length+1) (d:=d) hE.es hvv;have hw:JE l.cues ((A++X).length+1) d es=(es.filter fun e=>!Wg e.pa l.cues[(A++X).length]).map fun e=>(⟨e.pa,J3 l.cues e.pa ((A++X).length+1)⟩:Ent):=by rw [hget];rfl
   generalize hn:(A++X).length=n at *;refine Z0 Zch ⟨l,d.num,hl,by simp only [zz,reduceCtorEq,Lis.enc,Cue.enc],_,rfl,?_⟩;rw [hpd];have hplain:only=false∨d.block=true→Yg l.cues s es part only=A++c'::d::B':=fun h=>by rw [hr,if_pos h]
   refine⟨by cases only <;> simp only [zz,reduceCtorEq,Lis.enc,Cue.enc] <;> omega,by cases only <;> simp only [zz,reduceCtorEq,Lis.enc,Cue.enc,List.length_map] <;> omega,?_⟩;rcases Decidable.em (only=false∨d.block=true)with h7|h7
   · refine W8 (by
       rcases h7 with h7|h7
       · simp only [zz,reduceCtorEq,Lis.enc,Cue.enc,h7]
       · cases only <;> simp only [zz,reduceCtorEq,Lis.enc,Cue.enc,J0 hnl,hget,h7]) ?_
     rw [hplain h7,JN (by simpa using h6) (fun x hx=>(hin x hx).1)]at hK;simp only [zz,reduceCtorEq,Lis.enc,Cue.enc];simpa [Lis.enc]using hK
   have ho7:only=true:=by cases only <;> simp_all
   have hb7:d.block=false:=by cases hb:d.block <;> simp_all
   rw [hr,if_neg h7]at hK;subst ho7;refine Z6 (by simp only [zz,reduceCtorEq,Lis.enc,Cue.enc,J0 hnl,hget,hb7]) ?_;refine Z0 Z34 ⟨l,n+1,hl,h1,by omega,by simp only [zz,reduceCtorEq,Lis.enc,Cue.enc];simp,fun f caps hsv=>⟨_,rfl,?_⟩⟩;refine Z0 Z6U ⟨es,fun e=>!Wg e.pa l.cues[n],59,[.ptr l.enc,.ptr [.int .i64 (n:Nat)]],hes,by omega,by simp only [zz,reduceCtorEq,Lis.enc,Cue.enc],ZaI hl hnl (by omega) hes,_,rfl,?_⟩;intro b _;refine(fun H=>⟨fun _=>H,fun _=>H⟩) ?_;have houtOk:Lis.Ok {l with cues:=A++c'::d::B'}:= {hl with cues:=fun x hx=>(hin x hx).2.2}
   refine Z0 Zch ⟨{l with cues:=A++c'::d::B'},d.num,houtOk,by simp only [zz,reduceCtorEq,Lis.enc,Cue.enc],_,rfl,?_⟩;rw [hpo];refine Z0 Z9x ⟨es.filter fun e=>!Wg e.pa l.cues[n],fun e=>⟨e.pa,J3 l.cues e.pa (n+1)⟩,64,[.ptr [.clo f caps]],fun e he=>hes e (List.mem_filter.1 he).1,fun e he=>⟨(hes e (List.mem_filter.1 he).1).1,hvo _⟩,
     by have:=List.length_filter_le (fun e=>!Wg e.pa l.cues[n]) es;omega,by simp only [zz,reduceCtorEq,Lis.enc,Cue.enc],ZaH (fv:=.clo f caps) hsv (fun e he=>hes e (List.mem_filter.1 he).1) hvo,_,rfl,?_⟩
   rw [←hw];have hkOk:∀e∈JE l.cues (n+1) d es,e.Ok:=fun e he=>by
     rw [hw]at he;obtain⟨x,hx,rfl⟩:=List.mem_map.1 he;exact⟨(hes x (List.mem_filter.1 hx).1).1,hvo _⟩
   have hoi:A.length+1 < (A++c'::d::B').length:=by simp
   have hog:(A++c'::d::B')[A.length+1]=d:=by
     have:(A++c'::d::B')[A.length+1]? =some d:=by simp
     exact(List.getElem?_eq_some_iff.1 this).2
   refine Z0 Z7T ⟨{l with cues:=A++c'::d::B'},A.length+1,JE l.cues (n+1) d es,hoi,houtOk,hkOk,by show(A++c'::d::B').length≤1000000;omega,by simp only [zz,reduceCtorEq,Lis.enc,Cue.enc],?_⟩;refine⟨_,rfl,?_⟩;have hsetl:(A++c'::d::B').set (A.length+1) (setC d (JE l.cues (n+1) d es) 1)=A++c'::setC d (JE l.cues (n+1) d es) 1::B':=by
     rw [show A++c'::d::B'=(A++[c'])++d::B' by simp,List.set_append_right _ _ (by simp)];simp
   have hg:Z0G {l with cues:=A++c'::d::B'} (A.length+1) ((A++c'::d::B')[A.length+1]) (JE l.cues (n+1) d es)=
       if 128 < (setC d (JE l.cues (n+1) d es) 1).moves.length then(zeroL,5)else({l with cues:=A++c'::setC d (JE l.cues (n+1) d es) 1::B'},0):=by
     unfold Z0G;rw [hog,Z5w hdR hkR, ←hsetl];by_cases h:128 < (setC d (JE l.cues (n+1) d es) 1).moves.length
     · simp only [h,if_true];rfl
     · simp only [h,if_false];rfl
   have hgOk:(Z0G {l with cues:=A++c'::d::B'} (A.length+1) ((A++c'::d::B')[A.length+1]) (JE l.cues (n+1) d es)).1.Ok∧I64 (Z0G {l with cues:=A++c'::d::B'} (A.length+1) ((A++c'::d::B')[A.length+1]) (JE l.cues (n+1) d es)).2:=by
     rw [hg];split
     · exact⟨Z5r,show I64 5 from⟨by decide,by decide⟩⟩
     · refine⟨{hl with cues:=fun x hx=>?_},show I64 0 from⟨by decide,by decide⟩⟩;rcases List.mem_append.1 hx with hx|hx
       · exact(hin x (by simp [hx])).2.2
       · rcases List.mem_cons.1 hx with rfl|hx
         · exact hcOk
         · rcases List.mem_cons.1 hx with rfl|hx
           · exact YU (hl.cues d hd) hkOk ⟨by decide,by decide⟩
           · exact(hin x (by simp [hx])).2.2
   refine Z0 Z5z ⟨_,_,hgOk.1,hgOk.2,by simp only [zz,reduceCtorEq,Lis.enc,Cue.enc],_,rfl,?_⟩;rw [hg];by_cases h8:128 < (setC d (JE l.cues (n+1) d es) 1).moves.length
   · rw [if_pos h8];rw [JL (l:= {l with cues:=A++c'::setC d (JE l.cues (n+1) d es) 1::B'}) (c:=setC d (JE l.cues (n+1) d es) 1) (by simp) h8]at hK;simp only [zz,reduceCtorEq,Lis.enc,Cue.enc];exact hK
   · rw [if_neg h8]
     rw [JN (by have:(A++c'::setC d (JE l.cues (n+1) d es) 1::B').length=(A++c'::d::B').length:=(by simp);show (A++c'::setC d (JE l.cues (n+1) d es) 1::B').length≤64;omega) (fun x hx=>by
       rcases List.mem_append.1 hx with hx|hx
       · exact(hin x (by simp [hx])).1
       · rcases List.mem_cons.1 hx with rfl|hx
         · omega
         · rcases List.mem_cons.1 hx with rfl|hx
           · omega
           · exact(hin x (by simp [hx])).1)]at hK
     simp only [zz,reduceCtorEq,Lis.enc,Cue.enc];exact hK
theorem Zbi {cs:List Cue} {i:Nat} (hi:i < cs.length) (es:List Ent):Z7U cs i es=cs.set i (setC cs[i] es 1):=by
 unfold Z7U;apply List.ext_getElem?;intro k;rw [List.getElem?_modify,List.getElem?_set];by_cases h:i=k
 · subst h;simp [hi]
 · simp [h]
noncomputable def t22:R:=.call none (.fn 44) [Vl (Va 0) (Vl (Va 1) (Vl (Va 2) .lnil))] [.cell .bool] (.call (some (Va 4)) (.fn 77) [Va 3] [.cell .bool] (.ret [.d (.ite (Va 4) (Va 5) (.bool false))]))
theorem Z97 {l:Lis} (hl:l.Ok) (h1:J4 Y2 l=0) {s:List UInt8} (h2:W3 s=0) {es:List Ent} (hes:∀e∈es,e.Ok) {part:Int} (hp:I64 part) (only:Bool):∀c∈Yg l.cues s es part only,c.Ok:=by
 have hRL:=Zc h1;have hRT:=Zf hl h1;obtain⟨A,X,B,hS⟩:=ZU h2 hRL.rising hRL.num;have ho:=(Z3q hl h1 h2 hS).1;have hc:=YU ho hes hp;have hA:∀c∈A,c.Ok:=fun c hc=>hl.cues c (by rw [hS.eq];simp [hc])
 have hB:∀c∈B,c.Ok:=fun c hc=>hl.cues c (by rw [hS.eq];simp [hc])
 have hk:∀d n,∀e∈JE l.cues n d es,e.Ok:=fun d n e he=>by
   obtain⟨x,hx,rfl⟩:=List.mem_map.1 he;exact⟨(hes x (List.mem_filter.1 hx).1).1,Yv hRT _ _⟩
 intro x hx;rcases YG hS hRL.rising es part only with⟨rfl,hr⟩|⟨d,B',rfl,hr⟩
 · rw [hr]at hx;rcases List.mem_append.1 hx with hx|hx
   · exact hA x hx
   · simp at hx;subst hx;exact hc
 · rw [hr]at hx;rcases List.mem_append.1 hx with hx|hx
   · exact hA x hx
   rcases List.mem_cons.1 hx with rfl|hx
   · exact hc
   rcases List.mem_cons.1 hx with rfl|hx
   · split
     · exact hB d (by simp)
     · exact YU (hB d (by simp)) (hk _ _) ⟨by decide,by decide⟩
   · exact hB x (by simp [hx])
end Go.Sx.La
