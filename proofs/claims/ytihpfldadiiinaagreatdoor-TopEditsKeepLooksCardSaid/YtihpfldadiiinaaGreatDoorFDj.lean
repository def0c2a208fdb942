/-
 Part 10 of the proof: the executor over the kit's code with its soundness, or contracts of functions.
-/
import Derived.Test.YtihpfldadiiinaaGreatDoorFDi
set_option linter.unusedSimpArgs false
set_option linter.unusedVariables false
set_option linter.unusedSectionVars false
set_option linter.defProp false
set_option maxRecDepth 100000
namespace Go.Sx.La
open Go Go.Sx Go.RowKit Go.Proofs
noncomputable def t17:R:=let x0:List K:=liKs;let x1:T:=Vl (Va 11) (Vl (Va 12) .lnil);let x2:T:=Vl (Va 1) (Vl (Va 2) .lnil);let x3:List K:=enKs;let x4:List K:=[.int .i64,.int .i64];let x5:T:=Vl (Va 17) .lnil;let x6:T:=Vl (.ptr (Vl (Va 20) .lnil)) .lnil;let x7:T:=Vl (Va 30) (Vl (Va 31) (Vl (Va 32) .lnil));let x8:T:=Vl (Va 29) (Vl (Va 30) (Vl (Va 31) .lnil));let x9:T:=Vl (.ptr x5) .lnil;let x10:T:=Vl (Va 6) (Vl (Va 7) .lnil);let x12:T:=Vl (Va 27) (Vl (Va 28) .lnil);let x13:T:=Vl (Va 26) (Vl (Va 27) .lnil);let x14:T:=Vl (Va 28) (Vl (Va 29) (Vl (Va 30) .lnil));let x15:T:=Vl (.ptr (Vl (Va 19) .lnil)) .lnil;let x16:T:=Vl (Va 25) (Vl (Va 26) .lnil);let x17:T:=Vl (Vn 0) (Vl (Vn 0) (Vl .nils .lnil));let x18:T:=Vl (Va 18) .lnil;let x19:T:=Vl (.ptr x5) (Vl (.ptr (Vl (Va 21) .lnil)) .lnil);let x20:T:=Vl (.ptr x5) x6;let x11:T:=Vl (.ptr x18) .lnil;.call none (.fn 65) [Vl (Va 0) x2,Va 3] [.agg x0,.cell (.int .i64),.cell (.int .i64)] (.ite (.o2 .ne (Va 9) (Vn 0)) (.ret [.d x17,.d (Va 9)]) (.call none (.fn 66) [Vl (Va 0) x2,Va 3] [.agg x0,.cell .bool,.cell (.int .i64)] (.ite (.o2 .ne (Va 14) (Vn 0)) (.ret [.d x17,.d (Va 14)]) (.fact (.ite (.o1 .not (.o1 .not (Va 4))) (.o2 .le (.o1 .len (Va 12)) (Vn 140737488355328)) (.bool true)) (.ite (.ite (.o1 .not (Va 4)) (.bool true) (.o2 .eq (Va 8) (.o1 .len (Va 12)))) (.ret [.d (Vl (Va 10) x1),.d (Vn 0)]) (.guess (.bool true) (.ite (Va 15) (.guess (.bool true) (.ite (Va 16) (.call none (.fn 57) [Vl (Va 5) x10,.o2 (.add .i64) (Va 8) (Vn 1)] [.cell .fn] (.guess (.bool true) (.ite (Va 18) (.guess (.bool true) (.ite (Va 19) (.call none (.fn 57) [Vl (Va 10) x1,Va 8] [.cell .fn] (.guess (.bool true) (.ite (Va 21) (.call none (.fn 67) [Vl (Va 0) x2] [.cell (.slice x4),.cell (.int .i64)] (.call none (.fn 68) [Va 22,.clo 69 x20] [.cell (.slice x4)] (.call none (.fn 70) [Va 24,.clo 71 x9] [.cell (.slice x3)] (.call none (.fn 62) [Vl (Va 10) x1,Va 8,Va 25] [.agg x0,.cell (.int .i64)] (.call none (.fn 61) [Vl (Va 26) x12,Va 29] [.agg x0,.cell (.int .i64)] (.ret [.d x7,.d (Va 33)])))))) (.call none (.fn 67) [Vl (Va 0) x2] [.cell (.slice x4),.cell (.int .i64)] (.call none (.fn 68) [Va 22,.clo 69 x20] [.cell (.slice x4)] (.call none (.fn 70) [Va 24,.clo 71 x9] [.cell (.slice x3)] (.call none (.fn 62) [Vl (Va 10) x1,Va 8,Va 25] [.agg x0,.cell (.int .i64)] (.call none (.fn 61) [Vl (Va 26) x12,Va 29] [.agg x0,.cell (.int .i64)] (.ret [.d x7,.d (Va 33)]))))))))) (.guess (.bool true) (.ite (Va 20) (.call none (.fn 57) [Vl (Va 10) x1,Va 8] [.cell .fn] (.call none (.fn 67) [Vl (Va 0) x2] [.cell (.slice x4),.cell (.int .i64)] (.call none (.fn 68) [Va 22,.clo 69 x19] [.cell (.slice x4)] (.call none (.fn 70) [Va 24,.clo 71 x9] [.cell (.slice x3)] (.call none (.fn 62) [Vl (Va 10) x1,Va 8,Va 25] [.agg x0,.cell (.int .i64)] (.call none (.fn 61) [Vl (Va 26) x12,Va 29] [.agg x0,.cell (.int .i64)] (.ret [.d x7,.d (Va 33)]))))))) (.call none (.fn 57) [Vl (Va 10) x1,Va 8] [.cell .fn] (.call none (.fn 67) [Vl (Va 0) x2] [.cell (.slice x4),.cell (.int .i64)] (.call none (.fn 68) [Va 22,.clo 69 x19] [.cell (.slice x4)] (.call none (.fn 70) [Va 24,.clo 71 x9] [.cell (.slice x3)] (.call none (.fn 62) [Vl (Va 10) x1,Va 8,Va 25] [.agg x0,.cell (.int .i64)] (.call none (.fn 61) [Vl (Va 26) x12,Va 29] [.agg x0,.cell (.int .i64)] (.ret [.d x7,.d (Va 33)]))))))))))) (.guess (.bool true) (.ite (Va 19) (.call none (.fn 57) [Vl (Va 10) x1,Va 8] [.cell .fn] (.call none (.fn 67) [Vl (Va 0) x2] [.cell (.slice x4),.cell (.int .i64)] (.call none (.fn 68) [Va 21,.clo 69 x20] [.cell (.slice x4)] (.call none (.fn 70) [Va 23,.clo 71 x9] [.cell (.slice x3)] (.call none (.fn 62) [Vl (Va 10) x1,Va 8,Va 24] [.agg x0,.cell (.int .i64)] (.call none (.fn 61) [Vl (Va 25) x13,Va 28] [.agg x0,.cell (.int .i64)] (.ret [.d x8,.d (Va 32)]))))))) (.call none (.fn 57) [Vl (Va 10) x1,Va 8] [.cell .fn] (.call none (.fn 67) [Vl (Va 0) x2] [.cell (.slice x4),.cell (.int .i64)] (.call none (.fn 68) [Va 21,.clo 69 x20] [.cell (.slice x4)] (.call none (.fn 70) [Va 23,.clo 71 x9] [.cell (.slice x3)] (.call none (.fn 62) [Vl (Va 10) x1,Va 8,Va 24] [.agg x0,.cell (.int .i64)] (.call none (.fn 61) [Vl (Va 25) x13,Va 28] [.agg x0,.cell (.int .i64)] (.ret [.d x8,.d (Va 32)])))))))))))) (.guess (.bool true) (.ite (Va 17) (.call none (.fn 57) [Vl (Va 5) x10,.o2 (.add .i64) (Va 8) (Vn 1)] [.cell .fn] (.guess (.bool true) (.ite (Va 19) (.call none (.fn 57) [Vl (Va 10) x1,Va 8] [.cell .fn] (.call none (.fn 67) [Vl (Va 0) x2] [.cell (.slice x4),.cell (.int .i64)] (.call none (.fn 68) [Va 21,.clo 69 (Vl (.ptr x18) x6)] [.cell (.slice x4)] (.call none (.fn 70) [Va 23,.clo 71 x11] [.cell (.slice x3)] (.call none (.fn 62) [Vl (Va 10) x1,Va 8,Va 24] [.agg x0,.cell (.int .i64)] (.call none (.fn 61) [Vl (Va 25) x13,Va 28] [.agg x0,.cell (.int .i64)] (.ret [.d x8,.d (Va 32)]))))))) (.call none (.fn 57) [Vl (Va 10) x1,Va 8] [.cell .fn] (.call none (.fn 67) [Vl (Va 0) x2] [.cell (.slice x4),.cell (.int .i64)] (.call none (.fn 68) [Va 21,.clo 69 (Vl (.ptr x18) x6)] [.cell (.slice x4)] (.call none (.fn 70) [Va 23,.clo 71 x11] [.cell (.slice x3)] (.call none (.fn 62) [Vl (Va 10) x1,Va 8,Va 24] [.agg x0,.cell (.int .i64)] (.call none (.fn 61) [Vl (Va 25) x13,Va 28] [.agg x0,.cell (.int .i64)] (.ret [.d x8,.d (Va 32)])))))))))) (.call none (.fn 57) [Vl (Va 5) x10,.o2 (.add .i64) (Va 8) (Vn 1)] [.cell .fn] (.call none (.fn 57) [Vl (Va 10) x1,Va 8] [.cell .fn] (.call none (.fn 67) [Vl (Va 0) x2] [.cell (.slice x4),.cell (.int .i64)] (.call none (.fn 68) [Va 20,.clo 69 (Vl (.ptr x18) x15)] [.cell (.slice x4)] (.call none (.fn 70) [Va 22,.clo 71 x11] [.cell (.slice x3)] (.call none (.fn 62) [Vl (Va 10) x1,Va 8,Va 23] [.agg x0,.cell (.int .i64)] (.call none (.fn 61) [Vl (Va 24) x16,Va 27] [.agg x0,.cell (.int .i64)] (.ret [.d x14,.d (Va 31)])))))))))))) (.guess (.bool true) (.ite (Va 16) (.call none (.fn 57) [Vl (Va 5) x10,.o2 (.add .i64) (Va 8) (Vn 1)] [.cell .fn] (.guess (.bool true) (.ite (Va 18) (.call none (.fn 57) [Vl (Va 10) x1,Va 8] [.cell .fn] (.call none (.fn 67) [Vl (Va 0) x2] [.cell (.slice x4),.cell (.int .i64)] (.call none (.fn 68) [Va 20,.clo 69 (Vl (.ptr x5) x15)] [.cell (.slice x4)] (.call none (.fn 70) [Va 22,.clo 71 x9] [.cell (.slice x3)] (.call none (.fn 62) [Vl (Va 10) x1,Va 8,Va 23] [.agg x0,.cell (.int .i64)] (.call none (.fn 61) [Vl (Va 24) x16,Va 27] [.agg x0,.cell (.int .i64)] (.ret [.d x14,.d (Va 31)]))))))) (.call none (.fn 57) [Vl (Va 10) x1,Va 8] [.cell .fn] (.call none (.fn 67) [Vl (Va 0) x2] [.cell (.slice x4),.cell (.int .i64)] (.call none (.fn 68) [Va 20,.clo 69 (Vl (.ptr x5) x15)] [.cell (.slice x4)] (.call none (.fn 70) [Va 22,.clo 71 x9] [.cell (.slice x3)] (.call none (.fn 62) [Vl (Va 10) x1,Va 8,Va 23] [.agg x0,.cell (.int .i64)] (.call none (.fn 61) [Vl (Va 24) x16,Va 27] [.agg x0,.cell (.int .i64)] (.ret [.d x14,.d (Va 31)])))))))))) (.call none (.fn 57) [Vl (Va 5) x10,.o2 (.add .i64) (Va 8) (Vn 1)] [.cell .fn] (.call none (.fn 57) [Vl (Va 10) x1,Va 8] [.cell .fn] (.call none (.fn 67) [Vl (Va 0) x2] [.cell (.slice x4),.cell (.int .i64)] (.call none (.fn 68) [Va 19,.clo 69 (Vl (.ptr x5) x11)] [.cell (.slice x4)] (.call none (.fn 70) [Va 21,.clo 71 x9] [.cell (.slice x3)] (.call none (.fn 62) [Vl (Va 10) x1,Va 8,Va 22] [.agg x0,.cell (.int .i64)] (.call none (.fn 61) [Vl (Va 23) (Vl (Va 24) (Vl (Va 25) .lnil)),Va 26] [.agg x0,.cell (.int .i64)] (.ret [.d (Vl (Va 27) (Vl (Va 28) (Vl (Va 29) .lnil))),.d (Va 30)])))))))))))))))))
theorem Zhm:fnO Tryz.prog mdA 17 [.agg liKs,.cell .str,.cell .bool]=t17:=by kernel_rfl
noncomputable def t69:R:=.call none (.val (.fld (Va 2) 0 .fn)) [Vl (Va 0) (Vl (Va 1) .lnil)] [.agg [.int .i64,.int .i64]] (.call none (.val (.fld (Va 3) 0 .fn)) [Vl (Va 0) (Vl (Va 1) .lnil)] [.agg [.int .i64,.int .i64]] (.ret [.d (.o1 .not (.o2 .band (.o2 .eq (Va 4) (Va 6)) (.o2 .band (.o2 .eq (Va 5) (Va 7)) (.bool true))))]))
theorem ZgM:fnO Tryz.prog mdA 69 ([.agg [.int .i64,.int .i64]]++[.cell (.ptr [.fn]),.cell (.ptr [.fn])])=t69:=by kernel_rfl
theorem c69:J2 Tryz.prog 69=true:=by kernel_rfl
noncomputable def t71:R:=.call none (.val (.fld (Va 2) 0 .fn)) [Vl (Va 0) (Vl (Va 1) .lnil)] [.agg [.int .i64,.int .i64]] (.ret [.d (Vl (Va 0) (Vl (Va 1) (Vl (Va 3) (Vl (Va 4) .lnil))))])
theorem ZgE:fnO Tryz.prog mdA 71 ([.agg [.int .i64,.int .i64]]++[.cell (.ptr [.fn])])=t71:=by kernel_rfl
theorem c71:J2 Tryz.prog 71=true:=by kernel_rfl
theorem Zg7:Contract Tryz.prog 69 fun args K=>∃(p:Par) (f g:FuncId) (cf cg:List D) (V W:Par→Val),p.Ok∧(V p).Ok∧(W p).Ok∧Z4A (.clo f cf) V∧Z4A (.clo g cg) W∧args=[.agg p.enc,.ptr [.clo f cf],.ptr [.clo g cg]]∧K [.d (.bool (decide (V p≠W p)))]:=by
 refine .of c69 ZgM ?_;rintro _ K ⟨p,f,g,cf,cg,V,W,hp,hv,hw,⟨sf,hf,hs⟩,⟨sg,hg,hsg⟩,rfl,hK⟩ hsm;refine⟨p.enc++[.ptr [.clo f cf],.ptr [.clo g cg]],rfl,by exact(Par.has hp).append (show HasKs [.ptr [.fn],.ptr [.fn]] [.ptr [.clo f cf],.ptr [.clo g cg]]from⟨⟨trivial,trivial⟩,⟨trivial,trivial⟩,trivial⟩),?_⟩;refine W6 (FvC.up' (s:=sf) (fv:=.clo f cf) hf) ⟨fun rs=>rs=[.d (.agg (V p).enc)],?_,fun rs h=>⟨(V p).enc,by rw [h];rfl,⟨Y4 hv.1,Y4 hv.2,trivial⟩,?_⟩⟩
 · simp only [zz,reduceCtorEq,Par.enc];exact hs p hp
 refine W6 (FvC.up' (s:=sg) (fv:=.clo g cg) hg) ⟨fun rs=>rs=[.d (.agg (W p).enc)],?_,fun rs h=>⟨(W p).enc,by rw [h];rfl,⟨Y4 hw.1,Y4 hw.2,trivial⟩,?_⟩⟩
 · simp only [zz,reduceCtorEq,Par.enc];exact hsg p hp
 simp only [zz,reduceCtorEq,Par.enc,Val.enc];have e:decide (V p≠W p)=!(decide ((V p).pal=(W p).pal)&&(decide ((V p).lev=(W p).lev)&&true)):=by
   rw [Bool.eq_iff_iff];simp [Z8s]
 rw [e]at hK;simpa using hK
theorem ZbJ {f g:FuncId} {cf cg:List D} {V W:Par→Val} (hV:Z4A (.clo f cf) V) (hW:Z4A (.clo g cg) W) {ps:List Par} (hps:∀p∈ps,p.Ok) (hv:∀p,(V p).Ok) (hw:∀p,(W p).Ok):
   Yp Tryz.prog (.clo 69 [.ptr [.clo f cf],.ptr [.clo g cg]]) Par.enc ps fun p=>decide (V p≠W p):=by
 refine⟨fun as_ K=>∃p:Par,p.Ok∧as_=[.agg p.enc]∧K [.d (.bool (decide (V p≠W p)))],FvC.of c69 Zg7 ?_,fun p hp=>⟨p,hps p hp,rfl,rfl⟩⟩;rintro _ K ⟨p,hp,rfl,hK⟩;refine⟨⟨p,f,g,cf,cg,V,W,hp,hv p,hw p,hV,hW,rfl,hK⟩,Z4 [some (.agg paKs)] (by kernel_rfl) ?_⟩;intro i rk d h1 h2;cases i with
 |zero=>simp at h1 h2;subst h1 h2;exact Par.has hp
 |succ i=>simp at h1
theorem Zg6:Contract Tryz.prog 71 fun args K=>∃(p:Par) (f:FuncId) (caps:List D) (W:Par→Val),p.Ok∧(W p).Ok∧Z4A (.clo f caps) W∧args=[.agg p.enc,.ptr [.clo f caps]]∧K [.d (.agg (Ent.enc ⟨p,W p⟩))]:=by
 refine .of c71 ZgE ?_;rintro _ K ⟨p,f,caps,W,hp,hw,⟨sf,hf,hs⟩,rfl,hK⟩ hsm;refine⟨p.enc++[.ptr [.clo f caps]],rfl,by exact(Par.has hp).append (show HasKs [.ptr [.fn]] [.ptr [.clo f caps]]from⟨⟨trivial,trivial⟩,trivial⟩),?_⟩;refine W6 (FvC.up' (s:=sf) (fv:=.clo f caps) hf) ⟨fun rs=>rs=[.d (.agg (W p).enc)],?_,fun rs h=>⟨(W p).enc,by rw [h];rfl,⟨Y4 hw.1,Y4 hw.2,trivial⟩,?_⟩⟩
 · simp only [zz,reduceCtorEq,Par.enc];exact hs p hp
 · simp only [zz,reduceCtorEq,Par.enc,Val.enc];exact hK
theorem ZbI {f:FuncId} {caps:List D} {W:Par→Val} (h:Z4A (.clo f caps) W) {ps:List Par} (hps:∀p∈ps,p.Ok) (hW:∀p,(W p).Ok):
   Z6f Tryz.prog (.clo 71 [.ptr [.clo f caps]]) Par.enc Ent.enc ps fun p=>⟨p,W p⟩:=by
 refine⟨fun as_ K=>∃p:Par,p.Ok∧as_=[.agg p.enc]∧K [.d (.agg (Ent.enc ⟨p,W p⟩))],FvC.of c71 Zg6 ?_,fun p hp=>⟨p,hps p hp,rfl,rfl⟩⟩;rintro _ K ⟨p,hp,rfl,hK⟩;refine⟨⟨p,f,caps,W,hp,hW p,h,rfl,hK⟩,Z4 [some (.agg paKs)] (by kernel_rfl) ?_⟩;intro i rk d h1 h2;cases i with
 |zero=>simp at h1 h2;subst h1 h2;exact Par.has hp
 |succ i=>simp at h1
theorem Zdq {l:Lis} {s:List UInt8} (h:Ya l s=0):J4 Y2 l=0:=by
 unfold Ya at h;split at h
 · contradiction
 · rename_i h1;simpa using h1
structure Around (l:Lis) (s:List UInt8) (A:List Cue) (c:Cue) (B:List Cue):Prop where
 ck:J4 Y2 l=0
 num:W3 s=0
 eq:l.cues=A++c::B
 n:upto l s=A.length+1
 cn:c.num=s
 wo:without l.cues s=A++B
 rt:RightT l
 sp:Split l.cues s A [c] B
theorem Z4i {l:Lis} {s:List UInt8} (hl:l.Ok) (h:Ya l s=0):∃A c B,Around l s A c B:=by
 obtain⟨hRT,hs,hp0,hp1,hp2,hp3⟩:=Zo hl h;have hck:=Zdq h;have hRL:=Zc hck;obtain⟨A,X,B,hS⟩:=ZU hs hRL.rising hRL.num;rcases hS.place with⟨rfl,hp⟩|⟨c,rfl,hc,hp⟩
 · omega
 · exact⟨A,c,B,hck,hs,by rw [hS.eq];simp,by omega,hc,hS.without,hRT,hS⟩
theorem Z45 {l:Lis} {A B:List Cue} {c:Cue} (h:J4 Y2 l=0) (he:l.cues=A++c::B):J4 Y2 {l with cues:=A++B}=0:=by
 have hRL:=Zc h;refine Z1V (by exact Z5S (l:=l) h) ?_ (fun x hx=>hRL.cues x ?_) ?_
 · have:=hRL.len;rw [he]at this;simp at this ⊢;omega
 · rw [he];simp at hx ⊢;rcases hx with hx|hx <;> simp [hx]
 · have hr:=hRL.rising;rw [he]at hr;refine hr.sublist ?_;exact List.Sublist.append_left (List.sublist_cons_self c B) A
theorem Zp {l:Lis} {s:List UInt8} {A B:List Cue} {c:Cue} (h:Around l s A c B) (keep:Bool):
   W9 l.cues s keep=match B with| []=>A|d::B'=>if keep=false then A++d::B' else A++setC d (Yc l.cues (A++d::B') (A.length+1)) 1::B':=by
 have hn:upto ⟨0,0,l.cues⟩ s=A.length+1:=h.n;unfold W9;rw [hn,h.wo,h.eq];cases B with
 |nil=>simp
 | cons d B'=>
   simp only;cases keep with
   |false=>simp
   | true=>
     rw [if_neg (by simp),if_neg (by simp),Nat.add_sub_cancel,Z2n]
theorem Za0 {l:Lis} {s:List UInt8} {A B:List Cue} {c:Cue} (hl:l.Ok) (h:Around l s A c B) (keep:Bool):∀x∈W9 l.cues s keep,x.Ok:=by
 have hA:∀c∈A,c.Ok:=fun c hc=>hl.cues c (by rw [h.eq];simp [hc])
 have hB:∀c∈B,c.Ok:=fun c hc=>hl.cues c (by rw [h.eq];simp [hc])
 intro x hx;rw [Zp h]at hx;cases B with
 |nil=>exact hA x hx
 | cons d B'=>
   simp only at hx;split at hx
   · rcases List.mem_append.1 hx with hx|hx
     · exact hA x hx
     · exact hB x hx
   · rcases List.mem_append.1 hx with hx|hx
     · exact hA x hx
     rcases List.mem_cons.1 hx with rfl|hx
     · refine YU (hB d (by simp)) (fun e he=>?_) ⟨by decide,by decide⟩;obtain⟨p,hp,rfl⟩:=List.mem_map.1 he;exact⟨(Jt h.rt p (List.mem_filter.1 hp).1).1,Yv h.rt _ _⟩
     · exact hB x (by simp [hx])
theorem Z2t {l:Lis} {s:List UInt8} {A B:List Cue} {c:Cue} (h:Around l s A c B) (keep:Bool) (hk:∀d B',B=d::B'→keep=true→(setC d (Yc l.cues (A++d::B') (A.length+1)) 1).moves.length≤128):
   Wq {l with cues:=W9 l.cues s keep}=({l with cues:=W9 l.cues s keep},0):=by
 have hRL:=Zc h.ck;have hl:l.cues.length=A.length+B.length+1:=by rw [h.eq];simp;omega
 have h64:=hRL.len;have hm:∀x∈l.cues,x.moves.length≤128:=fun x hx=>(Z2A (hRL.cues x hx)).len
 have hA:∀x∈A,x.moves.length≤128:=fun x hx=>hm x (by rw [h.eq];simp [hx])
 have hB:∀x∈B,x.moves.length≤128:=fun x hx=>hm x (by rw [h.eq];simp [hx])
 refine JN ?_ fun x hx=>?_
 · show(W9 l.cues s keep).length≤64;rw [Zp h];cases B with
   |nil=>simp at hl ⊢;omega
   | cons d B'=>
     simp only;split <;> simp at hl ⊢ <;> omega
 · have hx:x∈W9 l.cues s keep:=hx;rw [Zp h]at hx;cases B with
   |nil=>exact hA x hx
   | cons d B'=>
     simp only at hx;split at hx
     · rcases List.mem_append.1 hx with hx|hx
       · exact hA x hx
       · exact hB x hx
     · rename_i hkp;rcases List.mem_append.1 hx with hx|hx
       · exact hA x hx
       rcases List.mem_cons.1 hx with rfl|hx
       · exact hk d B' rfl (by simpa using hkp)
       · exact hB x (by simp [hx])
set_option maxHeartbeats 4000000 in
theorem Z9Z:Contract Tryz.prog 17 fun args K=>∃(l:Lis) (s:List UInt8) (keep:Bool),l.Ok∧args=[.agg l.enc,.str s,.bool keep]∧K [.d (.agg (WN l s keep).1.enc),.d (.int .i64 (WN l s keep).2)]:=by
 refine .of (by kernel_rfl) Zhm ?_;rintro _ K ⟨l,s,keep,hl,rfl,hK⟩ hsm;refine⟨l.enc++[.str s,.bool keep],rfl,by exact(Lis.has hl).append (show HasKs [.str,.bool] [.str s,.bool keep]from⟨trivial,trivial,trivial⟩),?_⟩;unfold WN at hK;refine Z0 Z5b ⟨l,s,hl,by simp only [zz,reduceCtorEq,Lis.enc],_,rfl,?_⟩;rcases Decidable.em (Ya l s=0)with h1|h1
 rotate_left
 · rw [if_pos h1]at hK;refine W8 (by simp only [zz,reduceCtorEq,Lis.enc,h1]) ?_;simp only [zz,reduceCtorEq,Lis.enc];exact hK
 rw [if_neg (by simpa using h1)]at hK;rw [h1];refine Z6 (by simp only [zz,reduceCtorEq,Lis.enc]) ?_;obtain⟨A,c,B,hA⟩:=Z4i hl h1;have hg0:=Z1J hA.ck hA.num;have hpl:place l.cues s=(A.length:Int):=by
   have:=(Zo hl h1).2.2.2.1;rw [this,hA.n];simp
 have hf1:(WA l s).1=(A.length:Int):=by
   unfold WA;rw [if_neg (by simp [hg0])];simp only [hpl];rw [if_neg (by omega)]
 have hdr:Z3R l s=({l with cues:=A++B},true,0):=by
   unfold Z3R;rw [if_neg (by simp [hg0]),hA.wo,hpl];simp
 rw [hf1];refine Z0 Zbw ⟨l,s,hl,by simp only [zz,reduceCtorEq,Lis.enc],_,rfl,?_⟩;rw [hdr];refine Z6 (by simp only [zz,reduceCtorEq,Lis.enc]) ?_;have hcl:l.cues.length=A.length+B.length+1:=by rw [hA.eq];simp;omega
 have hlen64:=hA.rt.len;intro _;have hda:=Zp hA keep;have hRL:=Zc hA.ck;rcases Decidable.em (keep=false∨B=[])with h2|h2
 · refine W8 (by
     rcases h2 with rfl|rfl
     · simp only [zz,reduceCtorEq,Lis.enc]
     · cases keep <;> simp only [zz,reduceCtorEq,Lis.enc,List.length_map,List.append_nil]) ?_
   have hd2:W9 l.cues s keep=A++B:=by
     rw [hda];rcases h2 with rfl|rfl
     · cases B <;> simp
     · simp
   rw [Z2t hA keep (fun d B' hB hk=>by rcases h2 with h2|h2 <;> simp_all),hd2]at hK;simp only [zz,reduceCtorEq,Lis.enc];simpa [Lis.enc]using hK
 have hkp:keep=true:=by cases keep <;> simp_all
 subst hkp;have hBne:B≠[]:=fun e=>h2 (.inr e)
 obtain⟨d,B',rfl⟩:∃d B',B=d::B':=by cases B with|nil=>exact absurd rfl hBne|cons d B'=>exact⟨d,B',rfl⟩
 refine Z6 (by simp only [zz,reduceCtorEq,Lis.enc,List.length_map,List.length_append,List.length_cons];simp;omega) ?_;simp only [Bool.true_eq_false,if_false]at hda;have hck2:=Z45 hA.ck hA.eq;have hout:Lis.Ok {l with cues:=A++d::B'}:= {hl with cues:=fun x hx=>hl.cues x (by rw [hA.eq];simp at hx ⊢;rcases hx with h|h|h <;> simp [h])}
 have hRT2:=Zf hout hck2;have hV:∀p,(J3 l.cues p (A.length+1+1)).Ok:=fun p=>Yv hA.rt p _
 have hW:∀p,(J3 (A++d::B') p (A.length+1)).Ok:=fun p=>Yv hRT2 p _
 have hps:∀p∈Yd l.cues,p.Ok:=fun p hp=>(Jt hA.rt p hp).1
 have hml:=Z17 hA.rt;have hd16:J5 d=0:=hRL.cues d (by rw [hA.eq];simp);have hdo:d.Ok:=hl.cues d (by rw [hA.eq];simp);have hcR:=Z0v hl hA.ck (A++d::B') (A.length+1);have hcw:Yc l.cues (A++d::B') (A.length+1)=((Yd l.cues).filter fun p=>decide (J3 l.cues p (A.length+1+1)≠J3 (A++d::B') p (A.length+1))).map fun p=>(⟨p,J3 l.cues p (A.length+1+1)⟩:Ent):=rfl
 have hfoot:Zde l=(Yd l.cues,0):=by unfold Zde;rw [if_neg (by simp [hA.ck])]
 have hcOk:∀e∈Yc l.cues (A++d::B') (A.length+1),e.Ok:=fun e he=>by
   rw [hcw]at he;obtain⟨x,hx,rfl⟩:=List.mem_map.1 he;exact⟨hps x (List.mem_filter.1 hx).1,hV _⟩
 have hwA:wr64 ((A.length:Int)+1)=(A.length:Int)+1:=Z1 (by omega);have hog:(A++d::B')[A.length]'(by simp)=d:=by simp
 have hg:Z0G {l with cues:=A++d::B'} A.length ((A++d::B')[A.length]'(by simp)) (Yc l.cues (A++d::B') (A.length+1))=
     if 128 < (setC d (Yc l.cues (A++d::B') (A.length+1)) 1).moves.length then(zeroL,5)else({l with cues:=A++setC d (Yc l.cues (A++d::B') (A.length+1)) 1::B'},0):=by
   unfold Z0G;rw [hog,Z5w hd16 hcR];by_cases h:128 < (setC d (Yc l.cues (A++d::B') (A.length+1)) 1).moves.length
   · simp only [h,if_true];rfl
   · simp only [h,if_false];have:(A++d::B').set A.length (setC d (Yc l.cues (A++d::B') (A.length+1)) 1)=A++setC d (Yc l.cues (A++d::B') (A.length+1)) 1::B':=by
       rw [List.set_append_right _ _ (Nat.le_refl _)];simp
     rw [this];rfl
 have hgOk:(Z0G {l with cues:=A++d::B'} A.length ((A++d::B')[A.length]'(by simp)) (Yc l.cues (A++d::B') (A.length+1))).1.Ok∧I64 (Z0G {l with cues:=A++d::B'} A.length ((A++d::B')[A.length]'(by simp)) (Yc l.cues (A++d::B') (A.length+1))).2:=by
   rw [hg];split
   · exact⟨Z5r,show I64 5 from⟨by decide,by decide⟩⟩
   · refine⟨{hl with cues:=fun x hx=>?_},show I64 0 from⟨by decide,by decide⟩⟩;rcases List.mem_append.1 hx with hx|hx
     · exact hout.cues x (by simp [hx])
     rcases List.mem_cons.1 hx with rfl|hx
     · exact YU hdo hcOk ⟨by decide,by decide⟩
     · exact hout.cues x (by simp [hx])
 have hfin:K [.d (.agg (if 128 < (setC d (Yc l.cues (A++d::B') (A.length+1)) 1).moves.length then zeroL else {l with cues:=A++setC d (Yc l.cues (A++d::B') (A.length+1)) 1::B'}).enc),.d (.int .i64 (if 128 < (setC d (Yc l.cues (A++d::B') (A.length+1)) 1).moves.length then 5 else 0))]:=by
   split
   · rename_i h;rw [JL (c:=setC d (Yc l.cues (A++d::B') (A.length+1)) 1) (by rw [hda];simp) h]at hK;exact hK
   · rename_i h;rw [Z2t hA true (fun d' B'' hB _=>by cases hB;omega),hda]at hK;exact hK
 clear hK
 repeat' refine fun _ _=>⟨fun _=>?_,fun _=>?_⟩
 all_goals
   refine Z0 Z34 ⟨l,A.length+1+1,hl,hA.ck,by rw [hcl];simp <;> omega,by simp only [zz,reduceCtorEq,Lis.enc,hwA];simp,fun f1 cf1 hsv1=>⟨_,rfl,?_⟩⟩
   repeat' refine fun _ _=>⟨fun _=>?_,fun _=>?_⟩
 all_goals
   refine Z0 Z34 ⟨{l with cues:=A++d::B'},A.length+1,hout,hck2,by show A.length+1≤(A++d::B').length;simp,by simp only [zz,reduceCtorEq,Lis.enc];simp,fun f2 cf2 hsv2=>⟨_,rfl,?_⟩⟩
   repeat' refine fun _ _=>⟨fun _=>?_,fun _=>?_⟩
 all_goals
   refine Z0 Zdf ⟨l,hl,by simp only [zz,reduceCtorEq,Lis.enc],?_⟩;rw [hfoot];refine⟨_,rfl,?_⟩;refine Z0 Z6T ⟨Yd l.cues,fun p=>decide (J3 l.cues p (A.length+1+1)≠J3 (A++d::B') p (A.length+1)),69,[.ptr [.clo f1 cf1],.ptr [.clo f2 cf2]],hps,by omega,by simp only [zz,reduceCtorEq,Lis.enc],ZbJ hsv1 hsv2 hps hV hW,_,rfl,?_⟩;refine Z0 Z9w ⟨(Yd l.cues).filter fun p=>decide (J3 l.cues p (A.length+1+1)≠J3 (A++d::B') p (A.length+1)),fun p=>⟨p,J3 l.cues p (A.length+1+1)⟩,71,[.ptr [.clo f1 cf1]],fun p hp=>hps p (List.mem_filter.1 hp).1,fun p hp=>⟨hps p (List.mem_filter.1 hp).1,hV p⟩,
     by have:=List.length_filter_le (fun p=>decide (J3 l.cues p (A.length+1+1)≠J3 (A++d::B') p (A.length+1))) (Yd l.cues);omega,by simp only [zz,reduceCtorEq,Lis.enc],ZbI hsv1 (fun p hp=>hps p (List.mem_filter.1 hp).1) hV,_,rfl,?_⟩
   rw [←hcw];refine Z0 Z7T ⟨{l with cues:=A++d::B'},A.length,Yc l.cues (A++d::B') (A.length+1),by show A.length < (A++d::B').length;simp,hout,hcOk,by have:=hRT2.len;omega,by simp only [zz,reduceCtorEq,Lis.enc],?_⟩;refine⟨_,rfl,?_⟩;refine Z0 Z5z ⟨_,_,hgOk.1,hgOk.2,by simp only [zz,reduceCtorEq,Lis.enc],_,rfl,?_⟩;rw [hg];by_cases h8:128 < (setC d (Yc l.cues (A++d::B') (A.length+1)) 1).moves.length
   · rw [if_pos h8];rw [if_pos h8,if_pos h8]at hfin;simp only [zz,reduceCtorEq,Lis.enc];exact hfin
   · rw [if_neg h8];rw [if_neg h8,if_neg h8]at hfin;simp only [zz,reduceCtorEq,Lis.enc];exact hfin
noncomputable def t39:R:=let x2:T:=Vl (Vn 0) (Vl (Vn 0) (Vl .nils .lnil));let x4:List K:=tmKs;let x5:T:=Vl (Va 5) (Vl (Va 6) .lnil);let x6:List K:=mvKs;let x7:List K:=enKs;let x8:T:=.o2 .le (Vn 0) (Va 7);let x9:T:=Vl (Va 19) (Vl (Va 20) (Vl (Va 21) .lnil));let x10:T:=Vl (Va 16) (Vl (Va 17) .lnil);let x11:T:=Vl (Va 1) (Vl (Va 2) .lnil);let x12:T:=.o2 .lt (Va 7) (.o1 .len (Va 17));let x13:T:=.o2 .ne (Va 18) (Vn 0);let x14:T:=.idx (Va 17) (Va 7) 0 .str;let x0:List K:=[.int .i64,.int .i64,.slice [.str,.str,.slice x6,.slice x4,.bool,.bool,.int .i64,.str,.int .i64]];let x1:T:=Vl (.idx (Va 17) (Va 7) 1 .str) (Vl (.idx (Va 17) (Va 7) 2 (.slice x6)) (Vl (.idx (Va 17) (Va 7) 3 (.slice x4)) (Vl (.bool true) (Vl (.idx (Va 17) (Va 7) 5 .bool) (Vl (.idx (Va 17) (Va 7) 6 (.int .i64)) (Vl (.idx (Va 17) (Va 7) 7 .str) (Vl (.idx (Va 17) (Va 7) 8 (.int .i64)) .lnil)))))));let x3:T:=Vl (.ptr (Vl (Va 4) x5)) (Vl (.ptr (Vl (Va 7) .lnil)) .lnil);.call none (.fn 65) [Vl (Va 0) x11,Va 3] [.agg x0,.cell (.int .i64),.cell (.int .i64)] (.ite (.o2 .ne (Va 8) (Vn 0)) (.ret [.d x2,.d (Va 8)]) (.call none (.fn 18) [Vl (Va 0) x11,Va 3] [.cell (.slice x7),.cell (.int .i64)] (.guess (.bool true) (.ite (Va 11) (.guess (.bool true) (.ite (Va 12) (.call none (.fn 58) [Va 9,.clo 99 x3] [.cell (.slice x7)] (.guess (.bool true) (.ite (Va 14) (.call none (.fn 62) [Vl (Va 4) x5,Va 7,Va 13] [.agg x0,.cell (.int .i64)] (.ite x13 (.ret [.d x2,.d (Va 18)]) (.need x8 (.need x12 (.call none (.fn 90) [Vl (Va 15) x10,Va 7,Vl x14 x1] [.agg x0] (.ret [.d x9,.d (Vn 0)])))))) (.call none (.fn 62) [Vl (Va 4) x5,Va 7,Va 13] [.agg x0,.cell (.int .i64)] (.ite x13 (.ret [.d x2,.d (Va 18)]) (.need x8 (.need x12 (.call none (.fn 90) [Vl (Va 15) x10,Va 7,Vl x14 x1] [.agg x0] (.ret [.d x9,.d (Vn 0)]))))))))) (.call none (.fn 58) [Va 9,.clo 99 x3] [.cell (.slice x7)] (.call none (.fn 62) [Vl (Va 4) x5,Va 7,Va 13] [.agg x0,.cell (.int .i64)] (.ite (.o2 .ne (Va 17) (Vn 0)) (.ret [.d x2,.d (Va 17)]) (.need x8 (.need (.o2 .lt (Va 7) (.o1 .len (Va 16))) (.call none (.fn 90) [Vl (Va 14) (Vl (Va 15) (Vl (Va 16) .lnil)),Va 7,Vl (.idx (Va 16) (Va 7) 0 .str) (Vl (.idx (Va 16) (Va 7) 1 .str) (Vl (.idx (Va 16) (Va 7) 2 (.slice x6)) (Vl (.idx (Va 16) (Va 7) 3 (.slice x4)) (Vl (.bool true) (Vl (.idx (Va 16) (Va 7) 5 .bool) (Vl (.idx (Va 16) (Va 7) 6 (.int .i64)) (Vl (.idx (Va 16) (Va 7) 7 .str) (Vl (.idx (Va 16) (Va 7) 8 (.int .i64)) .lnil))))))))] [.agg x0] (.ret [.d (Vl (Va 18) (Vl (Va 19) (Vl (Va 20) .lnil))),.d (Vn 0)]))))))))) (.call none (.fn 58) [Va 9,.clo 99 x3] [.cell (.slice x7)] (.call none (.fn 62) [Vl (Va 4) x5,Va 7,Va 12] [.agg x0,.cell (.int .i64)] (.ite (.o2 .ne (Va 16) (Vn 0)) (.ret [.d x2,.d (Va 16)]) (.need x8 (.need (.o2 .lt (Va 7) (.o1 .len (Va 15))) (.call none (.fn 90) [Vl (Va 13) (Vl (Va 14) (Vl (Va 15) .lnil)),Va 7,Vl (.idx (Va 15) (Va 7) 0 .str) (Vl (.idx (Va 15) (Va 7) 1 .str) (Vl (.idx (Va 15) (Va 7) 2 (.slice x6)) (Vl (.idx (Va 15) (Va 7) 3 (.slice x4)) (Vl (.bool true) (Vl (.idx (Va 15) (Va 7) 5 .bool) (Vl (.idx (Va 15) (Va 7) 6 (.int .i64)) (Vl (.idx (Va 15) (Va 7) 7 .str) (Vl (.idx (Va 15) (Va 7) 8 (.int .i64)) .lnil))))))))] [.agg x0] (.ret [.d (Vl (Va 17) (Vl (Va 18) (Vl (Va 19) .lnil))),.d (Vn 0)])))))))))))
def ZdG (cs:List Cue) (n:Nat) (c:Cue):List Ent:=(Ja cs n).filter fun e=>decide (e.va≠hval)&&!Wg e.pa c
def Zhy (l:Lis) (s:List UInt8):Lis×Int:=
 if Ya l s≠0 then(zeroL,Ya l s)else
 match l.cues[upto l s - 1]? with
 |none=>(zeroL,6)
 |some c=>if 128 < (setC c (ZdG l.cues (upto l s) c) 1).moves.length then(zeroL,5)else({l with cues:=l.cues.set (upto l s - 1) {setC c (ZdG l.cues (upto l s) c) 1 with block:=true}},0)
noncomputable def t28:R:=let x3:T:=Vl (.idx (Va 4) (Va 12) 2 (.int .i64)) (Vl (.idx (Va 4) (Va 12) 3 (.int .i64)) .lnil);let x4:List K:=mvKs;let x5:T:=Vl (Va 14) (Vl (Va 15) .lnil);let x6:T:=.idx (Va 4) (Va 12) 0 (.int .i64);let x7:T:=.idx (Va 4) (Va 12) 1 (.int .i64);let x8:T:=Vl (Vn 0) (Vl (Vn 0) (Vl .nils .lnil));let x9:List K:=tmKs;let x10:T:=Vl (Va 1) (Vl (Va 2) .lnil);let x11:T:=.idx (Va 15) (Va 19) 0 .str;let x12:T:=.idx (Va 15) (Va 19) 1 .str;let x0:List K:=[.str,.str,.slice x4,.slice x9,.bool,.bool,.int .i64,.str,.int .i64];let x1:T:=Vl (.idx (Va 15) (Va 19) 3 (.slice x9)) (Vl (.idx (Va 15) (Va 19) 4 .bool) (Vl (.idx (Va 15) (Va 19) 5 .bool) (Vl (.idx (Va 15) (Va 19) 6 (.int .i64)) (Vl (.idx (Va 15) (Va 19) 7 .str) (Vl (.idx (Va 15) (Va 19) 8 (.int .i64)) .lnil)))));let x2:T:=.push .nils (Vl x6 (Vl x7 x3));.call none (.fn 65) [Vl (Va 0) x10,Va 3] [.agg [.int .i64,.int .i64,.slice x0],.cell (.int .i64),.cell (.int .i64)] (.ite (.o2 .ne (Va 9) (Vn 0)) (.ret [.d x8,.d (Va 9)]) (.call none (.fn 52) [Va 4] [.cell (.int .i64)] (.ite (.o2 .ne (Va 10) (Vn 0)) (.ret [.d x8,.d (Va 10)]) (.fact (.o2 .le (.o1 .len (Va 4)) (Vn 140737488355328)) (.loop 0 [.nils,Vn 0,Va 5,Va 6,Va 7] [.slice enKs,.int .i64,.int .i64,.int .i64,.slice x0] (.ite (.o2 .lt (Va 12) (.o1 .len (Va 4))) (.need (.o2 .le (Vn 0) (Va 12)) (.call none (.fn 87) [Vl (Va 0) x10,Va 3,Vl x6 (Vl x7 .lnil)] [.cell .str,.cell .bool,.cell (.int .i64)] (.ite (.o1 .not (Va 17)) (.need (.o2 .le (.o1 .len (.o2 .app (Va 11) x2)) (Vn 4398046511104)) (.again 0 [.o2 .app (Va 11) x2,.o2 (.add .i64) (Va 12) (Vn 1),Va 13,Va 14,Va 15])) (.call none (.fn 53) [Vl (Va 13) x5,Va 16] [.cell (.int .i64)] (.need (.o2 .le (Vn 0) (Va 19)) (.need (.o2 .lt (Va 19) (.o1 .len (Va 15))) (.call none (.fn 88) [.idx (Va 15) (Va 19) 2 (.slice x4)] [.own x4] (.call none (.fn 89) [Vl x11 (Vl x12 (Vl (Va 20) x1)),Vl x6 (Vl x7 .lnil)] [.cell (.int .i64),.cell .bool,.cell (.int .i64)] (.need (.o2 .le (Vn 0) (Va 21)) (.need (.o2 .lt (Va 21) (.o1 .len (Va 20))) (.call none (.fn 90) [Vl (Va 13) x5,Va 19,Vl x11 (Vl x12 (Vl (.upd (Va 20) (Va 21) 2 x3) x1))] [.agg [.int .i64,.int .i64,.slice x0]] (.again 0 [Va 11,.o2 (.add .i64) (Va 12) (Vn 1),Va 24,Va 25,Va 26])))))))))))) (.call none (.fn 62) [Vl (Va 13) x5,Va 8,Va 11] [.agg [.int .i64,.int .i64,.slice x0],.cell (.int .i64)] (.call none (.fn 61) [Vl (Va 16) (Vl (Va 17) (Vl (Va 18) .lnil)),Va 19] [.agg [.int .i64,.int .i64,.slice x0],.cell (.int .i64)] (.ret [.d (Vl (Va 20) (Vl (Va 21) (Vl (Va 22) .lnil))),.d (Va 23)])))))))))
theorem Zhh:fnO Tryz.prog mdA 28 [.agg liKs,.cell .str,.cell (.slice enKs)]=t28:=by kernel_rfl
def ZfV (cs:List Cue) (n:Nat) (c:Cue):Cue:= {c with moves:=leave c fun p=>J3 cs p n,block:=false}
def Zgn (cs:List Cue) (n:Nat) (c:Cue):List Ent:=(Ja cs (n+1)).filter fun e=>decide (e.va=hval)&&decide (J3 cs e.pa n≠hval)&&!Wg e.pa (ZfV cs n c)
def Zcq (l:Lis) (s:List UInt8):Lis×Int:=
 if Ya l s≠0 then(zeroL,Ya l s)else
 match l.cues[upto l s - 1]? with
 |none=>(zeroL,6)
 |some c=>if 128 < (setC (ZfV l.cues (upto l s - 1) c) (Zgn l.cues (upto l s - 1) c) 1).moves.length then(zeroL,5)else({l with cues:=l.cues.set (upto l s - 1) (setC (ZfV l.cues (upto l s - 1) c) (Zgn l.cues (upto l s - 1) c) 1)},0)
theorem Z3d (ms:List Mov) (e:Ent):(Z6p ms e).map (·.pa)=ms.map (·.pa):=by
 simp only [Z6p,List.map_map];refine List.map_congr_left fun m _=>?_
 simp only [Function.comp_apply];split <;> rfl
theorem Z6o {ms:List Mov} {e:Ent} {m:Mov} (h:m∈Z6p ms e):∃x∈ms,m.pa=x.pa∧m.part=x.part∧(m.va=x.va∨m.va=e.va):=by
 obtain⟨x,hx,rfl⟩:=List.mem_map.1 h;refine⟨x,hx,?_⟩;split
 · exact⟨rfl,rfl,.inr rfl⟩
 · exact⟨rfl,rfl,.inl rfl⟩
theorem Z95 {a b:List Mov} (h:a.map (·.pa)=b.map (·.pa)) (hb:Wt b):Wt a:=by
 have h1:(b.map (·.pa)).Pairwise fun x y=>Y3 x y=true:=by rw [List.pairwise_map];exact hb
 rw [←h,List.pairwise_map]at h1;exact h1
theorem Zcy {n:Nat} {ms:List Mov} {e:Ent} (h:RC n ms) (he:Y7 e.va=0):RC n (Z6p ms e):=
 ⟨Z95 (Z3d ms e) h.rising,fun m hm=>by
   obtain⟨x,hx,h1,h2,h3⟩:=Z6o hm;have:=h.each x hx;refine⟨by rw [h1];exact this.1,?_,by omega,by omega⟩;rcases h3 with h3|h3
   · rw [h3];exact this.2.1
   · rw [h3];exact he⟩
theorem ZdM {c:Cue} {e:Ent} (h:J5 c=0) (he:Y7 e.va=0):J5 (updC e c)=0:=
 Z2y h (Zcy (Z2A h).rc he) (by have:=congrArg List.length (Z3d c.moves e);have:=(Z2A h).len;simp at *;omega)
theorem Za9 {c:Cue} {e:Ent} (h:c.Ok) (he:e.Ok):(updC e c).Ok:=by
 have hm:∀m∈(updC e c).moves,m.Ok:=by
   intro m hm;obtain⟨x,hx,h1,h2,h3⟩:=Z6o hm;have hxo:=h.moves x hx;refine⟨by rw [h1];exact hxo.1,?_,by rw [h2];exact hxo.2.2⟩;rcases h3 with h3|h3
   · rw [h3];exact hxo.2.1
   · rw [h3];exact he.2
 exact {h with moves:=hm}
structure Kin (cs out:List Cue):Prop where
 len:out.length=cs.length
 num:∀(j:Nat) (h1:j < out.length) (h2:j < cs.length),out[j].num=cs[j].num
 pas:∀(j:Nat) (h1:j < out.length) (h2:j < cs.length),out[j].moves.map (·.pa)=cs[j].moves.map (·.pa)
 blk:∀(j:Nat) (h1:j < out.length) (h2:j < cs.length),out[j].block=cs[j].block
 ck:∀c∈out,J5 c=0
 ok:∀c∈out,c.Ok
theorem Kin.self {cs:List Cue} (h1:∀c∈cs,J5 c=0) (h2:∀c∈cs,c.Ok):Kin cs cs:=⟨rfl,fun _ _ _=>rfl,fun _ _ _=>rfl,fun _ _ _=>rfl,h1,h2⟩
theorem JO {X:Type} {l:List X} {i j:Nat} {f:X→X} (hj:j < (l.modify i f).length):(l.modify i f)[j]=if i=j then f (l[j]'(by simpa using hj))else l[j]'(by simpa using hj):=by
 have hj':j < l.length:=by simpa using hj
 have:(l.modify i f)[j]? =some (if i=j then f l[j]else l[j]):=by
   rw [List.getElem?_modify,List.getElem?_eq_getElem hj'];by_cases h:i=j <;> simp [h]
 exact(List.getElem?_eq_some_iff.1 this).2
theorem Kin.upd {cs out:List Cue} (h:Kin cs out) {e:Ent} (he:e.Ok) (hv:Y7 e.va=0) (i:Nat):Kin cs (out.modify i (updC e)) where
 len:=by simp [h.len]
 num:=fun j h1 h2=>by
   rw [JO];have:=h.num j (by simpa using h1) h2;split <;> exact this
 pas :=fun j h1 h2=>by
   rw [JO];have:=h.pas j (by simpa using h1) h2;split
   · show(Z6p _ e).map (·.pa)=_;rw [Z3d];exact this
   · exact this
 blk:=fun j h1 h2=>by
   rw [JO];have:=h.blk j (by simpa using h1) h2;split <;> exact this
 ck:=fun c hc=>by
   obtain⟨j,hj,rfl⟩:=List.getElem_of_mem hc;rw [JO];have:=h.ck _ (List.getElem_mem (l:=out) (n:=j) (by simpa using hj));split
   · exact ZdM this hv
   · exact this
 ok:=fun c hc=>by
   obtain⟨j,hj,rfl⟩:=List.getElem_of_mem hc;rw [JO];have:=h.ok _ (List.getElem_mem (l:=out) (n:=j) (by simpa using hj));split
   · exact Za9 this he
   · exact this
theorem Z5a {s:List UInt8}:∀ {a b:List Cue} {i:Nat},a.map (·.num)=b.map (·.num)→ZA (fun c:Cue=>c.num==s) i a=ZA (fun c:Cue=>c.num==s) i b
 | [],[],_,_=>rfl
 | [],_::_,_,h=>by simp at h
 |_::_,[],_,h=>by simp at h
 | x::a,y::b,i,h=>by
   simp only [List.map_cons,List.cons.injEq]at h;simp only [ZA,h.1,Z5a (i:=i+1) h.2]
theorem Z99 {a b:List Cue} (h:a.map (·.num)=b.map (·.num)) (s:List UInt8):place a s=place b s:=Z5a h
theorem Kin.nums {cs out:List Cue} (h:Kin cs out):out.map (·.num)=cs.map (·.num):=by
 apply List.ext_getElem
 · simp [h.len]
 · intro i h1 h2;simp only [List.getElem_map];exact h.num i (by simpa using h1) (by simpa using h2)
theorem Z9z {a b:List Mov} (h:a.map (·.pa)=b.map (·.pa)) (p:Par):(Ze a p).isSome=(Ze b p).isSome:=by
 have e:∀l:List Mov,(Ze l p).isSome=(l.map (·.pa)).any fun q=>decide (q=p):=fun l=>by
   rw [←Z0b,List.any_map];rfl
 rw [e,e,h]
theorem Zaz {ms:List Mov} {e:Ent} {k:Nat} (hr:Wt ms) (hk:k < ms.length) (hp:ms[k].pa=e.pa):
   ((ms.map Mov.enc).modify k fun x=>Zg x 2 [.int .i64 e.va.pal,.int .i64 e.va.lev])=(Z6p ms e).map Mov.enc:=by
 apply List.ext_getElem?;intro i;rw [List.getElem?_modify,List.getElem?_map,Z6p,List.map_map,List.getElem?_map];by_cases hi:i < ms.length
 · rw [List.getElem?_eq_getElem hi];by_cases h:k=i
   · subst h;simp [hp,Zg,Mov.enc]
   · have hne:ms[i].pa≠e.pa:=fun he=>by
       rw [←hp]at he;rcases Nat.lt_or_gt_of_ne h with h|h
       · have:=List.pairwise_iff_getElem.1 hr k i hk hi h;rw [he,Wb]at this;cases this
       · have:=List.pairwise_iff_getElem.1 hr i k hi hk h;rw [he,Wb]at this;cases this
     simp [h,hne]
 · rw [List.getElem?_eq_none (by omega)];by_cases h:k=i <;> simp [h]
theorem Za8 (cs0:List Cue) (n:Nat) (e:Ent) (es:List Ent) (out:List Cue):((e::es).filter (srcd cs0 n)).foldl (upd1 cs0 n) out=(es.filter (srcd cs0 n)).foldl (upd1 cs0 n) (if srcd cs0 n e then upd1 cs0 n out e else out):=by
 rw [List.filter_cons];cases srcd cs0 n e <;> rfl
theorem ZaP (cs0:List Cue) (n:Nat) (e:Ent) (es:List Ent):ownE cs0 n (e::es)=(if srcd cs0 n e then []else [e])++ownE cs0 n es:=by
 unfold ownE;rw [List.filter_cons];cases srcd cs0 n e <;> rfl
theorem Z9g {l:Lis} (hl:l.Ok) {s:List UInt8} {p:Par} (h:Ya l s=0) (hp:Z3 p=0):
   (src l.cues p (upto l s)= -1∧Z7E l s p=([],false,0))∨∃(i:Nat) (hi:i < l.cues.length),src l.cues p (upto l s)=i∧Z7E l s p=(l.cues[i].num,true,0)∧Wg p l.cues[i]=true:=by
 unfold Z7E;rw [if_neg (by simp [h]),if_neg (by simp [hp])];rcases Z8A (cs:=l.cues) (p:=p) (n:=upto l s) (Z3a l s)with⟨h1,h2⟩|⟨i,hi,h1,_,h3,h4⟩
 · exact .inl ⟨h1,by rw [h2]⟩
 · exact .inr ⟨i,hi,h1,by rw [h3],h4⟩
theorem Z9f {cs0:List Cue} {n:Nat} {es:List Ent} (h:RightEs es):RightEs (ownE cs0 n es):=h.filter _
set_option maxHeartbeats 4000000 in
theorem Za7:Contract Tryz.prog 28 fun args K=>∃(l:Lis) (s:List UInt8) (es:List Ent),l.Ok∧(∀e∈es,e.Ok)∧args=[.agg l.enc,.str s,.slice (es.map Ent.enc)]∧K [.d (.agg (Z1p l s es).1.enc),.d (.int .i64 (Z1p l s es).2)]:=by
 refine .of (by kernel_rfl) Zhh ?_;rintro _ K ⟨l,s,es,hl,hes,rfl,hK⟩ hsm;refine⟨l.enc++[.str s,.slice (es.map Ent.enc)],rfl,by exact(Lis.has hl).append (show HasKs [.str,.slice enKs] [.str s,.slice (es.map Ent.enc)]from⟨trivial,Zi hes,trivial⟩),?_⟩;unfold Z1p at hK;refine Z0 Z5b ⟨l,s,hl,by simp only [zz,reduceCtorEq,Lis.enc],_,rfl,?_⟩;rcases Decidable.em (Ya l s=0)with h1|h1
 rotate_left
 · rw [if_pos h1]at hK;refine W8 (by simp only [zz,reduceCtorEq,Lis.enc,h1]) ?_;simp only [zz,reduceCtorEq,Lis.enc];exact hK
 rw [if_neg (by simpa using h1)]at hK;rw [h1];refine Z6 (by simp only [zz,reduceCtorEq,Lis.enc]) ?_;refine Z0 Z5A ⟨es,hes,by simp only [zz,reduceCtorEq,Lis.enc],_,rfl,?_⟩;rcases Decidable.em (Yj es=0)with h3|h3
 rotate_left
 · rw [if_pos h3]at hK;refine W8 (by simp only [zz,reduceCtorEq,Lis.enc,h3]) ?_;simp only [zz,reduceCtorEq,Lis.enc];exact hK
 rw [if_neg (by simpa using h3)]at hK;rw [h3];refine Z6 (by simp only [zz,reduceCtorEq,Lis.enc]) ?_;obtain⟨A,c,B,hA⟩:=Z4i hl h1;have hg0:=Z1J hA.ck hA.num;have hpl:place l.cues s=(A.length:Int):=by
   have:=(Zo hl h1).2.2.2.1;rw [this,hA.n];simp
 have hf1:(WA l s).1=(A.length:Int):=by
   unfold WA;rw [if_neg (by simp [hg0])];simp only [hpl];rw [if_neg (by omega)]
 rw [hf1];have hlt:A.length < l.cues.length:=by rw [hA.eq];simp
 have hlen64:=hA.rt.len;have hE:=Z0U hes h3;have hel:=Z5g h3;have hRL:=Zc hA.ck;have hself:Kin l.cues l.cues:=.self hRL.cues hl.cues;have hsc:=fun(p:Par) (hp:Z3 p=0)=>Z9g hl h1 hp
 rw [hA.n]at hsc hK;simp only [zz,reduceCtorEq,Lis.enc,List.length_map];intro hcap;refine Jj es (fun _ l' (a:List Ent×List Cue)=>(a.1++ownE l.cues (A.length+1) l',(l'.filter (srcd l.cues (A.length+1))).foldl (upd1 l.cues (A.length+1)) a.2))
   (fun i a=>[.slice (a.1.map Ent.enc),.int .i64 i,.int .i64 l.num,.int .i64 l.prio,.slice (a.2.map Cue.enc)]) (fun i a=>a.1.length≤i∧(∀e∈a.1,e.Ok)∧Kin l.cues a.2) ([],l.cues) (ownE l.cues (A.length+1) es,updL l.cues (A.length+1) es) (by simp [updL]) ⟨by simp,by simp,hself⟩ 1 (fun _ _=>rfl) rfl ?_ ?_
 · rintro i hi ⟨own,out⟩ ⟨hI1,hI2,hI3⟩ hgo;have hem:=List.getElem_mem hi;have heo:=hes _ hem;simp only at hI1 hI2 hI3 hgo;rw [Za8,ZaP]at hgo;refine⟨fun _=>⟨by simp only [zz,reduceCtorEq] <;> omega,?_⟩,fun h=>?_⟩;rotate_left
   · exfalso;simp only [zz,reduceCtorEq,List.length_map,hi]at h
   refine Z0 Z90 ⟨l,s,es[i].pa,hl,heo.1,by simp only [zz,reduceCtorEq,Lis.enc,Ent.enc,Par.enc,J0 hi],_,rfl,?_⟩;rcases hsc es[i].pa (hE.par _ hem)with⟨q1,q2⟩|⟨j,hj,q1,q2,q3⟩
   · rw [q2];have hs:srcd l.cues (A.length+1) es[i]=false:=by unfold srcd;rw [q1];rfl
     rw [hs]at hgo;refine W8 (by simp only [zz,reduceCtorEq]) ?_;refine⟨by simp only [zz,reduceCtorEq,List.length_append,List.length_map,List.length_cons,List.length_nil];omega,?_⟩;simp only [zz,reduceCtorEq,Lis.enc,Ent.enc,J0 hi];refine⟨(own++[es[i]],out),⟨by simp [Ent.enc],by refine⟨?_,rfl⟩;rw [Z1] <;> omega⟩,⟨by show(own++[es[i]]).length≤i+1;simp only [List.length_append,List.length_singleton];exact Nat.succ_le_succ hI1,?_,hI3⟩,by simpa using hgo⟩;intro e he;rcases List.mem_append.1 he with he|he
     · exact hI2 e he
     · simp at he;subst he;exact heo
   · rw [q2];have hs:srcd l.cues (A.length+1) es[i]=true:=by unfold srcd;rw [q1];simp
     rw [hs]at hgo;simp only [if_true,List.nil_append,upd1,q1,Int.toNat_natCast]at hgo;refine Z6 (by simp only [zz,reduceCtorEq]) ?_;have hjo:j < out.length:=by rw [hI3.len];exact hj
     have hjm:=List.getElem_mem hjo;have hoOk:Lis.Ok {l with cues:=out}:= {hl with cues:=hI3.ok}
     have hpj:place out l.cues[j].num=(j:Int):=by rw [Z99 hI3.nums];exact(Z2Z hA.ck hj).2.2
     have hcj:=hI3.ok _ hjm;have hckj:=hI3.ck _ hjm;have hrc:=Z2A hckj;have hol:out.length≤64:=by rw [hI3.len];exact hlen64
     refine Z0 Zch ⟨{l with cues:=out},l.cues[j].num,hoOk,by simp only [zz,reduceCtorEq,Lis.enc],_,rfl,?_⟩;rw [hpj];refine⟨by simp only [zz,reduceCtorEq] <;> omega,by simp only [zz,reduceCtorEq,List.length_map] <;> omega,?_⟩;refine Z0 Z3Z ⟨out[j].moves,hcj.moves,by have:=hrc.len;omega,by simp only [zz,reduceCtorEq,J0 hjo,Cue.enc],_,rfl,?_⟩;refine Z0 Zdt ⟨out[j],es[i].pa,hcj,hckj,heo.1,hE.par _ hem,by simp only [zz,reduceCtorEq,J0 hjo,Cue.enc,J0 hi,Ent.enc,Par.enc],_,rfl,?_⟩;have hsm2:(Ze out[j].moves es[i].pa).isSome=true:=by
       rw [Z9z (hI3.pas j hjo hj)];exact q3
     obtain⟨m0,hm0⟩:=Option.isSome_iff_exists.1 hsm2;have hRM:=hrc.rc.right hrc.len;obtain⟨hlow,hlm⟩:=Z6C hRM hm0;have hlp:out[j].moves[low out[j].moves es[i].pa].pa=es[i].pa:=by rw [hlm];simpa using List.find?_some hm0
     rw [hsm2];simp only [if_true];refine⟨by simp only [zz,reduceCtorEq] <;> omega,by simp only [zz,reduceCtorEq,List.length_map] <;> omega,?_⟩;have henc:=Zaz (e:=es[i]) hrc.rc.rising hlow hlp;have hu:=Za9 hcj heo;refine Z0 Z6g ⟨{l with cues:=out},j,updC es[i] out[j],hoOk,hu,hjo,by show out.length≤1000000;omega,?_,_,rfl,?_⟩
     · simp only [zz,reduceCtorEq,J0 hjo,J0 hi,Cue.enc,Ent.enc,D.upd,Lis.enc,updC];rw [←henc]
     · simp only [zz,reduceCtorEq,Lis.enc];have hmod:out.modify j (updC es[i])=out.set j (updC es[i] out[j]):=by
         apply List.ext_getElem?;intro k;rw [List.getElem?_modify,List.getElem?_set];by_cases h:j=k
         · subst h;simp [hjo]
         · simp [h]
       rw [hmod]at hgo;exact⟨(own,out.set j (updC es[i] out[j])),⟨rfl,by rw [Z1] <;> omega,rfl⟩,⟨by show own.length≤i+1;omega,hI2,hmod▸hI3.upd heo (hE.val _ hem) j⟩,hgo⟩
 · rintro⟨own,out⟩ ⟨hI1,hI2,hI3⟩ hgo;simp only [ownE,List.filter_nil,List.append_nil,List.foldl_nil,Prod.mk.injEq]at hgo hI1 hI2 hI3;obtain⟨rfl,rfl⟩:=hgo;refine⟨fun h=>?_,fun _=>?_⟩
   · exfalso;simp only [zz,reduceCtorEq,List.length_map,Nat.lt_irrefl]at h
   have hoOk:Lis.Ok {l with cues:=updL l.cues (A.length+1) es}:= {hl with cues:=hI3.ok}
   have hlo:A.length < (updL l.cues (A.length+1) es).length:=by rw [hI3.len];exact hlt
   have hol:(updL l.cues (A.length+1) es).length≤64:=by rw [hI3.len];exact hlen64
   have hd16:=hI3.ck _ (List.getElem_mem hlo);have hdo:=hI3.ok _ (List.getElem_mem hlo);have howR:RightEs (ownE l.cues (A.length+1) es):=Z9f hE.es;have howO:∀e∈ownE l.cues (A.length+1) es,e.Ok:=hI2;have hul:Z0z l.cues (A.length+1) es=(updL l.cues (A.length+1) es).set A.length (setC (updL l.cues (A.length+1) es)[A.length] (ownE l.cues (A.length+1) es) 1):=by
     unfold Z0z;rw [Nat.add_sub_cancel,Zbi hlo]
   change ∀e∈ownE l.cues (A.length+1) es,e.Ok at hI2;have hsh:Wq {l with cues:=Z0z l.cues (A.length+1) es}=if 128 < (setC (updL l.cues (A.length+1) es)[A.length] (ownE l.cues (A.length+1) es) 1).moves.length then(zeroL,5)else({l with cues:=Z0z l.cues (A.length+1) es},0):=by
     rw [hul];split
     · rename_i h;exact JL (c:=setC (updL l.cues (A.length+1) es)[A.length] (ownE l.cues (A.length+1) es) 1) (by rw [List.mem_iff_getElem];exact⟨A.length,by simpa using hlo,by simp⟩) h
     · rename_i h;refine JN (by simp;omega) fun x hx=>?_
       rcases List.mem_or_eq_of_mem_set hx with hx|rfl
       · exact(Z2A (hI3.ck x hx)).len
       · omega
   rw [hsh]at hK;have hg:Z0G {l with cues:=updL l.cues (A.length+1) es} A.length (updL l.cues (A.length+1) es)[A.length] (ownE l.cues (A.length+1) es)=
       if 128 < (setC (updL l.cues (A.length+1) es)[A.length] (ownE l.cues (A.length+1) es) 1).moves.length then(zeroL,5)else({l with cues:=Z0z l.cues (A.length+1) es},0):=by
     unfold Z0G;rw [Z5w hd16 howR,hul];by_cases h:128 < (setC (updL l.cues (A.length+1) es)[A.length] (ownE l.cues (A.length+1) es) 1).moves.length
     · simp only [h,if_true];rfl
     · simp only [h,if_false];rfl
   have hgOk:(Z0G {l with cues:=updL l.cues (A.length+1) es} A.length (updL l.cues (A.length+1) es)[A.length] (ownE l.cues (A.length+1) es)).1.Ok∧I64 (Z0G {l with cues:=updL l.cues (A.length+1) es} A.length (updL l.cues (A.length+1) es)[A.length] (ownE l.cues (A.length+1) es)).2:=by
     rw [hg];split
     · exact⟨Z5r,show I64 5 from⟨by decide,by decide⟩⟩
     · refine⟨{hl with cues:=?_},show I64 0 from⟨by decide,by decide⟩⟩;intro x hx;have hx:x∈Z0z l.cues (A.length+1) es:=hx;rw [hul]at hx;rcases List.mem_or_eq_of_mem_set hx with hx|rfl
       · exact hI3.ok x hx
       · exact YU hdo howO ⟨by decide,by decide⟩
   refine Z0 Z7T ⟨{l with cues:=updL l.cues (A.length+1) es},A.length,ownE l.cues (A.length+1) es,hlo,hoOk,howO,by show(updL l.cues (A.length+1) es).length≤1000000;omega,by simp only [zz,reduceCtorEq,Lis.enc];rfl,?_⟩;refine⟨_,rfl,?_⟩;refine Z0 Z5z ⟨_,_,hgOk.1,hgOk.2,by simp only [zz,reduceCtorEq,Lis.enc],_,rfl,?_⟩;rw [hg];by_cases h8:128 < (setC (updL l.cues (A.length+1) es)[A.length] (ownE l.cues (A.length+1) es) 1).moves.length
   · rw [if_pos h8];rw [if_pos h8]at hK;simp only [zz,reduceCtorEq,Lis.enc];exact hK
   · rw [if_neg h8];rw [if_neg h8]at hK;simp only [zz,reduceCtorEq,Lis.enc];exact hK
end Go.Sx.La
namespace Go.Sx.La
open Go Go.Sx
end Go.Sx.La
namespace Go.Sx.La
open Go Go.Sx Go.RowKit Go.Proofs
theorem Z22 {a b:List Cue} (h:a.map (·.num)=b.map (·.num)) (hb:Zs b):Zs a:=by
 have e:∀l:List Cue,Zs l↔(l.map (·.num)).Pairwise fun x y=>We x < We y:=by
   intro l;rw [List.pairwise_map];rfl
 rw [e]at hb ⊢;rw [h];exact hb
theorem Z7h {Z Z':List Cue} (h:∀p,vl Z p=vl Z' p) (p:Par):∀X:List Cue,vl (X++Z) p=vl (X++Z') p
 | []=>h p
 |c::X=>by simp only [List.cons_append,vl,Z7h h p X]
theorem Z2J {A Y:List Cue} (t:Nat):(A++Y).take (A.length+t)=A++Y.take t:=by
 rw [List.take_append,List.take_of_length_le (by omega),Nat.add_sub_cancel_left]
theorem Z60 {l:Lis} {s:List UInt8} {A B:List Cue} {c:Cue} (hA:Around l s A c B) (p:Par):
   (∀j,j < A.length→J3 (W9 l.cues s true) p (j+1)=J3 l.cues p (j+1))∧
   ∀j,A.length≤j→j < (W9 l.cues s true).length→J3 (W9 l.cues s true) p (j+1)=J3 l.cues p (j+2):=by
 have hd:=Zp hA true;have he:=hA.eq;constructor
 · intro j hj;have h1:(W9 l.cues s true).take (j+1)=A.take (j+1):=by
     rw [hd];cases B with
     |nil=>rfl
     |cons d B'=>simp only [Bool.true_eq_false,if_false];rw [List.take_append_of_le_length (by omega)]
   have h2:l.cues.take (j+1)=A.take (j+1):=by rw [he,List.take_append_of_le_length (by omega)]
   have hl1:j+1≤(W9 l.cues s true).length:=by
     rw [hd];cases B with
     |nil=>show j+1≤A.length;omega
     |cons d B'=>simp;omega
   rw [Jp _ p _ hl1,Jp _ p _ (by rw [he];simp;omega),h1,h2]
 · intro j hj hj2;cases B with
   |nil=>rw [hd]at hj2;simp only at hj2;omega
   | cons d B'=>
     simp only [Bool.true_eq_false,if_false]at hd;obtain⟨t,rfl⟩:=Nat.exists_eq_add_of_le hj;have ht:t≤B'.length:=by rw [hd]at hj2;simp at hj2;omega
     have h1:(W9 l.cues s true).take (A.length+t+1)=A++setC d (Yc l.cues (A++d::B') (A.length+1)) 1::B'.take t:=by
       rw [hd,Nat.add_assoc,Z2J];rfl
     have h2:l.cues.take (A.length+t+2)=A++c::d::B'.take t:=by
       rw [he,Nat.add_assoc,Z2J];rfl
     have hlen:l.cues.length=A.length+(B'.length+1+1):=by rw [he];simp
     rw [Jp _ p _ hj2,Jp _ p _ (by omega),h1,h2];simp only [List.reverse_append,List.reverse_cons,List.append_assoc,List.singleton_append,List.cons_append,List.nil_append];refine Z7h (fun q=>?_) p _;have k1:∀p,J3 l.cues p (A.length+1+1)=vl (d::c::A.reverse) p:=fun p=>by
       have h3:l.cues.take (A.length+2)=A++[c,d]:=by rw [he,Z2J];rfl
       rw [Jp _ p _ (by omega),h3];simp
     have k2:∀p,J3 (A++d::B') p (A.length+1)=vl (d::A.reverse) p:=fun p=>by
       rw [Jp _ p _ (by simp),Z2J];simp
     exact Zd4 (cs:=l.cues) (out:=A++d::B') (n:=A.length+1) he rfl k1 k2 q
def i64B (v:Int):Bool:=decide (-9223372036854775808≤v)&&decide (v≤9223372036854775807)
theorem Wv {v:Int} (h:i64B v=true):I64 v:=by
 simp only [i64B,Bool.and_eq_true,decide_eq_true_eq]at h;exact h
def movB (m:Mov):Bool:=i64B m.pa.ch&&i64B m.pa.at_&&i64B m.va.pal&&i64B m.va.lev&&i64B m.part
def timB (t:Tim):Bool:=i64B t.up&&i64B t.down&&i64B t.pos&&i64B t.col&&i64B t.beam&&i64B t.delay
def cueB (c:Cue):Bool:=c.moves.all movB&&c.parts.all timB&&i64B c.follow&&i64B c.loops
def lisB (l:Lis):Bool:=i64B l.num&&i64B l.prio&&l.cues.all cueB
theorem ZfU {l:Lis} (h:lisB l=true):l.Ok:=by
 simp only [lisB,Bool.and_eq_true,List.all_eq_true]at h;refine⟨Wv h.1.1,Wv h.1.2,fun c hc=>?_⟩;have h2:=h.2 c hc;simp only [cueB,Bool.and_eq_true,List.all_eq_true]at h2;refine⟨fun m hm=>?_,fun t ht=>?_,Wv h2.1.2,Wv h2.2⟩
 · have h3:=h2.1.1.1 m hm;simp only [movB,Bool.and_eq_true]at h3;exact⟨⟨Wv h3.1.1.1.1,Wv h3.1.1.1.2⟩,⟨Wv h3.1.1.2,Wv h3.1.2⟩,Wv h3.2⟩
 · have h3:=h2.1.1.2 t ht;simp only [timB,Bool.and_eq_true]at h3;exact⟨Wv h3.1.1.1.1.1,Wv h3.1.1.1.1.2,Wv h3.1.1.1.2,Wv h3.1.1.2,Wv h3.1.2,Wv h3.2⟩
def ra:Lis×Int:=YI four [49,46,53] [⟨⟨1,1⟩,⟨0,8⟩⟩] 1 true
def rb:Lis×Int:=Z1p four [50] [⟨⟨1,1⟩,⟨0,5⟩⟩]
def rd:Lis×Int:=Zhy four [52]
def ru:Lis×Int:=Zcq four [51]
theorem i1:I64 1:=⟨by decide,by decide⟩
theorem i0:I64 0:=⟨by decide,by decide⟩
noncomputable def t4:R:=let x0:List K:=liKs;let x1:T:=Vl (Va 1) (Vl (Va 2) .lnil);let x2:T:=.o2 .eq (Va 11) (Va 15);.call none (.fn 22) [Vl (Va 0) x1,Va 4] [.cell .bool] (.ite (.o1 .not (Va 7)) (.call none (.fn 23) [] [.cell .bool] (.ret [.d (Va 8)])) (.call none (.fn 16) [Vl (Va 0) x1,Va 3,Va 4,Va 5,Va 6] [.agg x0,.cell (.int .i64)] (.call none (.fn 24) [Vl (Va 0) x1,Va 3,Va 4,Va 5,Va 6] [.agg x0,.cell (.int .i64)] (.call none (.fn 25) [Vl (Va 8) (Vl (Va 9) (Vl (Va 10) .lnil)),Vl (Va 12) (Vl (Va 13) (Vl (Va 14) .lnil))] [.cell .bool] (.call (some (.ite (Va 16) x2 (.bool false))) (.fn 23) [] [.cell .bool] (.ret [.d (.ite (.ite (Va 16) x2 (.bool false)) (Va 17) (.bool false))]))))))
theorem c4:J2 Tryz.prog 4=true:=by kernel_rfl
theorem Ent.of {ds:List D} (h:HasKs enKs ds):∃m:Ent,m.Ok∧ds=m.enc:=by
 match ds,h with
 | [a,b,c,d],h=>
   simp only [enKs,HasKs,and_true]at h;obtain⟨a,rfl,ha⟩:=Yx h.1;obtain⟨b,rfl,hb⟩:=Yx h.2.1;obtain⟨c,rfl,hc⟩:=Yx h.2.2.1;obtain⟨d,rfl,hd⟩:=Yx h.2.2.2;exact⟨⟨⟨a,b⟩,⟨c,d⟩⟩,⟨⟨ha,hb⟩,hc,hd⟩,rfl⟩
structure Note where
 s:List UInt8
 es:List Ent
 part:Int
 only:Bool
def Note.enc (n:Note):List D:=[.str n.s,.slice (n.es.map Ent.enc),.int .i64 n.part,.bool n.only]
structure Note.Ok (n:Note):Prop where
 es:∀e∈n.es,e.Ok
 part:I64 n.part
noncomputable def t5:R:=let x0:List K:=liKs;let x1:T:=Vl (Va 1) (Vl (Va 2) .lnil);let x2:T:=.o2 .eq (Va 9) (Va 13);.call none (.fn 22) [Vl (Va 0) x1,.nils] [.cell .bool] (.ite (.o1 .not (Va 5)) (.call none (.fn 23) [] [.cell .bool] (.ret [.d (Va 6)])) (.call none (.fn 17) [Vl (Va 0) x1,Va 3,Va 4] [.agg x0,.cell (.int .i64)] (.call none (.fn 26) [Vl (Va 0) x1,Va 3,Va 4] [.agg x0,.cell (.int .i64)] (.call none (.fn 25) [Vl (Va 6) (Vl (Va 7) (Vl (Va 8) .lnil)),Vl (Va 10) (Vl (Va 11) (Vl (Va 12) .lnil))] [.cell .bool] (.call (some (.ite (Va 14) x2 (.bool false))) (.fn 23) [] [.cell .bool] (.ret [.d (.ite (.ite (Va 14) x2 (.bool false)) (Va 15) (.bool false))]))))))
theorem c5:J2 Tryz.prog 5=true:=by kernel_rfl
end Go.Sx.La
