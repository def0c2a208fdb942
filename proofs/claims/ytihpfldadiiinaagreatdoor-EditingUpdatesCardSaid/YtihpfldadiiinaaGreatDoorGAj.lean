/-
 Part 10 of the proof: the executor over the kit's code with its soundness, or contracts of functions.
-/
import Derived.Test.YtihpfldadiiinaaGreatDoorGAi
set_option linter.unusedSimpArgs false
set_option linter.unusedVariables false
set_option linter.unusedSectionVars false
set_option linter.defProp false
set_option maxRecDepth 100000
namespace Go.Sx.La
open Go Go.Sx Go.RowKit Go.Proofs
noncomputable def t17:R:=let x0:List K:=liKs;let x1:T:=Vl (Va 11) (Vl (Va 12) .lnil);let x2:T:=Vl (Va 1) (Vl (Va 2) .lnil);let x3:List K:=enKs;let x4:List K:=[.int .i64,.int .i64];let x5:T:=Vl (Va 17) .lnil;let x6:T:=Vl (.ptr (Vl (Va 20) .lnil)) .lnil;let x7:T:=Vl (Va 30) (Vl (Va 31) (Vl (Va 32) .lnil));let x8:T:=Vl (Va 29) (Vl (Va 30) (Vl (Va 31) .lnil));let x9:T:=Vl (.ptr x5) .lnil;let x10:T:=Vl (Va 6) (Vl (Va 7) .lnil);let x12:T:=Vl (Va 27) (Vl (Va 28) .lnil);let x13:T:=Vl (Va 26) (Vl (Va 27) .lnil);let x14:T:=Vl (Va 28) (Vl (Va 29) (Vl (Va 30) .lnil));let x15:T:=Vl (.ptr (Vl (Va 19) .lnil)) .lnil;let x16:T:=Vl (Va 25) (Vl (Va 26) .lnil);let x17:T:=Vl (Vn 0) (Vl (Vn 0) (Vl .nils .lnil));let x18:T:=Vl (Va 18) .lnil;let x19:T:=Vl (.ptr x5) (Vl (.ptr (Vl (Va 21) .lnil)) .lnil);let x20:T:=Vl (.ptr x5) x6;let x11:T:=Vl (.ptr x18) .lnil;.call none (.fn 65) [Vl (Va 0) x2,Va 3] [.agg x0,.cell (.int .i64),.cell (.int .i64)] (.ite (.o2 .ne (Va 9) (Vn 0)) (.ret [.d x17,.d (Va 9)]) (.call none (.fn 66) [Vl (Va 0) x2,Va 3] [.agg x0,.cell .bool,.cell (.int .i64)] (.ite (.o2 .ne (Va 14) (Vn 0)) (.ret [.d x17,.d (Va 14)]) (.fact (.ite (.o1 .not (.o1 .not (Va 4))) (.o2 .le (.o1 .len (Va 12)) (Vn 140737488355328)) (.bool true)) (.ite (.ite (.o1 .not (Va 4)) (.bool true) (.o2 .eq (Va 8) (.o1 .len (Va 12)))) (.ret [.d (Vl (Va 10) x1),.d (Vn 0)]) (.guess (.bool true) (.ite (Va 15) (.guess (.bool true) (.ite (Va 16) (.call none (.fn 57) [Vl (Va 5) x10,.o2 (.add .i64) (Va 8) (Vn 1)] [.cell .fn] (.guess (.bool true) (.ite (Va 18) (.guess (.bool true) (.ite (Va 19) (.call none (.fn 57) [Vl (Va 10) x1,Va 8] [.cell .fn] (.guess (.bool true) (.ite (Va 21) (.call none (.fn 67) [Vl (Va 0) x2] [.cell (.slice x4),.cell (.int .i64)] (.call none (.fn 68) [Va 22,.clo 69 x20] [.cell (.slice x4)] (.call none (.fn 70) [Va 24,.clo 71 x9] [.cell (.slice x3)] (.call none (.fn 62) [Vl (Va 10) x1,Va 8,Va 25] [.agg x0,.cell (.int .i64)] (.call none (.fn 61) [Vl (Va 26) x12,Va 29] [.agg x0,.cell (.int .i64)] (.ret [.d x7,.d (Va 33)])))))) (.call none (.fn 67) [Vl (Va 0) x2] [.cell (.slice x4),.cell (.int .i64)] (.call none (.fn 68) [Va 22,.clo 69 x20] [.cell (.slice x4)] (.call none (.fn 70) [Va 24,.clo 71 x9] [.cell (.slice x3)] (.call none (.fn 62) [Vl (Va 10) x1,Va 8,Va 25] [.agg x0,.cell (.int .i64)] (.call none (.fn 61) [Vl (Va 26) x12,Va 29] [.agg x0,.cell (.int .i64)] (.ret [.d x7,.d (Va 33)]))))))))) (.guess (.bool true) (.ite (Va 20) (.call none (.fn 57) [Vl (Va 10) x1,Va 8] [.cell .fn] (.call none (.fn 67) [Vl (Va 0) x2] [.cell (.slice x4),.cell (.int .i64)] (.call none (.fn 68) [Va 22,.clo 69 x19] [.cell (.slice x4)] (.call none (.fn 70) [Va 24,.clo 71 x9] [.cell (.slice x3)] (.call none (.fn 62) [Vl (Va 10) x1,Va 8,Va 25] [.agg x0,.cell (.int .i64)] (.call none (.fn 61) [Vl (Va 26) x12,Va 29] [.agg x0,.cell (.int .i64)] (.ret [.d x7,.d (Va 33)]))))))) (.call none (.fn 57) [Vl (Va 10) x1,Va 8] [.cell .fn] (.call none (.fn 67) [Vl (Va 0) x2] [.cell (.slice x4),.cell (.int .i64)] (.call none (.fn 68) [Va 22,.clo 69 x19] [.cell (.slice x4)] (.call none (.fn 70) [Va 24,.clo 71 x9] [.cell (.slice x3)] (.call none (.fn 62) [Vl (Va 10) x1,Va 8,Va 25] [.agg x0,.cell (.int .i64)] (.call none (.fn 61) [Vl (Va 26) x12,Va 29] [.agg x0,.cell (.int .i64)] (.ret [.d x7,.d (Va 33)]))))))))))) (.guess (.bool true) (.ite (Va 19) (.call none (.fn 57) [Vl (Va 10) x1,Va 8] [.cell .fn] (.call none (.fn 67) [Vl (Va 0) x2] [.cell (.slice x4),.cell (.int .i64)] (.call none (.fn 68) [Va 21,.clo 69 x20] [.cell (.slice x4)] (.call none (.fn 70) [Va 23,.clo 71 x9] [.cell (.slice x3)] (.call none (.fn 62) [Vl (Va 10) x1,Va 8,Va 24] [.agg x0,.cell (.int .i64)] (.call none (.fn 61) [Vl (Va 25) x13,Va 28] [.agg x0,.cell (.int .i64)] (.ret [.d x8,.d (Va 32)]))))))) (.call none (.fn 57) [Vl (Va 10) x1,Va 8] [.cell .fn] (.call none (.fn 67) [Vl (Va 0) x2] [.cell (.slice x4),.cell (.int .i64)] (.call none (.fn 68) [Va 21,.clo 69 x20] [.cell (.slice x4)] (.call none (.fn 70) [Va 23,.clo 71 x9] [.cell (.slice x3)] (.call none (.fn 62) [Vl (Va 10) x1,Va 8,Va 24] [.agg x0,.cell (.int .i64)] (.call none (.fn 61) [Vl (Va 25) x13,Va 28] [.agg x0,.cell (.int .i64)] (.ret [.d x8,.d (Va 32)])))))))))))) (.guess (.bool true) (.ite (Va 17) (.call none (.fn 57) [Vl (Va 5) x10,.o2 (.add .i64) (Va 8) (Vn 1)] [.cell .fn] (.guess (.bool true) (.ite (Va 19) (.call none (.fn 57) [Vl (Va 10) x1,Va 8] [.cell .fn] (.call none (.fn 67) [Vl (Va 0) x2] [.cell (.slice x4),.cell (.int .i64)] (.call none (.fn 68) [Va 21,.clo 69 (Vl (.ptr x18) x6)] [.cell (.slice x4)] (.call none (.fn 70) [Va 23,.clo 71 x11] [.cell (.slice x3)] (.call none (.fn 62) [Vl (Va 10) x1,Va 8,Va 24] [.agg x0,.cell (.int .i64)] (.call none (.fn 61) [Vl (Va 25) x13,Va 28] [.agg x0,.cell (.int .i64)] (.ret [.d x8,.d (Va 32)]))))))) (.call none (.fn 57) [Vl (Va 10) x1,Va 8] [.cell .fn] (.call none (.fn 67) [Vl (Va 0) x2] [.cell (.slice x4),.cell (.int .i64)] (.call none (.fn 68) [Va 21,.clo 69 (Vl (.ptr x18) x6)] [.cell (.slice x4)] (.call none (.fn 70) [Va 23,.clo 71 x11] [.cell (.slice x3)] (.call none (.fn 62) [Vl (Va 10) x1,Va 8,Va 24] [.agg x0,.cell (.int .i64)] (.call none (.fn 61) [Vl (Va 25) x13,Va 28] [.agg x0,.cell (.int .i64)] (.ret [.d x8,.d (Va 32)])))))))))) (.call none (.fn 57) [Vl (Va 5) x10,.o2 (.add .i64) (Va 8) (Vn 1)] [.cell .fn] (.call none (.fn 57) [Vl (Va 10) x1,Va 8] [.cell .fn] (.call none (.fn 67) [Vl (Va 0) x2] [.cell (.slice x4),.cell (.int .i64)] (.call none (.fn 68) [Va 20,.clo 69 (Vl (.ptr x18) x15)] [.cell (.slice x4)] (.call none (.fn 70) [Va 22,.clo 71 x11] [.cell (.slice x3)] (.call none (.fn 62) [Vl (Va 10) x1,Va 8,Va 23] [.agg x0,.cell (.int .i64)] (.call none (.fn 61) [Vl (Va 24) x16,Va 27] [.agg x0,.cell (.int .i64)] (.ret [.d x14,.d (Va 31)])))))))))))) (.guess (.bool true) (.ite (Va 16) (.call none (.fn 57) [Vl (Va 5) x10,.o2 (.add .i64) (Va 8) (Vn 1)] [.cell .fn] (.guess (.bool true) (.ite (Va 18) (.call none (.fn 57) [Vl (Va 10) x1,Va 8] [.cell .fn] (.call none (.fn 67) [Vl (Va 0) x2] [.cell (.slice x4),.cell (.int .i64)] (.call none (.fn 68) [Va 20,.clo 69 (Vl (.ptr x5) x15)] [.cell (.slice x4)] (.call none (.fn 70) [Va 22,.clo 71 x9] [.cell (.slice x3)] (.call none (.fn 62) [Vl (Va 10) x1,Va 8,Va 23] [.agg x0,.cell (.int .i64)] (.call none (.fn 61) [Vl (Va 24) x16,Va 27] [.agg x0,.cell (.int .i64)] (.ret [.d x14,.d (Va 31)]))))))) (.call none (.fn 57) [Vl (Va 10) x1,Va 8] [.cell .fn] (.call none (.fn 67) [Vl (Va 0) x2] [.cell (.slice x4),.cell (.int .i64)] (.call none (.fn 68) [Va 20,.clo 69 (Vl (.ptr x5) x15)] [.cell (.slice x4)] (.call none (.fn 70) [Va 22,.clo 71 x9] [.cell (.slice x3)] (.call none (.fn 62) [Vl (Va 10) x1,Va 8,Va 23] [.agg x0,.cell (.int .i64)] (.call none (.fn 61) [Vl (Va 24) x16,Va 27] [.agg x0,.cell (.int .i64)] (.ret [.d x14,.d (Va 31)])))))))))) (.call none (.fn 57) [Vl (Va 5) x10,.o2 (.add .i64) (Va 8) (Vn 1)] [.cell .fn] (.call none (.fn 57) [Vl (Va 10) x1,Va 8] [.cell .fn] (.call none (.fn 67) [Vl (Va 0) x2] [.cell (.slice x4),.cell (.int .i64)] (.call none (.fn 68) [Va 19,.clo 69 (Vl (.ptr x5) x11)] [.cell (.slice x4)] (.call none (.fn 70) [Va 21,.clo 71 x9] [.cell (.slice x3)] (.call none (.fn 62) [Vl (Va 10) x1,Va 8,Va 22] [.agg x0,.cell (.int .i64)] (.call none (.fn 61) [Vl (Va 23) (Vl (Va 24) (Vl (Va 25) .lnil)),Va 26] [.agg x0,.cell (.int .i64)] (.ret [.d (Vl (Va 27) (Vl (Va 28) (Vl (Va 29) .lnil))),.d (Va 30)])))))))))))))))))
theorem ZgL:fnO Tryz.prog mdA 17 [.agg liKs,.cell .str,.cell .bool]=t17:=by kernel_rfl
noncomputable def t69:R:=.call none (.val (.fld (Va 2) 0 .fn)) [Vl (Va 0) (Vl (Va 1) .lnil)] [.agg [.int .i64,.int .i64]] (.call none (.val (.fld (Va 3) 0 .fn)) [Vl (Va 0) (Vl (Va 1) .lnil)] [.agg [.int .i64,.int .i64]] (.ret [.d (.o1 .not (.o2 .band (.o2 .eq (Va 4) (Va 6)) (.o2 .band (.o2 .eq (Va 5) (Va 7)) (.bool true))))]))
theorem Zg9:fnO Tryz.prog mdA 69 ([.agg [.int .i64,.int .i64]]++[.cell (.ptr [.fn]),.cell (.ptr [.fn])])=t69:=by kernel_rfl
theorem c69:J2 Tryz.prog 69=true:=by kernel_rfl
noncomputable def t71:R:=.call none (.val (.fld (Va 2) 0 .fn)) [Vl (Va 0) (Vl (Va 1) .lnil)] [.agg [.int .i64,.int .i64]] (.ret [.d (Vl (Va 0) (Vl (Va 1) (Vl (Va 3) (Vl (Va 4) .lnil))))])
theorem Zg7:fnO Tryz.prog mdA 71 ([.agg [.int .i64,.int .i64]]++[.cell (.ptr [.fn])])=t71:=by kernel_rfl
theorem c71:J2 Tryz.prog 71=true:=by kernel_rfl
theorem Zfx:Contract Tryz.prog 69 fun args K=>∃(p:Par) (f g:FuncId) (cf cg:List D) (V W:Par→Val),p.Ok∧(V p).Ok∧(W p).Ok∧Z0U (.clo f cf) V∧Z0U (.clo g cg) W∧args=[.agg p.enc,.ptr [.clo f cf],.ptr [.clo g cg]]∧K [.d (.bool (decide (V p≠W p)))]:=by
 refine .of c69 Zg9 ?_;rintro _ K ⟨p,f,g,cf,cg,V,W,hp,hv,hw,⟨sf,hf,hs⟩,⟨sg,hg,hsg⟩,rfl,hK⟩ hsm;refine⟨p.enc++[.ptr [.clo f cf],.ptr [.clo g cg]],rfl,by exact(Par.has hp).append (show HasKs [.ptr [.fn],.ptr [.fn]] [.ptr [.clo f cf],.ptr [.clo g cg]]from⟨⟨trivial,trivial⟩,⟨trivial,trivial⟩,trivial⟩),?_⟩;refine Z7 (FvC.up' (s:=sf) (fv:=.clo f cf) hf) ⟨fun rs=>rs=[.d (.agg (V p).enc)],?_,fun rs h=>⟨(V p).enc,by rw [h];rfl,⟨Y2 hv.1,Y2 hv.2,trivial⟩,?_⟩⟩
 · simp only [zz,reduceCtorEq,Par.enc];exact hs p hp
 refine Z7 (FvC.up' (s:=sg) (fv:=.clo g cg) hg) ⟨fun rs=>rs=[.d (.agg (W p).enc)],?_,fun rs h=>⟨(W p).enc,by rw [h];rfl,⟨Y2 hw.1,Y2 hw.2,trivial⟩,?_⟩⟩
 · simp only [zz,reduceCtorEq,Par.enc];exact hsg p hp
 simp only [zz,reduceCtorEq,Par.enc,Val.enc];have e:decide (V p≠W p)=!(decide ((V p).pal=(W p).pal)&&(decide ((V p).lev=(W p).lev)&&true)):=by
   rw [Bool.eq_iff_iff];simp [Z4d]
 rw [e]at hK;simpa using hK
theorem Zbe {f g:FuncId} {cf cg:List D} {V W:Par→Val} (hV:Z0U (.clo f cf) V) (hW:Z0U (.clo g cg) W) {ps:List Par} (hps:∀p∈ps,p.Ok) (hv:∀p,(V p).Ok) (hw:∀p,(W p).Ok):
   YC Tryz.prog (.clo 69 [.ptr [.clo f cf],.ptr [.clo g cg]]) Par.enc ps fun p=>decide (V p≠W p):=by
 refine⟨fun as_ K=>∃p:Par,p.Ok∧as_=[.agg p.enc]∧K [.d (.bool (decide (V p≠W p)))],FvC.of c69 Zfx ?_,fun p hp=>⟨p,hps p hp,rfl,rfl⟩⟩;rintro _ K ⟨p,hp,rfl,hK⟩;refine⟨⟨p,f,g,cf,cg,V,W,hp,hv p,hw p,hV,hW,rfl,hK⟩,J4 [some (.agg paKs)] (by kernel_rfl) ?_⟩;intro i rk d h1 h2;cases i with
 |zero=>simp at h1 h2;subst h1 h2;exact Par.has hp
 |succ i=>simp at h1
theorem Zfw:Contract Tryz.prog 71 fun args K=>∃(p:Par) (f:FuncId) (caps:List D) (W:Par→Val),p.Ok∧(W p).Ok∧Z0U (.clo f caps) W∧args=[.agg p.enc,.ptr [.clo f caps]]∧K [.d (.agg (Ent.enc ⟨p,W p⟩))]:=by
 refine .of c71 Zg7 ?_;rintro _ K ⟨p,f,caps,W,hp,hw,⟨sf,hf,hs⟩,rfl,hK⟩ hsm;refine⟨p.enc++[.ptr [.clo f caps]],rfl,by exact(Par.has hp).append (show HasKs [.ptr [.fn]] [.ptr [.clo f caps]]from⟨⟨trivial,trivial⟩,trivial⟩),?_⟩;refine Z7 (FvC.up' (s:=sf) (fv:=.clo f caps) hf) ⟨fun rs=>rs=[.d (.agg (W p).enc)],?_,fun rs h=>⟨(W p).enc,by rw [h];rfl,⟨Y2 hw.1,Y2 hw.2,trivial⟩,?_⟩⟩
 · simp only [zz,reduceCtorEq,Par.enc];exact hs p hp
 · simp only [zz,reduceCtorEq,Par.enc,Val.enc];exact hK
theorem Zbd {f:FuncId} {caps:List D} {W:Par→Val} (h:Z0U (.clo f caps) W) {ps:List Par} (hps:∀p∈ps,p.Ok) (hW:∀p,(W p).Ok):
   Z5T Tryz.prog (.clo 71 [.ptr [.clo f caps]]) Par.enc Ent.enc ps fun p=>⟨p,W p⟩:=by
 refine⟨fun as_ K=>∃p:Par,p.Ok∧as_=[.agg p.enc]∧K [.d (.agg (Ent.enc ⟨p,W p⟩))],FvC.of c71 Zfw ?_,fun p hp=>⟨p,hps p hp,rfl,rfl⟩⟩;rintro _ K ⟨p,hp,rfl,hK⟩;refine⟨⟨p,f,caps,W,hp,hW p,h,rfl,hK⟩,J4 [some (.agg paKs)] (by kernel_rfl) ?_⟩;intro i rk d h1 h2;cases i with
 |zero=>simp at h1 h2;subst h1 h2;exact Par.has hp
 |succ i=>simp at h1
theorem ZcJ {l:Lis} {s:List UInt8} (h:Jf l s=0):W8 W4 l=0:=by
 unfold Jf at h;split at h
 · contradiction
 · rename_i h1;simpa using h1
structure Around (l:Lis) (s:List UInt8) (A:List Cue) (c:Cue) (B:List Cue):Prop where
 ck:W8 W4 l=0
 num:Z4 s=0
 eq:l.cues=A++c::B
 n:upto l s=A.length+1
 cn:c.num=s
 wo:without l.cues s=A++B
 rt:RightT l
 sp:Split l.cues s A [c] B
theorem YI {l:Lis} {s:List UInt8} (hl:l.Ok) (h:Jf l s=0):∃A c B,Around l s A c B:=by
 obtain⟨hRT,hs,hp0,hp1,hp2,hp3⟩:=Zk hl h;have hck:=ZcJ h;have hRL:=Wd hck;obtain⟨A,X,B,hS⟩:=Z5f hs hRL.rising hRL.num;rcases hS.place with⟨rfl,hp⟩|⟨c,rfl,hc,hp⟩
 · omega
 · exact⟨A,c,B,hck,hs,by rw [hS.eq];simp,by omega,hc,hS.without,hRT,hS⟩
theorem Z7R {l:Lis} {A B:List Cue} {c:Cue} (h:W8 W4 l=0) (he:l.cues=A++c::B):W8 W4 {l with cues:=A++B}=0:=by
 have hRL:=Wd h;refine Z9v (by exact Zcp (l:=l) h) ?_ (fun x hx=>hRL.cues x ?_) ?_
 · have:=hRL.len;rw [he]at this;simp at this ⊢;omega
 · rw [he];simp at hx ⊢;rcases hx with hx|hx <;> simp [hx]
 · have hr:=hRL.rising;rw [he]at hr;refine hr.sublist ?_;exact List.Sublist.append_left (List.sublist_cons_self c B) A
theorem WN {l:Lis} {s:List UInt8} {A B:List Cue} {c:Cue} (h:Around l s A c B) (keep:Bool):
   Z0f l.cues s keep=match B with| []=>A|d::B'=>if keep=false then A++d::B' else A++setC d (Wf l.cues (A++d::B') (A.length+1)) 1::B':=by
 have hn:upto ⟨0,0,l.cues⟩ s=A.length+1:=h.n;unfold Z0f;rw [hn,h.wo,h.eq];cases B with
 |nil=>simp
 | cons d B'=>
   simp only;cases keep with
   |false=>simp
   | true=>
     rw [if_neg (by simp),if_neg (by simp),Nat.add_sub_cancel,Z2q]
theorem Z2w {l:Lis} {s:List UInt8} {A B:List Cue} {c:Cue} (h:Around l s A c B) (keep:Bool) (hk:∀d B',B=d::B'→keep=true→(setC d (Wf l.cues (A++d::B') (A.length+1)) 1).moves.length≤128):
   Ju {l with cues:=Z0f l.cues s keep}=({l with cues:=Z0f l.cues s keep},0):=by
 have hRL:=Wd h.ck;have hl:l.cues.length=A.length+B.length+1:=by rw [h.eq];simp;omega
 have h64:=hRL.len;have hm:∀x∈l.cues,x.moves.length≤128:=fun x hx=>(Z0H (hRL.cues x hx)).len
 have hA:∀x∈A,x.moves.length≤128:=fun x hx=>hm x (by rw [h.eq];simp [hx])
 have hB:∀x∈B,x.moves.length≤128:=fun x hx=>hm x (by rw [h.eq];simp [hx])
 refine YE ?_ fun x hx=>?_
 · show(Z0f l.cues s keep).length≤64;rw [WN h];cases B with
   |nil=>simp at hl ⊢;omega
   | cons d B'=>
     simp only;split <;> simp at hl ⊢ <;> omega
 · have hx:x∈Z0f l.cues s keep:=hx;rw [WN h]at hx;cases B with
   |nil=>exact hA x hx
   | cons d B'=>
     simp only at hx;split at hx
     · rcases List.mem_append.1 hx with hx|hx
       · exact hA x hx
       · exact hB x hx
     · rename_i hkp;rcases List.mem_append.1 hx with hx|hx
       · exact hA x hx
       rcases List.mem_cons.1 hx with rfl|hx
       · exact hk d B' rfl (by simpa using hkp)
       · exact hB x (by simp [hx])
set_option maxHeartbeats 4000000 in
theorem Z9t:Contract Tryz.prog 17 fun args K=>∃(l:Lis) (s:List UInt8) (keep:Bool),l.Ok∧args=[.agg l.enc,.str s,.bool keep]∧K [.d (.agg (Z3M l s keep).1.enc),.d (.int .i64 (Z3M l s keep).2)]:=by
 refine .of (by kernel_rfl) ZgL ?_;rintro _ K ⟨l,s,keep,hl,rfl,hK⟩ hsm;refine⟨l.enc++[.str s,.bool keep],rfl,by exact(Lis.has hl).append (show HasKs [.str,.bool] [.str s,.bool keep]from⟨trivial,trivial,trivial⟩),?_⟩;unfold Z3M at hK;refine Z0 YP ⟨l,s,hl,by simp only [zz,reduceCtorEq,Lis.enc],_,rfl,?_⟩;rcases Decidable.em (Jf l s=0)with h1|h1
 rotate_left
 · rw [if_pos h1]at hK;refine Y3 (by simp only [zz,reduceCtorEq,Lis.enc,h1]) ?_;simp only [zz,reduceCtorEq,Lis.enc];exact hK
 rw [if_neg (by simpa using h1)]at hK;rw [h1];refine J3 (by simp only [zz,reduceCtorEq,Lis.enc]) ?_;obtain⟨A,c,B,hA⟩:=YI hl h1;have hg0:=YF hA.ck hA.num;have hpl:place l.cues s=(A.length:Int):=by
   have:=(Zk hl h1).2.2.2.1;rw [this,hA.n];simp
 have hf1:(Yp l s).1=(A.length:Int):=by
   unfold Yp;rw [if_neg (by simp [hg0])];simp only [hpl];rw [if_neg (by omega)]
 have hdr:Z3H l s=({l with cues:=A++B},true,0):=by
   unfold Z3H;rw [if_neg (by simp [hg0]),hA.wo,hpl];simp
 rw [hf1];refine Z0 Zb6 ⟨l,s,hl,by simp only [zz,reduceCtorEq,Lis.enc],_,rfl,?_⟩;rw [hdr];refine J3 (by simp only [zz,reduceCtorEq,Lis.enc]) ?_;have hcl:l.cues.length=A.length+B.length+1:=by rw [hA.eq];simp;omega
 have hlen64:=hA.rt.len;intro _;have hda:=WN hA keep;have hRL:=Wd hA.ck;rcases Decidable.em (keep=false∨B=[])with h2|h2
 · refine Y3 (by
     rcases h2 with rfl|rfl
     · simp only [zz,reduceCtorEq,Lis.enc]
     · cases keep <;> simp only [zz,reduceCtorEq,Lis.enc,List.length_map,List.append_nil]) ?_
   have hd2:Z0f l.cues s keep=A++B:=by
     rw [hda];rcases h2 with rfl|rfl
     · cases B <;> simp
     · simp
   rw [Z2w hA keep (fun d B' hB hk=>by rcases h2 with h2|h2 <;> simp_all),hd2]at hK;simp only [zz,reduceCtorEq,Lis.enc];simpa [Lis.enc]using hK
 have hkp:keep=true:=by cases keep <;> simp_all
 subst hkp;have hBne:B≠[]:=fun e=>h2 (.inr e)
 obtain⟨d,B',rfl⟩:∃d B',B=d::B':=by cases B with|nil=>exact absurd rfl hBne|cons d B'=>exact⟨d,B',rfl⟩
 refine J3 (by simp only [zz,reduceCtorEq,Lis.enc,List.length_map,List.length_append,List.length_cons];simp;omega) ?_;simp only [Bool.true_eq_false,if_false]at hda;have hck2:=Z7R hA.ck hA.eq;have hout:Lis.Ok {l with cues:=A++d::B'}:= {hl with cues:=fun x hx=>hl.cues x (by rw [hA.eq];simp at hx ⊢;rcases hx with h|h|h <;> simp [h])}
 have hRT2:=WG hout hck2;have hV:∀p,(W7 l.cues p (A.length+1+1)).Ok:=fun p=>JN hA.rt p _
 have hW:∀p,(W7 (A++d::B') p (A.length+1)).Ok:=fun p=>JN hRT2 p _
 have hps:∀p∈Wl l.cues,p.Ok:=fun p hp=>(Z04 hA.rt p hp).1
 have hml:=Z3u hA.rt;have hd16:J5 d=0:=hRL.cues d (by rw [hA.eq];simp);have hdo:d.Ok:=hl.cues d (by rw [hA.eq];simp);have hcR:=Z4a hl hA.ck (A++d::B') (A.length+1);have hcw:Wf l.cues (A++d::B') (A.length+1)=((Wl l.cues).filter fun p=>decide (W7 l.cues p (A.length+1+1)≠W7 (A++d::B') p (A.length+1))).map fun p=>(⟨p,W7 l.cues p (A.length+1+1)⟩:Ent):=rfl
 have hfoot:Zct l=(Wl l.cues,0):=by unfold Zct;rw [if_neg (by simp [hA.ck])]
 have hcOk:∀e∈Wf l.cues (A++d::B') (A.length+1),e.Ok:=fun e he=>by
   rw [hcw]at he;obtain⟨x,hx,rfl⟩:=List.mem_map.1 he;exact⟨hps x (List.mem_filter.1 hx).1,hV _⟩
 have hwA:wr64 ((A.length:Int)+1)=(A.length:Int)+1:=Z1 (by omega);have hog:(A++d::B')[A.length]'(by simp)=d:=by simp
 have hg:ZN {l with cues:=A++d::B'} A.length ((A++d::B')[A.length]'(by simp)) (Wf l.cues (A++d::B') (A.length+1))=
     if 128 < (setC d (Wf l.cues (A++d::B') (A.length+1)) 1).moves.length then(zeroL,5)else({l with cues:=A++setC d (Wf l.cues (A++d::B') (A.length+1)) 1::B'},0):=by
   unfold ZN;rw [hog,Z0Y hd16 hcR];by_cases h:128 < (setC d (Wf l.cues (A++d::B') (A.length+1)) 1).moves.length
   · simp only [h,if_true];rfl
   · simp only [h,if_false];have:(A++d::B').set A.length (setC d (Wf l.cues (A++d::B') (A.length+1)) 1)=A++setC d (Wf l.cues (A++d::B') (A.length+1)) 1::B':=by
       rw [List.set_append_right _ _ (Nat.le_refl _)];simp
     rw [this];rfl
 have hgOk:(ZN {l with cues:=A++d::B'} A.length ((A++d::B')[A.length]'(by simp)) (Wf l.cues (A++d::B') (A.length+1))).1.Ok∧I64 (ZN {l with cues:=A++d::B'} A.length ((A++d::B')[A.length]'(by simp)) (Wf l.cues (A++d::B') (A.length+1))).2:=by
   rw [hg];split
   · exact⟨Yu,show I64 5 from⟨by decide,by decide⟩⟩
   · refine⟨{hl with cues:=fun x hx=>?_},show I64 0 from⟨by decide,by decide⟩⟩;rcases List.mem_append.1 hx with hx|hx
     · exact hout.cues x (by simp [hx])
     rcases List.mem_cons.1 hx with rfl|hx
     · exact ZG hdo hcOk ⟨by decide,by decide⟩
     · exact hout.cues x (by simp [hx])
 have hfin:K [.d (.agg (if 128 < (setC d (Wf l.cues (A++d::B') (A.length+1)) 1).moves.length then zeroL else {l with cues:=A++setC d (Wf l.cues (A++d::B') (A.length+1)) 1::B'}).enc),.d (.int .i64 (if 128 < (setC d (Wf l.cues (A++d::B') (A.length+1)) 1).moves.length then 5 else 0))]:=by
   split
   · rename_i h;rw [YA (c:=setC d (Wf l.cues (A++d::B') (A.length+1)) 1) (by rw [hda];simp) h]at hK;exact hK
   · rename_i h;rw [Z2w hA true (fun d' B'' hB _=>by cases hB;omega),hda]at hK;exact hK
 clear hK
 repeat' refine fun _ _=>⟨fun _=>?_,fun _=>?_⟩
 all_goals
   refine Z0 Z0V ⟨l,A.length+1+1,hl,hA.ck,by rw [hcl];simp <;> omega,by simp only [zz,reduceCtorEq,Lis.enc,hwA];simp,fun f1 cf1 hsv1=>⟨_,rfl,?_⟩⟩
   repeat' refine fun _ _=>⟨fun _=>?_,fun _=>?_⟩
 all_goals
   refine Z0 Z0V ⟨{l with cues:=A++d::B'},A.length+1,hout,hck2,by show A.length+1≤(A++d::B').length;simp,by simp only [zz,reduceCtorEq,Lis.enc];simp,fun f2 cf2 hsv2=>⟨_,rfl,?_⟩⟩
   repeat' refine fun _ _=>⟨fun _=>?_,fun _=>?_⟩
 all_goals
   refine Z0 Zcu ⟨l,hl,by simp only [zz,reduceCtorEq,Lis.enc],?_⟩;rw [hfoot];refine⟨_,rfl,?_⟩;refine Z0 Z6S ⟨Wl l.cues,fun p=>decide (W7 l.cues p (A.length+1+1)≠W7 (A++d::B') p (A.length+1)),69,[.ptr [.clo f1 cf1],.ptr [.clo f2 cf2]],hps,by omega,by simp only [zz,reduceCtorEq,Lis.enc],Zbe hsv1 hsv2 hps hV hW,_,rfl,?_⟩;refine Z0 Z9h ⟨(Wl l.cues).filter fun p=>decide (W7 l.cues p (A.length+1+1)≠W7 (A++d::B') p (A.length+1)),fun p=>⟨p,W7 l.cues p (A.length+1+1)⟩,71,[.ptr [.clo f1 cf1]],fun p hp=>hps p (List.mem_filter.1 hp).1,fun p hp=>⟨hps p (List.mem_filter.1 hp).1,hV p⟩,
     by have:=List.length_filter_le (fun p=>decide (W7 l.cues p (A.length+1+1)≠W7 (A++d::B') p (A.length+1))) (Wl l.cues);omega,by simp only [zz,reduceCtorEq,Lis.enc],Zbd hsv1 (fun p hp=>hps p (List.mem_filter.1 hp).1) hV,_,rfl,?_⟩
   rw [←hcw];refine Z0 Z3E ⟨{l with cues:=A++d::B'},A.length,Wf l.cues (A++d::B') (A.length+1),by show A.length < (A++d::B').length;simp,hout,hcOk,by have:=hRT2.len;omega,by simp only [zz,reduceCtorEq,Lis.enc],?_⟩;refine⟨_,rfl,?_⟩;refine Z0 Z2N ⟨_,_,hgOk.1,hgOk.2,by simp only [zz,reduceCtorEq,Lis.enc],_,rfl,?_⟩;rw [hg];by_cases h8:128 < (setC d (Wf l.cues (A++d::B') (A.length+1)) 1).moves.length
   · rw [if_pos h8];rw [if_pos h8,if_pos h8]at hfin;simp only [zz,reduceCtorEq,Lis.enc];exact hfin
   · rw [if_neg h8];rw [if_neg h8,if_neg h8]at hfin;simp only [zz,reduceCtorEq,Lis.enc];exact hfin
noncomputable def t99:R:=let x0:T:=.o1 .not (.o2 .band (.o2 .eq (Va 2) (Va 6)) (.o2 .band (.o2 .eq (Va 3) (Va 7)) (.bool true)));.call none (.fn 100) [] [.agg [.int .i64,.int .i64]] (.call (some x0) (.fn 60) [Vl (.fld (Va 4) 0 (.int .i64)) (Vl (.fld (Va 4) 1 (.int .i64)) (Vl (.fld (Va 4) 2 (.slice J9)) .lnil)),.fld (Va 5) 0 (.int .i64),Vl (Va 0) (Vl (Va 1) .lnil)] [.cell .bool] (.ret [.d (.ite x0 (.o1 .not (Va 8)) (.bool false))]))
theorem ZfL:fnO Tryz.prog mdA 99 ([.agg enKs]++[.cell (.ptr liKs),.cell (.ptr [.int .i64])])=t99:=by kernel_rfl
theorem c99:J2 Tryz.prog 99=true:=by kernel_rfl
noncomputable def t39:R:=let x2:T:=Vl (Vn 0) (Vl (Vn 0) (Vl .nils .lnil));let x4:List K:=tmKs;let x5:T:=Vl (Va 5) (Vl (Va 6) .lnil);let x6:List K:=mvKs;let x7:List K:=enKs;let x8:T:=.o2 .le (Vn 0) (Va 7);let x9:T:=Vl (Va 19) (Vl (Va 20) (Vl (Va 21) .lnil));let x10:T:=Vl (Va 16) (Vl (Va 17) .lnil);let x11:T:=Vl (Va 1) (Vl (Va 2) .lnil);let x12:T:=.o2 .lt (Va 7) (.o1 .len (Va 17));let x13:T:=.o2 .ne (Va 18) (Vn 0);let x14:T:=.idx (Va 17) (Va 7) 0 .str;let x0:List K:=[.int .i64,.int .i64,.slice [.str,.str,.slice x6,.slice x4,.bool,.bool,.int .i64,.str,.int .i64]];let x1:T:=Vl (.idx (Va 17) (Va 7) 1 .str) (Vl (.idx (Va 17) (Va 7) 2 (.slice x6)) (Vl (.idx (Va 17) (Va 7) 3 (.slice x4)) (Vl (.bool true) (Vl (.idx (Va 17) (Va 7) 5 .bool) (Vl (.idx (Va 17) (Va 7) 6 (.int .i64)) (Vl (.idx (Va 17) (Va 7) 7 .str) (Vl (.idx (Va 17) (Va 7) 8 (.int .i64)) .lnil)))))));let x3:T:=Vl (.ptr (Vl (Va 4) x5)) (Vl (.ptr (Vl (Va 7) .lnil)) .lnil);.call none (.fn 65) [Vl (Va 0) x11,Va 3] [.agg x0,.cell (.int .i64),.cell (.int .i64)] (.ite (.o2 .ne (Va 8) (Vn 0)) (.ret [.d x2,.d (Va 8)]) (.call none (.fn 18) [Vl (Va 0) x11,Va 3] [.cell (.slice x7),.cell (.int .i64)] (.guess (.bool true) (.ite (Va 11) (.guess (.bool true) (.ite (Va 12) (.call none (.fn 58) [Va 9,.clo 99 x3] [.cell (.slice x7)] (.guess (.bool true) (.ite (Va 14) (.call none (.fn 62) [Vl (Va 4) x5,Va 7,Va 13] [.agg x0,.cell (.int .i64)] (.ite x13 (.ret [.d x2,.d (Va 18)]) (.need x8 (.need x12 (.call none (.fn 90) [Vl (Va 15) x10,Va 7,Vl x14 x1] [.agg x0] (.ret [.d x9,.d (Vn 0)])))))) (.call none (.fn 62) [Vl (Va 4) x5,Va 7,Va 13] [.agg x0,.cell (.int .i64)] (.ite x13 (.ret [.d x2,.d (Va 18)]) (.need x8 (.need x12 (.call none (.fn 90) [Vl (Va 15) x10,Va 7,Vl x14 x1] [.agg x0] (.ret [.d x9,.d (Vn 0)]))))))))) (.call none (.fn 58) [Va 9,.clo 99 x3] [.cell (.slice x7)] (.call none (.fn 62) [Vl (Va 4) x5,Va 7,Va 13] [.agg x0,.cell (.int .i64)] (.ite (.o2 .ne (Va 17) (Vn 0)) (.ret [.d x2,.d (Va 17)]) (.need x8 (.need (.o2 .lt (Va 7) (.o1 .len (Va 16))) (.call none (.fn 90) [Vl (Va 14) (Vl (Va 15) (Vl (Va 16) .lnil)),Va 7,Vl (.idx (Va 16) (Va 7) 0 .str) (Vl (.idx (Va 16) (Va 7) 1 .str) (Vl (.idx (Va 16) (Va 7) 2 (.slice x6)) (Vl (.idx (Va 16) (Va 7) 3 (.slice x4)) (Vl (.bool true) (Vl (.idx (Va 16) (Va 7) 5 .bool) (Vl (.idx (Va 16) (Va 7) 6 (.int .i64)) (Vl (.idx (Va 16) (Va 7) 7 .str) (Vl (.idx (Va 16) (Va 7) 8 (.int .i64)) .lnil))))))))] [.agg x0] (.ret [.d (Vl (Va 18) (Vl (Va 19) (Vl (Va 20) .lnil))),.d (Vn 0)]))))))))) (.call none (.fn 58) [Va 9,.clo 99 x3] [.cell (.slice x7)] (.call none (.fn 62) [Vl (Va 4) x5,Va 7,Va 12] [.agg x0,.cell (.int .i64)] (.ite (.o2 .ne (Va 16) (Vn 0)) (.ret [.d x2,.d (Va 16)]) (.need x8 (.need (.o2 .lt (Va 7) (.o1 .len (Va 15))) (.call none (.fn 90) [Vl (Va 13) (Vl (Va 14) (Vl (Va 15) .lnil)),Va 7,Vl (.idx (Va 15) (Va 7) 0 .str) (Vl (.idx (Va 15) (Va 7) 1 .str) (Vl (.idx (Va 15) (Va 7) 2 (.slice x6)) (Vl (.idx (Va 15) (Va 7) 3 (.slice x4)) (Vl (.bool true) (Vl (.idx (Va 15) (Va 7) 5 .bool) (Vl (.idx (Va 15) (Va 7) 6 (.int .i64)) (Vl (.idx (Va 15) (Va 7) 7 .str) (Vl (.idx (Va 15) (Va 7) 8 (.int .i64)) .lnil))))))))] [.agg x0] (.ret [.d (Vl (Va 17) (Vl (Va 18) (Vl (Va 19) .lnil))),.d (Vn 0)])))))))))))
theorem ZgA:fnO Tryz.prog mdA 39 [.agg liKs,.cell .str]=t39:=by kernel_rfl
noncomputable def t174:R:=.call none (.val (.fld (Va 5) 0 .fn)) [Vl (Va 0) (Vl (Va 1) .lnil)] [.agg [.int .i64,.int .i64]] (.ret [.d (.o1 .not (.o2 .band (.o2 .eq (Va 2) (Va 6)) (.o2 .band (.o2 .eq (Va 3) (Va 7)) (.bool true))))])
theorem ZdY:fnO Tryz.prog mdA 174 ([.agg mvKs]++[.cell (.ptr [.fn])])=t174:=by kernel_rfl
theorem c174:J2 Tryz.prog 174=true:=by kernel_rfl
noncomputable def t101:R:=.call none (.fn 173) [Va 0,.clo 174 (Vl (.ptr (Vl (Va 1) .lnil)) .lnil)] [.cell (.slice mvKs)] (.ret [.d (Va 2)])
theorem ZeU:fnO Tryz.prog mdA 101 [.cell (.slice mvKs),.cell .fn]=t101:=by kernel_rfl
noncomputable def t102:R:=let x0:T:=.o2 .band (.o2 .eq (Va 2) (Va 7)) (.o2 .band (.o2 .eq (Va 3) (Va 8)) (.bool true));let x1:T:=.o1 .not (.o2 .band (.o2 .eq (Va 9) (Va 11)) (.o2 .band (.o2 .eq (Va 10) (Va 12)) (.bool true)));let x2:List K:=[.int .i64,.int .i64];.call none (.fn 100) [] [.agg x2] (.call (some x0) (.val (.fld (Va 4) 0 .fn)) [Vl (Va 0) (Vl (Va 1) .lnil)] [.agg x2] (.call (some x0) (.fn 100) [] [.agg x2] (.call (some (.ite x0 x1 (.bool false))) (.fn 60) [Vl (.fld (Va 5) 0 (.int .i64)) (Vl (.fld (Va 5) 1 (.int .i64)) (Vl (.fld (Va 5) 2 (.slice J9)) .lnil)),.fld (Va 6) 0 (.int .i64),Vl (Va 0) (Vl (Va 1) .lnil)] [.cell .bool] (.ret [.d (.ite (.ite x0 x1 (.bool false)) (.o1 .not (Va 13)) (.bool false))]))))
theorem ZeT:fnO Tryz.prog mdA 102 ([.agg enKs]++[.cell (.ptr [.fn]),.cell (.ptr liKs),.cell (.ptr [.int .i64])])=t102:=by kernel_rfl
theorem c102:J2 Tryz.prog 102=true:=by kernel_rfl
noncomputable def t40:R:=let x1:List K:=mvKs;let x2:List K:=tmKs;let x3:T:=Vl (Va 12) (Vl (Va 13) .lnil);let x4:T:=Vl (Va 1) (Vl (Va 2) .lnil);let x5:T:=Vl (Va 5) (Vl (Va 6) .lnil);let x6:List K:=enKs;let x0:List K:=[.int .i64,.int .i64,.slice [.str,.str,.slice x1,.slice x2,.bool,.bool,.int .i64,.str,.int .i64]];.call none (.fn 65) [Vl (Va 0) x4,Va 3] [.agg x0,.cell (.int .i64),.cell (.int .i64)] (.ite (.o2 .ne (Va 8) (Vn 0)) (.ret [.d (Vl (Vn 0) (Vl (Vn 0) (Vl .nils .lnil))),.d (Va 8)]) (.call none (.fn 57) [Vl (Va 4) x5,.o2 (.sub .i64) (Va 7) (Vn 1)] [.cell .fn] (.need (.o2 .le (Vn 0) (Va 7)) (.need (.o2 .lt (Va 7) (.o1 .len (Va 6))) (.call none (.fn 101) [.idx (Va 6) (Va 7) 2 (.slice x1),Va 9] [.cell (.slice x1)] (.call none (.fn 90) [Vl (Va 4) x5,Va 7,Vl (.idx (Va 6) (Va 7) 0 .str) (Vl (.idx (Va 6) (Va 7) 1 .str) (Vl (Va 10) (Vl (.idx (Va 6) (Va 7) 3 (.slice x2)) (Vl (.bool false) (Vl (.idx (Va 6) (Va 7) 5 .bool) (Vl (.idx (Va 6) (Va 7) 6 (.int .i64)) (Vl (.idx (Va 6) (Va 7) 7 .str) (Vl (.idx (Va 6) (Va 7) 8 (.int .i64)) .lnil))))))))] [.agg x0] (.call none (.fn 18) [Vl (Va 0) x4,Va 3] [.cell (.slice x6),.cell (.int .i64)] (.call none (.fn 58) [Va 14,.clo 102 (Vl (.ptr (Vl (Va 9) .lnil)) (Vl (.ptr (Vl (Va 11) x3)) (Vl (.ptr (Vl (Va 7) .lnil)) .lnil)))] [.cell (.slice x6)] (.call none (.fn 62) [Vl (Va 11) x3,Va 7,Va 16] [.agg x0,.cell (.int .i64)] (.call none (.fn 61) [Vl (Va 17) (Vl (Va 18) (Vl (Va 19) .lnil)),Va 20] [.agg x0,.cell (.int .i64)] (.ret [.d (Vl (Va 21) (Vl (Va 22) (Vl (Va 23) .lnil))),.d (Va 24)])))))))))))
theorem Zgz:fnO Tryz.prog mdA 40 [.agg liKs,.cell .str]=t40:=by kernel_rfl
theorem Zci (v:Val):(!(decide (v.pal= -1)&&(decide (v.lev=0)&&true)))=decide (v≠hval):=by
 rw [Bool.eq_iff_iff];simp [Z4d,hval]
theorem ZfF:Contract Tryz.prog 99 fun args K=>∃(e:Ent) (l:Lis) (i:Nat) (hi:i < l.cues.length),e.Ok∧l.Ok∧l.cues.length≤1000000∧args=[.agg e.enc,.ptr l.enc,.ptr [.int .i64 i]]∧K [.d (.bool (decide (e.va≠hval)&&!Wb e.pa l.cues[i]))]:=by
 refine .of c99 ZfL ?_;rintro _ K ⟨e,l,i,hi,he,hl,hlen,rfl,hK⟩ hsm;refine⟨e.enc++[.ptr l.enc,.ptr [.int .i64 (i:Nat)]],rfl,by exact(Ent.has he).append (show HasKs [.ptr liKs,.ptr [.int .i64]] [.ptr l.enc,.ptr [.int .i64 (i:Nat)]]from⟨Lis.has hl,⟨Y2 ⟨by omega,by omega⟩,trivial⟩,trivial⟩),?_⟩;refine Z0 Z09 ⟨rfl,_,rfl,?_⟩;have hh:=Zci e.va;rcases Decidable.em (e.va=hval)with hv|hv
 · have hf:decide (e.va≠hval)=false:=by simp [hv]
   rw [hf]at hK hh;refine Z5 Z0o false [.bool false] ?_ (fun h=>by cases h) (fun _=>rfl) ?_
   · simp only [zz,reduceCtorEq,Ent.enc,Val.enc,hv,hval]
   · simp only [zz,reduceCtorEq,Ent.enc,Val.enc,hv,hval];exact hK
 · have hf:decide (e.va≠hval)=true:=by simp [hv]
   rw [hf]at hK hh;have hne:¬(e.va.pal= -1∧e.va.lev=0):=fun h=>hv ((Z4d _ _).2 h)
   refine Z5 Z0o true [.bool (Wb e.pa l.cues[i])] ?_ (fun _=>⟨l,i,e.pa,hi,hl,he.1,hlen,by simp only [zz,reduceCtorEq,Ent.enc,Lis.enc,Par.enc,D.cells,D.cell,Val.enc],rfl⟩) (fun h=>by cases h) ?_
   · simp only [zz,reduceCtorEq,Ent.enc,Val.enc,hval];simpa using hh
   · simp only [zz,reduceCtorEq,Ent.enc,Val.enc,hval];have h2:(decide (e.va.pal= -1)&&decide (e.va.lev=0))=false:=by
       rw [Bool.eq_false_iff];simpa using hne
     have h3:decide (¬e.va.pal= -1∨¬e.va.lev=0∨False)=true:=by simpa using Decidable.not_and_iff_not_or_not.1 hne
     rw [h3];exact hK
theorem Zbx {l:Lis} (hl:l.Ok) {i:Nat} (hi:i < l.cues.length) (hlen:l.cues.length≤1000000) {es:List Ent} (hes:∀e∈es,e.Ok):
   YC Tryz.prog (.clo 99 [.ptr l.enc,.ptr [.int .i64 (i:Nat)]]) Ent.enc es fun e=>decide (e.va≠hval)&&!Wb e.pa l.cues[i]:=by
 refine⟨fun as_ K=>∃e:Ent,e.Ok∧as_=[.agg e.enc]∧K [.d (.bool (decide (e.va≠hval)&&!Wb e.pa l.cues[i]))],FvC.of c99 ZfF ?_,fun e he=>⟨e,hes e he,rfl,rfl⟩⟩;rintro _ K ⟨e,he,rfl,hK⟩;refine⟨⟨e,l,i,hi,he,hl,hlen,rfl,hK⟩,J4 [some (.agg enKs)] (by kernel_rfl) ?_⟩;intro i rk d h1 h2;cases i with
 |zero=>simp at h1 h2;subst h1 h2;exact Ent.has he
 |succ i=>simp at h1
def JX (cs:List Cue) (n:Nat) (c:Cue):List Ent:=(ZH cs n).filter fun e=>decide (e.va≠hval)&&!Wb e.pa c
def Z76 (l:Lis) (s:List UInt8):Lis×Int:=
 if Jf l s≠0 then(zeroL,Jf l s)else
 match l.cues[upto l s - 1]? with
 |none=>(zeroL,6)
 |some c=>if 128 < (setC c (JX l.cues (upto l s) c) 1).moves.length then(zeroL,5)else({l with cues:=l.cues.set (upto l s - 1) {setC c (JX l.cues (upto l s) c) 1 with block:=true}},0)
theorem ZaL {l:Lis} (hl:l.Ok) (h:W8 W4 l=0) (n:Nat):RightEs (ZH l.cues n):=
 .ofPars (Zv (by simp [Js])) (fun p hp=>(Z04 (WG hl h) p hp).2) (fun p=>W7 l.cues p n) fun p=>Z1B h p n
set_option maxHeartbeats 2000000 in
theorem ZcO:Contract Tryz.prog 39 fun args K=>∃(l:Lis) (s:List UInt8),l.Ok∧args=[.agg l.enc,.str s]∧K [.d (.agg (Z76 l s).1.enc),.d (.int .i64 (Z76 l s).2)]:=by
 refine .of (by kernel_rfl) ZgA ?_;rintro _ K ⟨l,s,hl,rfl,hK⟩ hsm;refine⟨l.enc++[.str s],rfl,by exact Z1o hl,?_⟩;unfold Z76 at hK;refine Z0 YP ⟨l,s,hl,by simp only [zz,reduceCtorEq,Lis.enc],_,rfl,?_⟩;rcases Decidable.em (Jf l s=0)with h1|h1
 rotate_left
 · rw [if_pos h1]at hK;refine Y3 (by simp only [zz,reduceCtorEq,Lis.enc,h1]) ?_;simp only [zz,reduceCtorEq,Lis.enc];exact hK
 rw [if_neg (by simpa using h1)]at hK;rw [h1];refine J3 (by simp only [zz,reduceCtorEq,Lis.enc]) ?_;obtain⟨A,c,B,hA⟩:=YI hl h1;have hg0:=YF hA.ck hA.num;have hpl:place l.cues s=(A.length:Int):=by
   have:=(Zk hl h1).2.2.2.1;rw [this,hA.n];simp
 have hf1:(Yp l s).1=(A.length:Int):=by
   unfold Yp;rw [if_neg (by simp [hg0])];simp only [hpl];rw [if_neg (by omega)]
 rw [hf1];have hlook:Z5B l s=(ZH l.cues (A.length+1),0):=by unfold Z5B;rw [if_neg (by simp [h1]),hA.n]
 have hlt:A.length < l.cues.length:=by rw [hA.eq];simp
 have hget:l.cues[A.length]=c:=by
   have:l.cues[A.length]? =some c:=by rw [hA.eq];simp
   exact(List.getElem?_eq_some_iff.1 this).2
 have hlen64:=hA.rt.len;rw [hA.n,Nat.add_sub_cancel,List.getElem?_eq_getElem hlt,hget]at hK;simp only at hK;have hes:=Z5C hA.rt (A.length+1);have hll:=Z3z hA.rt (A.length+1);have heR:=ZaL hl hA.ck (A.length+1);have hco:c.Ok:=hget▸hl.cues _ (List.getElem_mem hlt);have hc16:J5 c=0:=hget▸(Wd hA.ck).cues _ (List.getElem_mem hlt);refine Z0 Z5D ⟨l,s,hl,by simp only [zz,reduceCtorEq,Lis.enc],?_⟩;rw [hlook];refine⟨_,rfl,?_⟩;have hbE:JX l.cues (A.length+1) c=(ZH l.cues (A.length+1)).filter fun e=>decide (e.va≠hval)&&!Wb e.pa l.cues[A.length]:=by rw [hget];rfl
 have hbOk:∀e∈JX l.cues (A.length+1) c,e.Ok:=fun e he=>hes e (List.mem_filter.1 he).1
 have hg:ZN l A.length l.cues[A.length] (JX l.cues (A.length+1) c)=if 128 < (setC c (JX l.cues (A.length+1) c) 1).moves.length then(zeroL,5)else({l with cues:=l.cues.set A.length (setC c (JX l.cues (A.length+1) c) 1)},0):=by
   unfold ZN;rw [hget,Z0Y hc16 (show RightEs (JX l.cues (A.length+1) c)from heR.filter _)];by_cases h:128 < (setC c (JX l.cues (A.length+1) c) 1).moves.length
   · simp only [h,if_true];rfl
   · simp only [h,if_false];rfl
 have hS:=ZG hco hbOk (p:=1) ⟨by decide,by decide⟩
 repeat' refine fun _ _=>⟨fun _=>?_,fun _=>?_⟩
 all_goals
   refine Z0 Z0d ⟨ZH l.cues (A.length+1),fun e=>decide (e.va≠hval)&&!Wb e.pa l.cues[A.length],99,[.ptr l.enc,.ptr [.int .i64 (A.length:Nat)]],hes,by omega,by simp only [zz,reduceCtorEq,Lis.enc],Zbx hl hlt (by omega) hes,_,rfl,?_⟩;rw [←hbE]
   repeat' refine fun _ _=>⟨fun _=>?_,fun _=>?_⟩
 all_goals
   refine Z0 Z3E ⟨l,A.length,JX l.cues (A.length+1) c,hlt,hl,hbOk,by omega,by simp only [zz,reduceCtorEq,Lis.enc],?_⟩;refine⟨_,rfl,?_⟩;rw [hg];by_cases h8:128 < (setC c (JX l.cues (A.length+1) c) 1).moves.length
   · rw [if_pos h8];rw [if_pos h8]at hK;refine Y3 (by simp only [zz,reduceCtorEq,Lis.enc] <;> omega) ?_;simp only [zz,reduceCtorEq,Lis.enc];exact hK
   · rw [if_neg h8];rw [if_neg h8]at hK;refine J3 (by simp only [zz,reduceCtorEq,Lis.enc] <;> omega) ?_;generalize setC c (JX l.cues (A.length+1) c) 1=c' at hS hK;have hlt2:A.length < (l.cues.set A.length c').length:=by simpa using hlt
     have hg2:(l.cues.set A.length c')[A.length]=c':=by simp
     refine⟨by simp only [zz,reduceCtorEq,Lis.enc] <;> omega,by simp only [zz,reduceCtorEq,Lis.enc,List.length_map] <;> omega,?_⟩;have hbOk2:Cue.Ok {c' with block:=true}:=⟨hS.moves,hS.parts,hS.follow,hS.loops⟩
     have hin2:∀x∈l.cues.set A.length c',x.Ok:=by
       intro x hx;rcases List.mem_or_eq_of_mem_set hx with hx|rfl
       · exact hl.cues x hx
       · exact hS
     have hl2:Lis.Ok {l with cues:=l.cues.set A.length c'}:= {hl with cues:=hin2}
     refine Z0 YY ⟨{l with cues:=l.cues.set A.length c'},A.length,{c' with block:=true},hl2,hbOk2,hlt2,by show(l.cues.set A.length c').length≤1000000;simp;omega,by simp only [zz,reduceCtorEq,Lis.enc,J0 hlt2,hg2,Cue.enc],_,rfl,?_⟩;have hss:(l.cues.set A.length c').set A.length {c' with block:=true}=l.cues.set A.length {c' with block:=true}:=by simp
     simp only [zz,reduceCtorEq,Lis.enc,hss];exact hK
theorem ZfC:Contract Tryz.prog 174 fun args K=>∃(m:Mov) (f:FuncId) (cf:List D) (W:Par→Val),m.Ok∧(W m.pa).Ok∧Z0U (.clo f cf) W∧args=[.agg m.enc,.ptr [.clo f cf]]∧K [.d (.bool (decide (m.va≠W m.pa)))]:=by
 refine .of c174 ZdY ?_;rintro _ K ⟨m,f,cf,W,hm,hw,⟨sf,hf,hs⟩,rfl,hK⟩ hsm;refine⟨m.enc++[.ptr [.clo f cf]],rfl,by exact(Mov.has hm).append (show HasKs [.ptr [.fn]] [.ptr [.clo f cf]]from⟨⟨trivial,trivial⟩,trivial⟩),?_⟩;refine Z7 (FvC.up' (s:=sf) (fv:=.clo f cf) hf) ⟨fun rs=>rs=[.d (.agg (W m.pa).enc)],?_,fun rs h=>⟨(W m.pa).enc,by rw [h];rfl,⟨Y2 hw.1,Y2 hw.2,trivial⟩,?_⟩⟩
 · simp only [zz,reduceCtorEq,Mov.enc];exact hs m.pa hm.1
 simp only [zz,reduceCtorEq,Mov.enc,Val.enc];have e:decide (m.va≠W m.pa)=!(decide (m.va.pal=(W m.pa).pal)&&(decide (m.va.lev=(W m.pa).lev)&&true)):=by
   rw [Bool.eq_iff_iff];simp [Z4d]
 rw [e]at hK;simpa using hK
theorem Zbm {f:FuncId} {cf:List D} {W:Par→Val} (hW:Z0U (.clo f cf) W) {ms:List Mov} (hms:∀m∈ms,m.Ok) (hw:∀p,(W p).Ok):
   YC Tryz.prog (.clo 174 [.ptr [.clo f cf]]) Mov.enc ms fun m=>decide (m.va≠W m.pa):=by
 refine⟨fun as_ K=>∃m:Mov,m.Ok∧as_=[.agg m.enc]∧K [.d (.bool (decide (m.va≠W m.pa)))],FvC.of c174 ZfC ?_,fun m hm=>⟨m,hms m hm,rfl,rfl⟩⟩;rintro _ K ⟨m,hm,rfl,hK⟩;refine⟨⟨m,f,cf,W,hm,hw _,hW,rfl,hK⟩,J4 [some (.agg mvKs)] (by kernel_rfl) ?_⟩;intro i rk d h1 h2;cases i with
 |zero=>simp at h1 h2;subst h1 h2;exact Mov.has hm
 |succ i=>simp at h1
theorem Z7T:Contract Tryz.prog 101 fun args K=>∃(ms:List Mov) (f:FuncId) (cf:List D) (W:Par→Val),(∀m∈ms,m.Ok)∧(∀p,(W p).Ok)∧Z0U (.clo f cf) W∧ms.length≤100000∧args=[.slice (ms.map Mov.enc),.clo f cf]∧K [.d (.slice ((ms.filter fun m=>decide (m.va≠W m.pa)).map Mov.enc))]:=by
 refine .of (by kernel_rfl) ZeU ?_;rintro _ K ⟨ms,f,cf,W,hms,hw,hW,hlen,rfl,hK⟩ hsm;refine⟨[.slice (ms.map Mov.enc),.clo f cf],rfl,⟨JK hms,trivial,trivial⟩,?_⟩;refine Z0 Z6T ⟨ms,fun m=>decide (m.va≠W m.pa),174,[.ptr [.clo f cf]],hms,hlen,by simp only [zz,reduceCtorEq],Zbm hW hms hw,_,rfl,?_⟩;simp only [zz,reduceCtorEq];exact hK
theorem Zdk:Contract Tryz.prog 102 fun args K=>∃(e:Ent) (f:FuncId) (cf:List D) (W:Par→Val) (l:Lis) (i:Nat) (hi:i < l.cues.length),e.Ok∧(W e.pa).Ok∧Z0U (.clo f cf) W∧l.Ok∧l.cues.length≤1000000∧args=[.agg e.enc,.ptr [.clo f cf],.ptr l.enc,.ptr [.int .i64 i]]∧
   K [.d (.bool (decide (e.va=hval)&&decide (W e.pa≠hval)&&!Wb e.pa l.cues[i]))]:=by
 refine .of c102 ZeT ?_;rintro _ K ⟨e,f,cf,W,l,i,hi,he,hw,⟨sf,hf,hs⟩,hl,hlen,rfl,hK⟩ hsm;refine⟨e.enc++[.ptr [.clo f cf],.ptr l.enc,.ptr [.int .i64 (i:Nat)]],rfl,by exact(Ent.has he).append (show HasKs [.ptr [.fn],.ptr liKs,.ptr [.int .i64]] [.ptr [.clo f cf],.ptr l.enc,.ptr [.int .i64 (i:Nat)]]from⟨⟨trivial,trivial⟩,Lis.has hl,⟨Y2 ⟨by omega,by omega⟩,trivial⟩,trivial⟩),?_⟩;refine Z0 Z09 ⟨rfl,_,rfl,?_⟩;rcases Decidable.em (e.va=hval)with hv|hv
 rotate_left
 · have hf2:decide (e.va=hval)=false:=by simp [hv]
   rw [hf2]at hK;have hne:¬e.va.pal= -1∨¬e.va.lev=0:=Decidable.not_and_iff_not_or_not.1 fun h=>hv ((Z4d _ _).2 h)
   rcases hne with ha|ha
   all_goals
     refine Jz (s:=fun _ _=>True) false [.int .i64 0,.int .i64 0] (by simp only [zz,reduceCtorEq,Ent.enc,Val.enc,hval,ha,decide_false,Bool.false_and,Bool.and_false,false_and,and_false]) (fun h=>by cases h) (fun _=>rfl) ?_;refine Z5 Z09 false [.int .i64 0,.int .i64 0] (by simp only [zz,reduceCtorEq,Ent.enc,Val.enc,hval,ha,decide_false,Bool.false_and,Bool.and_false,false_and,and_false]) (fun h=>by cases h) (fun _=>rfl) ?_;refine Z5 Z0o false [.bool false] (by simp only [zz,reduceCtorEq,Ent.enc,Val.enc,hval,ha,decide_false,Bool.false_and,Bool.and_false,false_and,and_false]) (fun h=>by cases h) (fun _=>rfl) ?_;simp only [zz,reduceCtorEq,Ent.enc,Val.enc,hval,ha,decide_false,Bool.false_and,Bool.and_false,false_and,and_false];exact hK
 · have hf2:decide (e.va=hval)=true:=by simp [hv]
   rw [hf2]at hK;refine Jz (s:=sf.up) true (W e.pa).enc (by simp only [zz,reduceCtorEq,Ent.enc,Val.enc,hv,hval]) (fun _=>⟨FvC.up' (s:=sf) (fv:=.clo f cf) hf,fun rs=>rs=[.d (.agg (W e.pa).enc)],?_,fun rs h=>⟨(W e.pa).enc,by rw [h];rfl,⟨Y2 hw.1,Y2 hw.2,trivial⟩,rfl⟩⟩) (fun h=>by cases h) ?_
   · simp only [zz,reduceCtorEq,Ent.enc];exact hs e.pa he.1
   refine Z5 Z09 true hval.enc (by simp only [zz,reduceCtorEq,Ent.enc,Val.enc,hv,hval]) (fun _=>⟨rfl,rfl⟩) (fun h=>by cases h) ?_;rcases Decidable.em (W e.pa=hval)with hw2|hw2
   · have hf3:decide (W e.pa≠hval)=false:=by simp [hw2]
     rw [hf3]at hK;refine Z5 Z0o false [.bool false] (by simp only [zz,reduceCtorEq,Ent.enc,Val.enc,hv,hval,hw2]) (fun h=>by cases h) (fun _=>rfl) ?_;simp only [zz,reduceCtorEq,Ent.enc,Val.enc,hv,hval,hw2];exact hK
   · have hf3:decide (W e.pa≠hval)=true:=by simp [hw2]
     rw [hf3]at hK;have hne:¬(W e.pa).pal= -1∨¬(W e.pa).lev=0:=Decidable.not_and_iff_not_or_not.1 fun h=>hw2 ((Z4d _ _).2 h)
     rcases hne with ha|ha
     all_goals
       refine Z5 Z0o true [.bool (Wb e.pa l.cues[i])] (by simp only [zz,reduceCtorEq,Ent.enc,Val.enc,hv,hval,ha,decide_false,Bool.false_and,Bool.and_false,false_and,and_false]) (fun _=>⟨l,i,e.pa,hi,hl,he.1,hlen,by simp only [zz,reduceCtorEq,Ent.enc,Lis.enc,Par.enc,D.cells,D.cell,Val.enc,hval],rfl⟩) (fun h=>by cases h) ?_;simp only [zz,reduceCtorEq,Ent.enc,Val.enc,hv,hval,ha,decide_false,Bool.false_and,Bool.and_false,false_and,and_false];simpa using hK
noncomputable def t28:R:=let x3:T:=Vl (.idx (Va 4) (Va 12) 2 (.int .i64)) (Vl (.idx (Va 4) (Va 12) 3 (.int .i64)) .lnil);let x4:List K:=mvKs;let x5:T:=Vl (Va 14) (Vl (Va 15) .lnil);let x6:T:=.idx (Va 4) (Va 12) 0 (.int .i64);let x7:T:=.idx (Va 4) (Va 12) 1 (.int .i64);let x8:T:=Vl (Vn 0) (Vl (Vn 0) (Vl .nils .lnil));let x9:List K:=tmKs;let x10:T:=Vl (Va 1) (Vl (Va 2) .lnil);let x11:T:=.idx (Va 15) (Va 19) 0 .str;let x12:T:=.idx (Va 15) (Va 19) 1 .str;let x0:List K:=[.str,.str,.slice x4,.slice x9,.bool,.bool,.int .i64,.str,.int .i64];let x1:T:=Vl (.idx (Va 15) (Va 19) 3 (.slice x9)) (Vl (.idx (Va 15) (Va 19) 4 .bool) (Vl (.idx (Va 15) (Va 19) 5 .bool) (Vl (.idx (Va 15) (Va 19) 6 (.int .i64)) (Vl (.idx (Va 15) (Va 19) 7 .str) (Vl (.idx (Va 15) (Va 19) 8 (.int .i64)) .lnil)))));let x2:T:=.push .nils (Vl x6 (Vl x7 x3));.call none (.fn 65) [Vl (Va 0) x10,Va 3] [.agg [.int .i64,.int .i64,.slice x0],.cell (.int .i64),.cell (.int .i64)] (.ite (.o2 .ne (Va 9) (Vn 0)) (.ret [.d x8,.d (Va 9)]) (.call none (.fn 52) [Va 4] [.cell (.int .i64)] (.ite (.o2 .ne (Va 10) (Vn 0)) (.ret [.d x8,.d (Va 10)]) (.fact (.o2 .le (.o1 .len (Va 4)) (Vn 140737488355328)) (.loop 0 [.nils,Vn 0,Va 5,Va 6,Va 7] [.slice enKs,.int .i64,.int .i64,.int .i64,.slice x0] (.ite (.o2 .lt (Va 12) (.o1 .len (Va 4))) (.need (.o2 .le (Vn 0) (Va 12)) (.call none (.fn 87) [Vl (Va 0) x10,Va 3,Vl x6 (Vl x7 .lnil)] [.cell .str,.cell .bool,.cell (.int .i64)] (.ite (.o1 .not (Va 17)) (.need (.o2 .le (.o1 .len (.o2 .app (Va 11) x2)) (Vn 4398046511104)) (.again 0 [.o2 .app (Va 11) x2,.o2 (.add .i64) (Va 12) (Vn 1),Va 13,Va 14,Va 15])) (.call none (.fn 53) [Vl (Va 13) x5,Va 16] [.cell (.int .i64)] (.need (.o2 .le (Vn 0) (Va 19)) (.need (.o2 .lt (Va 19) (.o1 .len (Va 15))) (.call none (.fn 88) [.idx (Va 15) (Va 19) 2 (.slice x4)] [.own x4] (.call none (.fn 89) [Vl x11 (Vl x12 (Vl (Va 20) x1)),Vl x6 (Vl x7 .lnil)] [.cell (.int .i64),.cell .bool,.cell (.int .i64)] (.need (.o2 .le (Vn 0) (Va 21)) (.need (.o2 .lt (Va 21) (.o1 .len (Va 20))) (.call none (.fn 90) [Vl (Va 13) x5,Va 19,Vl x11 (Vl x12 (Vl (.upd (Va 20) (Va 21) 2 x3) x1))] [.agg [.int .i64,.int .i64,.slice x0]] (.again 0 [Va 11,.o2 (.add .i64) (Va 12) (Vn 1),Va 24,Va 25,Va 26])))))))))))) (.call none (.fn 62) [Vl (Va 13) x5,Va 8,Va 11] [.agg [.int .i64,.int .i64,.slice x0],.cell (.int .i64)] (.call none (.fn 61) [Vl (Va 16) (Vl (Va 17) (Vl (Va 18) .lnil)),Va 19] [.agg [.int .i64,.int .i64,.slice x0],.cell (.int .i64)] (.ret [.d (Vl (Va 20) (Vl (Va 21) (Vl (Va 22) .lnil))),.d (Va 23)])))))))))
theorem ZgG:fnO Tryz.prog mdA 28 [.agg liKs,.cell .str,.cell (.slice enKs)]=t28:=by kernel_rfl
theorem Z9L {f:FuncId} {cf:List D} {W:Par→Val} (hW:Z0U (.clo f cf) W) (hw:∀p,(W p).Ok) {l:Lis} (hl:l.Ok) {i:Nat} (hi:i < l.cues.length) (hlen:l.cues.length≤1000000) {es:List Ent} (hes:∀e∈es,e.Ok):
   YC Tryz.prog (.clo 102 [.ptr [.clo f cf],.ptr l.enc,.ptr [.int .i64 (i:Nat)]]) Ent.enc es fun e=>decide (e.va=hval)&&decide (W e.pa≠hval)&&!Wb e.pa l.cues[i]:=by
 refine⟨fun as_ K=>∃e:Ent,e.Ok∧as_=[.agg e.enc]∧K [.d (.bool (decide (e.va=hval)&&decide (W e.pa≠hval)&&!Wb e.pa l.cues[i]))],FvC.of c102 Zdk ?_,fun e he=>⟨e,hes e he,rfl,rfl⟩⟩;rintro _ K ⟨e,he,rfl,hK⟩;refine⟨⟨e,f,cf,W,l,i,hi,he,hw _,hW,hl,hlen,rfl,hK⟩,J4 [some (.agg enKs)] (by kernel_rfl) ?_⟩;intro i rk d h1 h2;cases i with
 |zero=>simp at h1 h2;subst h1 h2;exact Ent.has he
 |succ i=>simp at h1
def Wv (cs:List Cue) (n:Nat) (c:Cue):Cue:= {c with moves:=leave c fun p=>W7 cs p n,block:=false}
def Z1F (cs:List Cue) (n:Nat) (c:Cue):List Ent:=(ZH cs (n+1)).filter fun e=>decide (e.va=hval)&&decide (W7 cs e.pa n≠hval)&&!Wb e.pa (Wv cs n c)
def Z0W (l:Lis) (s:List UInt8):Lis×Int:=
 if Jf l s≠0 then(zeroL,Jf l s)else
 match l.cues[upto l s - 1]? with
 |none=>(zeroL,6)
 |some c=>if 128 < (setC (Wv l.cues (upto l s - 1) c) (Z1F l.cues (upto l s - 1) c) 1).moves.length then(zeroL,5)else({l with cues:=l.cues.set (upto l s - 1) (setC (Wv l.cues (upto l s - 1) c) (Z1F l.cues (upto l s - 1) c) 1)},0)
theorem Zcm {c:Cue} (h:J5 c=0) (cs:List Cue) (n:Nat):J5 (Wv cs n c)=0:=by
 have hC:=Z0H h;have h2:=Z0g h (hC.rc.filter fun m=>decide (m.va≠W7 cs m.pa n)) (Nat.le_trans (List.length_filter_le _ _) hC.len);exact Z5Q (b:=false) h2
set_option maxHeartbeats 2000000 in
theorem Z8N:Contract Tryz.prog 40 fun args K=>∃(l:Lis) (s:List UInt8),l.Ok∧args=[.agg l.enc,.str s]∧K [.d (.agg (Z0W l s).1.enc),.d (.int .i64 (Z0W l s).2)]:=by
 refine .of (by kernel_rfl) Zgz ?_;rintro _ K ⟨l,s,hl,rfl,hK⟩ hsm;refine⟨l.enc++[.str s],rfl,by exact Z1o hl,?_⟩;unfold Z0W at hK;refine Z0 YP ⟨l,s,hl,by simp only [zz,reduceCtorEq,Lis.enc],_,rfl,?_⟩;rcases Decidable.em (Jf l s=0)with h1|h1
 rotate_left
 · rw [if_pos h1]at hK;refine Y3 (by simp only [zz,reduceCtorEq,Lis.enc,h1]) ?_;simp only [zz,reduceCtorEq,Lis.enc];exact hK
 rw [if_neg (by simpa using h1)]at hK;rw [h1];refine J3 (by simp only [zz,reduceCtorEq,Lis.enc]) ?_;obtain⟨A,c,B,hA⟩:=YI hl h1;have hg0:=YF hA.ck hA.num;have hpl:place l.cues s=(A.length:Int):=by
   have:=(Zk hl h1).2.2.2.1;rw [this,hA.n];simp
 have hf1:(Yp l s).1=(A.length:Int):=by
   unfold Yp;rw [if_neg (by simp [hg0])];simp only [hpl];rw [if_neg (by omega)]
 rw [hf1];have hlook:Z5B l s=(ZH l.cues (A.length+1),0):=by unfold Z5B;rw [if_neg (by simp [h1]),hA.n]
 have hlt:A.length < l.cues.length:=by rw [hA.eq];simp
 have hget:l.cues[A.length]=c:=by
   have:l.cues[A.length]? =some c:=by rw [hA.eq];simp
   exact(List.getElem?_eq_some_iff.1 this).2
 have hlen64:=hA.rt.len;rw [hA.n,Nat.add_sub_cancel,List.getElem?_eq_getElem hlt,hget]at hK;simp only at hK;have hes:=Z5C hA.rt (A.length+1);have hll:=Z3z hA.rt (A.length+1);have heR:=ZaL hl hA.ck (A.length+1);have hco:c.Ok:=hget▸hl.cues _ (List.getElem_mem hlt);have hc16:J5 c=0:=hget▸(Wd hA.ck).cues _ (List.getElem_mem hlt);have hc1:=Zcm hc16 l.cues A.length;have hc1o:(Wv l.cues A.length c).Ok:=⟨fun m hm=>hco.moves m (List.mem_filter.1 hm).1,hco.parts,hco.follow,hco.loops⟩
 have hml:=(Z0H hc16).len;have hvo:∀p,(W7 l.cues p A.length).Ok:=fun p=>JN hA.rt p _
 have hwA:wr64 ((A.length:Int) - 1)=(A.length:Int) - 1:=Z1 (by omega);have hin2:∀x∈l.cues.set A.length (Wv l.cues A.length c),x.Ok:=by
   intro x hx;rcases List.mem_or_eq_of_mem_set hx with hx|rfl
   · exact hl.cues x hx
   · exact hc1o
 have hl2:Lis.Ok {l with cues:=l.cues.set A.length (Wv l.cues A.length c)}:= {hl with cues:=hin2}
 have hlt2:A.length < (l.cues.set A.length (Wv l.cues A.length c)).length:=by simpa using hlt
 have hg2:(l.cues.set A.length (Wv l.cues A.length c))[A.length]=Wv l.cues A.length c:=by simp
 refine Z0 Z0V ⟨l,A.length,hl,hA.ck,by omega,by simp only [zz,reduceCtorEq,Lis.enc,hwA],fun f cf hsv=>⟨_,rfl,?_⟩⟩;refine⟨by simp only [zz,reduceCtorEq,Lis.enc] <;> omega,by simp only [zz,reduceCtorEq,Lis.enc,List.length_map] <;> omega,?_⟩;refine Z0 Z7T ⟨c.moves,f,cf,fun p=>W7 l.cues p A.length,hco.moves,hvo,hsv,by omega,by simp only [zz,reduceCtorEq,Lis.enc,J0 hlt,hget,Cue.enc],_,rfl,?_⟩;refine Z0 YY ⟨l,A.length,Wv l.cues A.length c,hl,hc1o,hlt,by omega,by simp only [zz,reduceCtorEq,Lis.enc,J0 hlt,hget,Cue.enc,Wv,leave],_,rfl,?_⟩;refine Z0 Z5D ⟨l,s,hl,by simp only [zz,reduceCtorEq,Lis.enc],?_⟩;rw [hlook];refine⟨_,rfl,?_⟩;have hbE:Z1F l.cues A.length c=(ZH l.cues (A.length+1)).filter fun e=>decide (e.va=hval)&&decide (W7 l.cues e.pa A.length≠hval)&&!Wb e.pa (l.cues.set A.length (Wv l.cues A.length c))[A.length]:=by rw [hg2];rfl
 have hbOk:∀e∈Z1F l.cues A.length c,e.Ok:=fun e he=>hes e (List.mem_filter.1 he).1
 refine Z0 Z0d ⟨ZH l.cues (A.length+1),fun e=>decide (e.va=hval)&&decide (W7 l.cues e.pa A.length≠hval)&&!Wb e.pa (l.cues.set A.length (Wv l.cues A.length c))[A.length],102,
   [.ptr [.clo f cf],.ptr (Lis.enc {l with cues:=l.cues.set A.length (Wv l.cues A.length c)}),.ptr [.int .i64 (A.length:Nat)]],hes,by omega,by simp only [zz,reduceCtorEq,Lis.enc],
   Z9L (l:= {l with cues:=l.cues.set A.length (Wv l.cues A.length c)}) hsv hvo hl2 hlt2 (by show(l.cues.set A.length (Wv l.cues A.length c)).length≤1000000;simp;omega) hes,_,rfl,?_⟩
 rw [←hbE];have hg:ZN {l with cues:=l.cues.set A.length (Wv l.cues A.length c)} A.length (l.cues.set A.length (Wv l.cues A.length c))[A.length] (Z1F l.cues A.length c)=
     if 128 < (setC (Wv l.cues A.length c) (Z1F l.cues A.length c) 1).moves.length then(zeroL,5)else({l with cues:=l.cues.set A.length (setC (Wv l.cues A.length c) (Z1F l.cues A.length c) 1)},0):=by
   unfold ZN;rw [hg2,Z0Y hc1 (show RightEs (Z1F l.cues A.length c)from heR.filter _)];by_cases h:128 < (setC (Wv l.cues A.length c) (Z1F l.cues A.length c) 1).moves.length
   · simp only [h,if_true];rfl
   · simp only [h,if_false,List.set_set];rfl
 have hgOk:(ZN {l with cues:=l.cues.set A.length (Wv l.cues A.length c)} A.length (l.cues.set A.length (Wv l.cues A.length c))[A.length] (Z1F l.cues A.length c)).1.Ok∧I64 (ZN {l with cues:=l.cues.set A.length (Wv l.cues A.length c)} A.length (l.cues.set A.length (Wv l.cues A.length c))[A.length] (Z1F l.cues A.length c)).2:=by
   rw [hg];split
   · exact⟨Yu,show I64 5 from⟨by decide,by decide⟩⟩
   · refine⟨{hl with cues:=?_},show I64 0 from⟨by decide,by decide⟩⟩;intro x hx;rcases List.mem_or_eq_of_mem_set hx with hx|rfl
     · exact hl.cues x hx
     · exact ZG hc1o hbOk ⟨by decide,by decide⟩
 refine Z0 Z3E ⟨{l with cues:=l.cues.set A.length (Wv l.cues A.length c)},A.length,Z1F l.cues A.length c,hlt2,hl2,hbOk,by show(l.cues.set A.length (Wv l.cues A.length c)).length≤1000000;simp;omega,by simp only [zz,reduceCtorEq,Lis.enc],?_⟩;refine⟨_,rfl,?_⟩;refine Z0 Z2N ⟨_,_,hgOk.1,hgOk.2,by simp only [zz,reduceCtorEq,Lis.enc],_,rfl,?_⟩;rw [hg];by_cases h8:128 < (setC (Wv l.cues A.length c) (Z1F l.cues A.length c) 1).moves.length
 · rw [if_pos h8];rw [if_pos h8]at hK;simp only [zz,reduceCtorEq,Lis.enc];exact hK
 · rw [if_neg h8];rw [if_neg h8]at hK;simp only [zz,reduceCtorEq,Lis.enc];exact hK
theorem Z94 {l:Lis} (hl:l.Ok) {s:List UInt8} {p:Par} (h:Jf l s=0) (hp:Z3 p=0):
   (src l.cues p (upto l s)= -1∧Z7q l s p=([],false,0))∨∃(i:Nat) (hi:i < l.cues.length),src l.cues p (upto l s)=i∧Z7q l s p=(l.cues[i].num,true,0)∧Wb p l.cues[i]=true:=by
 unfold Z7q;rw [if_neg (by simp [h]),if_neg (by simp [hp])];rcases Z5e (cs:=l.cues) (p:=p) (n:=upto l s) (Z9J l s)with⟨h1,h2⟩|⟨i,hi,h1,_,h3,h4⟩
 · exact .inl ⟨h1,by rw [h2]⟩
 · exact .inr ⟨i,hi,h1,by rw [h3],h4⟩
theorem Z93 {cs0:List Cue} {n:Nat} {es:List Ent} (h:RightEs es):RightEs (ownE cs0 n es):=h.filter _
set_option maxHeartbeats 4000000 in
theorem JY:Contract Tryz.prog 28 fun args K=>∃(l:Lis) (s:List UInt8) (es:List Ent),l.Ok∧(∀e∈es,e.Ok)∧args=[.agg l.enc,.str s,.slice (es.map Ent.enc)]∧K [.d (.agg (WM l s es).1.enc),.d (.int .i64 (WM l s es).2)]:=by
 refine .of (by kernel_rfl) ZgG ?_;rintro _ K ⟨l,s,es,hl,hes,rfl,hK⟩ hsm;refine⟨l.enc++[.str s,.slice (es.map Ent.enc)],rfl,by exact(Lis.has hl).append (show HasKs [.str,.slice enKs] [.str s,.slice (es.map Ent.enc)]from⟨trivial,Jp hes,trivial⟩),?_⟩;unfold WM at hK;refine Z0 YP ⟨l,s,hl,by simp only [zz,reduceCtorEq,Lis.enc],_,rfl,?_⟩;rcases Decidable.em (Jf l s=0)with h1|h1
 rotate_left
 · rw [if_pos h1]at hK;refine Y3 (by simp only [zz,reduceCtorEq,Lis.enc,h1]) ?_;simp only [zz,reduceCtorEq,Lis.enc];exact hK
 rw [if_neg (by simpa using h1)]at hK;rw [h1];refine J3 (by simp only [zz,reduceCtorEq,Lis.enc]) ?_;refine Z0 Z5p ⟨es,hes,by simp only [zz,reduceCtorEq,Lis.enc],_,rfl,?_⟩;rcases Decidable.em (Zo es=0)with h3|h3
 rotate_left
 · rw [if_pos h3]at hK;refine Y3 (by simp only [zz,reduceCtorEq,Lis.enc,h3]) ?_;simp only [zz,reduceCtorEq,Lis.enc];exact hK
 rw [if_neg (by simpa using h3)]at hK;rw [h3];refine J3 (by simp only [zz,reduceCtorEq,Lis.enc]) ?_;obtain⟨A,c,B,hA⟩:=YI hl h1;have hg0:=YF hA.ck hA.num;have hpl:place l.cues s=(A.length:Int):=by
   have:=(Zk hl h1).2.2.2.1;rw [this,hA.n];simp
 have hf1:(Yp l s).1=(A.length:Int):=by
   unfold Yp;rw [if_neg (by simp [hg0])];simp only [hpl];rw [if_neg (by omega)]
 rw [hf1];have hlt:A.length < l.cues.length:=by rw [hA.eq];simp
 have hlen64:=hA.rt.len;have hE:=Z12 hes h3;have hel:=Z1V h3;have hRL:=Wd hA.ck;have hself:Kin l.cues l.cues:=.self hRL.cues hl.cues;have hsc:=fun(p:Par) (hp:Z3 p=0)=>Z94 hl h1 hp
 rw [hA.n]at hsc hK;simp only [zz,reduceCtorEq,Lis.enc,List.length_map];intro hcap;refine Ji es (fun _ l' (a:List Ent×List Cue)=>(a.1++ownE l.cues (A.length+1) l',(l'.filter (srcd l.cues (A.length+1))).foldl (upd1 l.cues (A.length+1)) a.2))
   (fun i a=>[.slice (a.1.map Ent.enc),.int .i64 i,.int .i64 l.num,.int .i64 l.prio,.slice (a.2.map Cue.enc)]) (fun i a=>a.1.length≤i∧(∀e∈a.1,e.Ok)∧Kin l.cues a.2) ([],l.cues) (ownE l.cues (A.length+1) es,updL l.cues (A.length+1) es) (by simp [updL]) ⟨by simp,by simp,hself⟩ 1 (fun _ _=>rfl) rfl ?_ ?_
 · rintro i hi ⟨own,out⟩ ⟨hI1,hI2,hI3⟩ hgo;have hem:=List.getElem_mem hi;have heo:=hes _ hem;simp only at hI1 hI2 hI3 hgo;rw [Z9K,Zat]at hgo;refine⟨fun _=>⟨by simp only [zz,reduceCtorEq] <;> omega,?_⟩,fun h=>?_⟩;rotate_left
   · exfalso;simp only [zz,reduceCtorEq,List.length_map,hi]at h
   refine Z0 Z8O ⟨l,s,es[i].pa,hl,heo.1,by simp only [zz,reduceCtorEq,Lis.enc,Ent.enc,Par.enc,J0 hi],_,rfl,?_⟩;rcases hsc es[i].pa (hE.par _ hem)with⟨q1,q2⟩|⟨j,hj,q1,q2,q3⟩
   · rw [q2];have hs:srcd l.cues (A.length+1) es[i]=false:=by unfold srcd;rw [q1];rfl
     rw [hs]at hgo;refine Y3 (by simp only [zz,reduceCtorEq]) ?_;refine⟨by simp only [zz,reduceCtorEq,List.length_append,List.length_map,List.length_cons,List.length_nil];omega,?_⟩;simp only [zz,reduceCtorEq,Lis.enc,Ent.enc,J0 hi];refine⟨(own++[es[i]],out),⟨by simp [Ent.enc],by refine⟨?_,rfl⟩;rw [Z1] <;> omega⟩,⟨by show(own++[es[i]]).length≤i+1;simp only [List.length_append,List.length_singleton];exact Nat.succ_le_succ hI1,?_,hI3⟩,by simpa using hgo⟩;intro e he;rcases List.mem_append.1 he with he|he
     · exact hI2 e he
     · simp at he;subst he;exact heo
   · rw [q2];have hs:srcd l.cues (A.length+1) es[i]=true:=by unfold srcd;rw [q1];simp
     rw [hs]at hgo;simp only [if_true,List.nil_append,upd1,q1,Int.toNat_natCast]at hgo;refine J3 (by simp only [zz,reduceCtorEq]) ?_;have hjo:j < out.length:=by rw [hI3.len];exact hj
     have hjm:=List.getElem_mem hjo;have hoOk:Lis.Ok {l with cues:=out}:= {hl with cues:=hI3.ok}
     have hpj:place out l.cues[j].num=(j:Int):=by rw [Z90 hI3.nums];exact(Z8y hA.ck hj).2.2
     have hcj:=hI3.ok _ hjm;have hckj:=hI3.ck _ hjm;have hrc:=Z0H hckj;have hol:out.length≤64:=by rw [hI3.len];exact hlen64
     refine Z0 ZbD ⟨{l with cues:=out},l.cues[j].num,hoOk,by simp only [zz,reduceCtorEq,Lis.enc],_,rfl,?_⟩;rw [hpj];refine⟨by simp only [zz,reduceCtorEq] <;> omega,by simp only [zz,reduceCtorEq,List.length_map] <;> omega,?_⟩;refine Z0 Z73 ⟨out[j].moves,hcj.moves,by have:=hrc.len;omega,by simp only [zz,reduceCtorEq,J0 hjo,Cue.enc],_,rfl,?_⟩;refine Z0 ZcM ⟨out[j],es[i].pa,hcj,hckj,heo.1,hE.par _ hem,by simp only [zz,reduceCtorEq,J0 hjo,Cue.enc,J0 hi,Ent.enc,Par.enc],_,rfl,?_⟩;have hsm2:(Zb out[j].moves es[i].pa).isSome=true:=by
       rw [Z4J (hI3.pas j hjo hj)];exact q3
     obtain⟨m0,hm0⟩:=Option.isSome_iff_exists.1 hsm2;have hRM:=hrc.rc.right hrc.len;obtain⟨hlow,hlm⟩:=Z6G hRM hm0;have hlp:out[j].moves[low out[j].moves es[i].pa].pa=es[i].pa:=by rw [hlm];simpa using List.find?_some hm0
     rw [hsm2];simp only [if_true];refine⟨by simp only [zz,reduceCtorEq] <;> omega,by simp only [zz,reduceCtorEq,List.length_map] <;> omega,?_⟩;have henc:=Z66 (e:=es[i]) hrc.rc.rising hlow hlp;have hu:=Z1E hcj heo;refine Z0 YY ⟨{l with cues:=out},j,updC es[i] out[j],hoOk,hu,hjo,by show out.length≤1000000;omega,?_,_,rfl,?_⟩
     · simp only [zz,reduceCtorEq,J0 hjo,J0 hi,Cue.enc,Ent.enc,D.upd,Lis.enc,updC];rw [←henc]
     · simp only [zz,reduceCtorEq,Lis.enc];have hmod:out.modify j (updC es[i])=out.set j (updC es[i] out[j]):=by
         apply List.ext_getElem?;intro k;rw [List.getElem?_modify,List.getElem?_set];by_cases h:j=k
         · subst h;simp [hjo]
         · simp [h]
       rw [hmod]at hgo;exact⟨(own,out.set j (updC es[i] out[j])),⟨rfl,by rw [Z1] <;> omega,rfl⟩,⟨by show own.length≤i+1;omega,hI2,hmod▸hI3.upd heo (hE.val _ hem) j⟩,hgo⟩
 · rintro⟨own,out⟩ ⟨hI1,hI2,hI3⟩ hgo;simp only [ownE,List.filter_nil,List.append_nil,List.foldl_nil,Prod.mk.injEq]at hgo hI1 hI2 hI3;obtain⟨rfl,rfl⟩:=hgo;refine⟨fun h=>?_,fun _=>?_⟩
   · exfalso;simp only [zz,reduceCtorEq,List.length_map,Nat.lt_irrefl]at h
   have hoOk:Lis.Ok {l with cues:=updL l.cues (A.length+1) es}:= {hl with cues:=hI3.ok}
   have hlo:A.length < (updL l.cues (A.length+1) es).length:=by rw [hI3.len];exact hlt
   have hol:(updL l.cues (A.length+1) es).length≤64:=by rw [hI3.len];exact hlen64
   have hd16:=hI3.ck _ (List.getElem_mem hlo);have hdo:=hI3.ok _ (List.getElem_mem hlo);have howR:RightEs (ownE l.cues (A.length+1) es):=Z93 hE.es;have howO:∀e∈ownE l.cues (A.length+1) es,e.Ok:=hI2;have hul:JF l.cues (A.length+1) es=(updL l.cues (A.length+1) es).set A.length (setC (updL l.cues (A.length+1) es)[A.length] (ownE l.cues (A.length+1) es) 1):=by
     unfold JF;rw [Nat.add_sub_cancel,Z3F hlo]
   change ∀e∈ownE l.cues (A.length+1) es,e.Ok at hI2;have hsh:Ju {l with cues:=JF l.cues (A.length+1) es}=if 128 < (setC (updL l.cues (A.length+1) es)[A.length] (ownE l.cues (A.length+1) es) 1).moves.length then(zeroL,5)else({l with cues:=JF l.cues (A.length+1) es},0):=by
     rw [hul];split
     · rename_i h;exact YA (c:=setC (updL l.cues (A.length+1) es)[A.length] (ownE l.cues (A.length+1) es) 1) (by rw [List.mem_iff_getElem];exact⟨A.length,by simpa using hlo,by simp⟩) h
     · rename_i h;refine YE (by simp;omega) fun x hx=>?_
       rcases List.mem_or_eq_of_mem_set hx with hx|rfl
       · exact(Z0H (hI3.ck x hx)).len
       · omega
   rw [hsh]at hK;have hg:ZN {l with cues:=updL l.cues (A.length+1) es} A.length (updL l.cues (A.length+1) es)[A.length] (ownE l.cues (A.length+1) es)=
       if 128 < (setC (updL l.cues (A.length+1) es)[A.length] (ownE l.cues (A.length+1) es) 1).moves.length then(zeroL,5)else({l with cues:=JF l.cues (A.length+1) es},0):=by
     unfold ZN;rw [Z0Y hd16 howR,hul];by_cases h:128 < (setC (updL l.cues (A.length+1) es)[A.length] (ownE l.cues (A.length+1) es) 1).moves.length
     · simp only [h,if_true];rfl
     · simp only [h,if_false];rfl
   have hgOk:(ZN {l with cues:=updL l.cues (A.length+1) es} A.length (updL l.cues (A.length+1) es)[A.length] (ownE l.cues (A.length+1) es)).1.Ok∧I64 (ZN {l with cues:=updL l.cues (A.length+1) es} A.length (updL l.cues (A.length+1) es)[A.length] (ownE l.cues (A.length+1) es)).2:=by
     rw [hg];split
     · exact⟨Yu,show I64 5 from⟨by decide,by decide⟩⟩
     · refine⟨{hl with cues:=?_},show I64 0 from⟨by decide,by decide⟩⟩;intro x hx;have hx:x∈JF l.cues (A.length+1) es:=hx;rw [hul]at hx;rcases List.mem_or_eq_of_mem_set hx with hx|rfl
       · exact hI3.ok x hx
       · exact ZG hdo howO ⟨by decide,by decide⟩
   refine Z0 Z3E ⟨{l with cues:=updL l.cues (A.length+1) es},A.length,ownE l.cues (A.length+1) es,hlo,hoOk,howO,by show(updL l.cues (A.length+1) es).length≤1000000;omega,by simp only [zz,reduceCtorEq,Lis.enc];rfl,?_⟩;refine⟨_,rfl,?_⟩;refine Z0 Z2N ⟨_,_,hgOk.1,hgOk.2,by simp only [zz,reduceCtorEq,Lis.enc],_,rfl,?_⟩;rw [hg];by_cases h8:128 < (setC (updL l.cues (A.length+1) es)[A.length] (ownE l.cues (A.length+1) es) 1).moves.length
   · rw [if_pos h8];rw [if_pos h8]at hK;simp only [zz,reduceCtorEq,Lis.enc];exact hK
   · rw [if_neg h8];rw [if_neg h8]at hK;simp only [zz,reduceCtorEq,Lis.enc];exact hK
noncomputable def t79:R:=.ret [.own 4 (.push .nils (Vl (Va 0) (Vl (Va 1) (Vl (Vn 0) (Vl (Va 2) .lnil)))))]
theorem Zg2:fnO Tryz.prog mdA 79 [.agg [.int .i64,.int .i64],.cell (.int .i64)]=t79:=by kernel_rfl
noncomputable def t80:R:=.ret [.d (Vl (Vn 1) (Vl (Vn 1) .lnil))]
theorem Zg1:fnO Tryz.prog mdA 80 []=t80:=by kernel_rfl
noncomputable def t81:R:=let x0:T:=.idx (Va 2) (Va 6) 2 (.slice mvKs);.fact (.o2 .le (.o1 .len (Va 2)) (Vn 140737488355328)) (.loop 0 [Vn 0] [.int .i64] (.ite (.o2 .lt (Va 6) (.o1 .len (Va 2))) (.need (.o2 .le (Vn 0) (Va 6)) (.fact (.o2 .le (.o1 .len x0) (Vn 140737488355328)) (.loop 1 [Vn 0] [.int .i64] (.ite (.o2 .lt (Va 7) (.o1 .len x0)) (.need (.o2 .le (Vn 0) (Va 7)) (.ite (.ite (.o2 .eq (.idx (Va 2) (Va 6) 0 .str) (Va 3)) (.o2 .band (.o2 .eq (.idx x0 (Va 7) 0 (.int .i64)) (Va 4)) (.o2 .band (.o2 .eq (.idx x0 (Va 7) 1 (.int .i64)) (Va 5)) (.bool true))) (.bool false)) (.ret [.d (Vl (.idx x0 (Va 7) 2 (.int .i64)) (Vl (.idx x0 (Va 7) 3 (.int .i64)) .lnil)),.d (.bool true)]) (.again 1 [.o2 (.add .i64) (Va 7) (Vn 1)]))) (.again 0 [.o2 (.add .i64) (Va 6) (Vn 1)]))))) (.ret [.d (Vl (Vn 0) (Vl (Vn 0) .lnil)),.d (.bool false)])))
theorem Zg0:fnO Tryz.prog mdA 81 [.agg liKs,.cell .str,.agg [.int .i64,.int .i64]]=t81:=by kernel_rfl
theorem WX:Contract Tryz.prog 80 fun args K=>args=[]∧K [.d (.agg (Par.enc ⟨1,1⟩))]:=by
 refine .of (by kernel_rfl) Zg1 ?_;rintro _ K ⟨rfl,hK⟩ hsm;refine⟨[],rfl,by trivial,?_⟩;simp only [zz,reduceCtorEq,t80];exact hK
theorem Z0q:Contract Tryz.prog 79 fun args K=>∃(p:Par) (v:Int),p.Ok∧I64 v∧args=[.agg p.enc,.int .i64 v]∧K [.own 4 ([(⟨p,⟨0,v⟩⟩:Ent)].map Ent.enc)]:=by
 refine .of (by kernel_rfl) Zg2 ?_;rintro _ K ⟨p,v,hp,hv,rfl,hK⟩ hsm;refine⟨p.enc++[.int .i64 v],rfl,by exact(Par.has hp).append (show HasKs [.int .i64] [.int .i64 v]from⟨Y2 hv,trivial⟩),?_⟩;simp only [zz,reduceCtorEq,t79,Par.enc,Ent.enc];exact hK
theorem Zf7 {a b:Par} (h1:a.ch=b.ch) (h2:a.at_=b.at_):a=b:=by
 cases a;cases b;simp only at h1 h2;rw [h1,h2]
def mvd (s:List UInt8) (p:Par) (c:Cue):Option Val:=if c.num=s then(Zb c.moves p).map Mov.va else none
def Z2l (l:Lis) (s:List UInt8) (p:Par):Option Val:=l.cues.findSome? (mvd s p)
set_option maxHeartbeats 1000000 in
theorem Wh:Contract Tryz.prog 81 fun args K=>∃(l:Lis) (s:List UInt8) (p:Par),l.Ok∧p.Ok∧args=[.agg l.enc,.str s,.agg p.enc]∧
   K [.d (.agg (((Z2l l s p).getD ⟨0,0⟩).enc)),.d (.bool (Z2l l s p).isSome)]:=by
 refine .of (by kernel_rfl) Zg0 ?_;rintro _ K ⟨l,s,p,hl,hp,rfl,hK⟩ hsm;refine⟨l.enc++.str s::p.enc,rfl,by exact(Lis.has hl).append (show HasKs (.str::paKs) (.str s::p.enc)from⟨trivial,Par.has hp⟩),?_⟩;simp only [zz,reduceCtorEq,t81,Lis.enc,List.length_map,Par.enc];intro hcap;refine Jb l.cues (fun _ xs (_:Unit)=>xs.findSome? (mvd s p)) (fun i _=>[.int .i64 i]) () (Z2l l s p) rfl 0 (fun _ _=>rfl) rfl ?_ ?_
 · intro i hi _ hgo;simp only [zz,reduceCtorEq,List.length_map,hi,J0 hi,Cue.enc];refine⟨by omega,fun hc2=>?_⟩;refine Jb l.cues[i].moves (fun _ xs (_:Unit)=>if l.cues[i].num=s then(Zb xs p).map Mov.va else none) (fun i _=>[.int .i64 i]) () (mvd s p l.cues[i]) rfl 0 (fun _ _=>rfl) rfl ?_ ?_
   · intro j hj _ hgo2;simp only [zz,reduceCtorEq,List.length_map,hi,J0 hi,Cue.enc,hj,J0 hj,Mov.enc];refine⟨by omega,fun⟨h1,h2,h3⟩=>?_,fun h=>⟨(),by rw [Z1] <;> omega,?_⟩⟩
     · have h1':l.cues[i].num=s:=by simpa using h1
       have h4:decide (l.cues[i].moves[j].pa=p)=true:=by
         rw [decide_eq_true_eq];exact Zf7 h2 h3
       rw [if_pos h1']at hgo2;rw [show Zb (l.cues[i].moves[j]::l.cues[i].moves.drop (j+1)) p=some l.cues[i].moves[j]from List.find?_cons_of_pos (p:=fun m:Mov=>decide (m.pa=p)) h4]at hgo2;simp only [Option.map_some]at hgo2;rw [List.findSome?_cons, ←hgo2]at hgo;simp only at hgo;rw [←hgo]at hK;exact hK
     · rw [←hgo2];rcases Decidable.em (l.cues[i].num=s)with h1|h1
       · rw [if_pos h1,if_pos h1];have h4:¬decide (l.cues[i].moves[j].pa=p)=true:=by
           rw [decide_eq_true_eq];intro h5;rw [h1,h5]at h;simp at h
         rw [show Zb (l.cues[i].moves[j]::l.cues[i].moves.drop (j+1)) p=Zb (l.cues[i].moves.drop (j+1)) p from List.find?_cons_of_neg (p:=fun m:Mov=>decide (m.pa=p)) h4]
       · rw [if_neg h1,if_neg h1]
   · intro _ hgo2;simp only [zz,reduceCtorEq,List.length_map,hi,J0 hi,Cue.enc,Nat.lt_irrefl];have hw:wr64 ((i:Int)+1)=((i+1:Nat):Int):=by rw [Z1] <;> omega
     refine⟨rfl,(),by rw [hw],?_⟩;simp only [Zb,List.find?_nil,Option.map_none,ite_self]at hgo2;rw [List.findSome?_cons, ←hgo2]at hgo;exact hgo
 · intro _ hgo;simp only [List.findSome?_nil]at hgo;simp only [zz,reduceCtorEq,List.length_map,Nat.lt_irrefl];rw [←hgo]at hK;exact hK
def i64B (v:Int):Bool:=decide (-9223372036854775808≤v)&&decide (v≤9223372036854775807)
theorem J7 {v:Int} (h:i64B v=true):I64 v:=by
 simp only [i64B,Bool.and_eq_true,decide_eq_true_eq]at h;exact h
def movB (m:Mov):Bool:=i64B m.pa.ch&&i64B m.pa.at_&&i64B m.va.pal&&i64B m.va.lev&&i64B m.part
def timB (t:Tim):Bool:=i64B t.up&&i64B t.down&&i64B t.pos&&i64B t.col&&i64B t.beam&&i64B t.delay
def cueB (c:Cue):Bool:=c.moves.all movB&&c.parts.all timB&&i64B c.follow&&i64B c.loops
def lisB (l:Lis):Bool:=i64B l.num&&i64B l.prio&&l.cues.all cueB
theorem Zz {l:Lis} (h:lisB l=true):l.Ok:=by
 simp only [lisB,Bool.and_eq_true,List.all_eq_true]at h;refine⟨J7 h.1.1,J7 h.1.2,fun c hc=>?_⟩;have h2:=h.2 c hc;simp only [cueB,Bool.and_eq_true,List.all_eq_true]at h2;refine⟨fun m hm=>?_,fun t ht=>?_,J7 h2.1.2,J7 h2.2⟩
 · have h3:=h2.1.1.1 m hm;simp only [movB,Bool.and_eq_true]at h3;exact⟨⟨J7 h3.1.1.1.1,J7 h3.1.1.1.2⟩,⟨J7 h3.1.1.2,J7 h3.1.2⟩,J7 h3.2⟩
 · have h3:=h2.1.1.2 t ht;simp only [timB,Bool.and_eq_true]at h3;exact⟨J7 h3.1.1.1.1.1,J7 h3.1.1.1.1.2,J7 h3.1.1.1.2,J7 h3.1.1.2,J7 h3.1.2,J7 h3.2⟩
def ra:Lis×Int:=Z3g four [49,46,53] [⟨⟨1,1⟩,⟨0,8⟩⟩] 1 true
def rb:Lis×Int:=WM four [50] [⟨⟨1,1⟩,⟨0,5⟩⟩]
def rc19:Lis×Int:=Z3M four [49] true
def rd:Lis×Int:=Z76 four [52]
def ru:Lis×Int:=Z0W four [51]
theorem Zak:lisB ra.1=true:=by kernel_rfl
theorem Zai:lisB rb.1=true:=by kernel_rfl
theorem Zag:lisB rc19.1=true:=by kernel_rfl
theorem Zae:lisB rd.1=true:=by kernel_rfl
theorem ZgU:lisB ru.1=true:=by kernel_rfl
theorem Zh1:ra.2=0:=by kernel_rfl
theorem ZgZ:rb.2=0:=by kernel_rfl
theorem ZgY:rc19.2=0:=by kernel_rfl
theorem ZgW:rd.2=0:=by kernel_rfl
theorem ZgV:ru.2=0:=by kernel_rfl
theorem Zh0:ra.1.cues.length=5:=by kernel_rfl
theorem ZgX:rc19.1.cues.length=3:=by kernel_rfl
theorem Zaj:Z2l ra.1 [50] ⟨1,1⟩=some ⟨0,7⟩:=by kernel_rfl
theorem Zah:Z2l rb.1 [49] ⟨1,1⟩=some ⟨0,5⟩:=by kernel_rfl
theorem Zaf:Z2l rc19.1 [50] ⟨1,1⟩=some ⟨0,7⟩:=by kernel_rfl
theorem Zad:Z2l rd.1 [52] ⟨1,1⟩=some ⟨0,9⟩:=by kernel_rfl
theorem ZgT:Z2l ru.1 [51] ⟨1,0⟩=some ⟨-1,0⟩:=by kernel_rfl
noncomputable def t23:R:=let x0:List K:=J9;let x1:List K:=[.int .i64,.int .i64];let x2:T:=Vl (Va 1) (Vl (Va 2) .lnil);let x3:List K:=enKs;let x4:T:=.o2 .eq (.o2 (.add .i64) (.o2 (.add .i64) (.o2 (.add .i64) (.o2 (.add .i64) (Va 3) (Va 14)) (Va 28)) (Va 32)) (Va 36)) (Vn 0);let x5:List K:=[.bool,.int .i64,.int .i64,.int .i64,.int .i64,.bool,.int .i64,.int .i64];let x6:T:=Vl (Va 12) (Vl (Va 13) .lnil);let x7:T:=Vl (Va 23) (Vl (Va 24) .lnil);let x8:T:=Vl (Va 26) (Vl (Va 27) .lnil);let x9:T:=Vl (Va 30) (Vl (Va 31) .lnil);let x10:T:=Vl (Va 16) .lnil;let x11:T:=Vl (Va 39) .lnil;let x12:T:=Vl (Va 47) .lnil;let x13:T:=Vl (Va 55) .lnil;let x14:T:=Vl (Va 63) .lnil;let x15:T:=.o2 .eq (.o1 .len (Va 13)) (Vn 5);let x16:T:=Vl (Va 5) .lnil;.call none (.fn 78) [] [.agg [.int .i64,.int .i64,.slice x0]] (.join 0 [.int .i64,.int .i64,.int .i64,.slice x3,.int .i64,.int .i64,.slice x0,.int .i64,.int .i64,.int .i64,.slice x0] (.guess (.bool true) (.ite (Va 3) (.call none (.fn 80) [] [.agg x1] (.guess (.bool true) (.ite (Va 6) (.call none (.fn 79) [Vl (Va 4) x16,Vn 8] [.cell (.slice x3)] (.guess (.bool true) (.ite (Va 8) (.call none (.fn 16) [Vl (Va 0) x2,.str [49,46,53],Va 7,Vn 1,.bool true] [.agg [.int .i64,.int .i64,.slice x0],.cell (.int .i64)] (.again 0 [Va 12,Va 4,Va 5,Va 7,Va 9,Va 10,Va 11,Va 12,Va 9,Va 10,Va 11])) (.call none (.fn 16) [Vl (Va 0) x2,.str [49,46,53],Va 7,Vn 1,.bool true] [.agg [.int .i64,.int .i64,.slice x0],.cell (.int .i64)] (.again 0 [Va 12,Va 4,Va 5,Va 7,Va 9,Va 10,Va 11,Va 12,Va 9,Va 10,Va 11]))))) (.call none (.fn 79) [Vl (Va 4) x16,Vn 8] [.cell (.slice x3)] (.call none (.fn 16) [Vl (Va 0) x2,.str [49,46,53],Va 7,Vn 1,.bool true] [.agg [.int .i64,.int .i64,.slice x0],.cell (.int .i64)] (.again 0 [Va 11,Va 4,Va 5,Va 7,Va 8,Va 9,Va 10,Va 11,Va 8,Va 9,Va 10])))))) (.call none (.fn 80) [] [.agg x1] (.call none (.fn 79) [Vl (Va 4) x16,Vn 8] [.cell (.slice x3)] (.call none (.fn 16) [Vl (Va 0) x2,.str [49,46,53],Va 6,Vn 1,.bool true] [.agg [.int .i64,.int .i64,.slice x0],.cell (.int .i64)] (.again 0 [Va 10,Va 4,Va 5,Va 6,Va 7,Va 8,Va 9,Va 10,Va 7,Va 8,Va 9])))))) (.join 0 [.int .i64,.int .i64,.int .i64,.slice x3,.int .i64,.int .i64,.slice x0,.int .i64,.int .i64,.int .i64,.slice x0] (.guess (.bool true) (.ite (Va 14) (.call none (.fn 80) [] [.agg x1] (.guess (.bool true) (.ite (Va 17) (.call none (.fn 79) [Vl (Va 15) x10,Vn 5] [.cell (.slice x3)] (.guess (.bool true) (.ite (Va 19) (.call none (.fn 28) [Vl (Va 0) x2,.str [50],Va 18] [.agg [.int .i64,.int .i64,.slice x0],.cell (.int .i64)] (.again 0 [Va 23,Va 15,Va 16,Va 18,Va 20,Va 21,Va 22,Va 23,Va 20,Va 21,Va 22])) (.call none (.fn 28) [Vl (Va 0) x2,.str [50],Va 18] [.agg [.int .i64,.int .i64,.slice x0],.cell (.int .i64)] (.again 0 [Va 23,Va 15,Va 16,Va 18,Va 20,Va 21,Va 22,Va 23,Va 20,Va 21,Va 22]))))) (.call none (.fn 79) [Vl (Va 15) x10,Vn 5] [.cell (.slice x3)] (.call none (.fn 28) [Vl (Va 0) x2,.str [50],Va 18] [.agg [.int .i64,.int .i64,.slice x0],.cell (.int .i64)] (.again 0 [Va 22,Va 15,Va 16,Va 18,Va 19,Va 20,Va 21,Va 22,Va 19,Va 20,Va 21])))))) (.call none (.fn 80) [] [.agg x1] (.call none (.fn 79) [Vl (Va 15) x10,Vn 5] [.cell (.slice x3)] (.call none (.fn 28) [Vl (Va 0) x2,.str [50],Va 17] [.agg [.int .i64,.int .i64,.slice x0],.cell (.int .i64)] (.again 0 [Va 21,Va 15,Va 16,Va 17,Va 18,Va 19,Va 20,Va 21,Va 18,Va 19,Va 20])))))) (.call none (.fn 17) [Vl (Va 0) x2,.str [49],.bool true] [.agg [.int .i64,.int .i64,.slice x0],.cell (.int .i64)] (.call none (.fn 39) [Vl (Va 0) x2,.str [52]] [.agg [.int .i64,.int .i64,.slice x0],.cell (.int .i64)] (.call none (.fn 40) [Vl (Va 0) x2,.str [51]] [.agg [.int .i64,.int .i64,.slice x0],.cell (.int .i64)] (.join 0 x5 (.guess (.bool true) (.ite (Va 37) (.call none (.fn 80) [] [.agg x1] (.guess (.bool true) (.ite (Va 40) (.call none (.fn 81) [Vl (Va 11) x6,.str [50],Vl (Va 38) x11] [.agg x1,.cell .bool] (.again 0 [Va 43,Va 38,Va 39,Va 41,Va 42,Va 43,Va 41,Va 42])) (.call none (.fn 81) [Vl (Va 11) x6,.str [50],Vl (Va 38) x11] [.agg x1,.cell .bool] (.again 0 [Va 43,Va 38,Va 39,Va 41,Va 42,Va 43,Va 41,Va 42]))))) (.call none (.fn 80) [] [.agg x1] (.call none (.fn 81) [Vl (Va 11) x6,.str [50],Vl (Va 38) x11] [.agg x1,.cell .bool] (.again 0 [Va 42,Va 38,Va 39,Va 40,Va 41,Va 42,Va 40,Va 41]))))) (.join 0 x5 (.guess (.bool true) (.ite (Va 45) (.call none (.fn 80) [] [.agg x1] (.guess (.bool true) (.ite (Va 48) (.call none (.fn 81) [Vl (Va 22) x7,.str [49],Vl (Va 46) x12] [.agg x1,.cell .bool] (.again 0 [Va 51,Va 46,Va 47,Va 49,Va 50,Va 51,Va 49,Va 50])) (.call none (.fn 81) [Vl (Va 22) x7,.str [49],Vl (Va 46) x12] [.agg x1,.cell .bool] (.again 0 [Va 51,Va 46,Va 47,Va 49,Va 50,Va 51,Va 49,Va 50]))))) (.call none (.fn 80) [] [.agg x1] (.call none (.fn 81) [Vl (Va 22) x7,.str [49],Vl (Va 46) x12] [.agg x1,.cell .bool] (.again 0 [Va 50,Va 46,Va 47,Va 48,Va 49,Va 50,Va 48,Va 49]))))) (.join 0 x5 (.guess (.bool true) (.ite (Va 53) (.call none (.fn 80) [] [.agg x1] (.guess (.bool true) (.ite (Va 56) (.call none (.fn 81) [Vl (Va 25) x8,.str [50],Vl (Va 54) x13] [.agg x1,.cell .bool] (.again 0 [Va 59,Va 54,Va 55,Va 57,Va 58,Va 59,Va 57,Va 58])) (.call none (.fn 81) [Vl (Va 25) x8,.str [50],Vl (Va 54) x13] [.agg x1,.cell .bool] (.again 0 [Va 59,Va 54,Va 55,Va 57,Va 58,Va 59,Va 57,Va 58]))))) (.call none (.fn 80) [] [.agg x1] (.call none (.fn 81) [Vl (Va 25) x8,.str [50],Vl (Va 54) x13] [.agg x1,.cell .bool] (.again 0 [Va 58,Va 54,Va 55,Va 56,Va 57,Va 58,Va 56,Va 57]))))) (.join 0 x5 (.guess (.bool true) (.ite (Va 61) (.call none (.fn 80) [] [.agg x1] (.guess (.bool true) (.ite (Va 64) (.call none (.fn 81) [Vl (Va 29) x9,.str [52],Vl (Va 62) x14] [.agg x1,.cell .bool] (.again 0 [Va 67,Va 62,Va 63,Va 65,Va 66,Va 67,Va 65,Va 66])) (.call none (.fn 81) [Vl (Va 29) x9,.str [52],Vl (Va 62) x14] [.agg x1,.cell .bool] (.again 0 [Va 67,Va 62,Va 63,Va 65,Va 66,Va 67,Va 65,Va 66]))))) (.call none (.fn 80) [] [.agg x1] (.call none (.fn 81) [Vl (Va 29) x9,.str [52],Vl (Va 62) x14] [.agg x1,.cell .bool] (.again 0 [Va 66,Va 62,Va 63,Va 64,Va 65,Va 66,Va 64,Va 65]))))) (.call none (.fn 81) [Vl (Va 33) (Vl (Va 34) (Vl (Va 35) .lnil)),.str [51],Vl (Vn 1) (Vl (Vn 0) .lnil)] [.agg x1,.cell .bool] (.fact (.ite x4 (.o2 .le (.o1 .len (Va 13)) (Vn 140737488355328)) (.bool true)) (.fact (.ite (.ite x4 x15 (.bool false)) (.o2 .le (.o1 .len (Va 27)) (Vn 140737488355328)) (.bool true)) (.ret [.d (.ite (.ite (.ite (.ite (.ite (.ite (.ite (.ite (.ite (.ite (.ite (.ite x4 x15 (.bool false)) (.o2 .eq (.o1 .len (Va 27)) (Vn 3)) (.bool false)) (Va 37) (.bool false)) (Va 45) (.bool false)) (Va 53) (.bool false)) (Va 61) (.bool false)) (Va 71) (.bool false)) (.o2 .eq (Va 44) (Vn 7)) (.bool false)) (.o2 .eq (Va 52) (Vn 5)) (.bool false)) (.o2 .eq (Va 60) (Vn 7)) (.bool false)) (.o2 .eq (Va 68) (Vn 9)) (.bool false)) (.o2 .eq (Va 69) (Vn (-1))) (.bool false))])))))))))))))
theorem ZgI:fnO Tryz.prog mdJ 23 []=t23:=by kernel_rfl
theorem i1:I64 1:=⟨by decide,by decide⟩
theorem i8:I64 8:=⟨by decide,by decide⟩
theorem i5:I64 5:=⟨by decide,by decide⟩
theorem i0:I64 0:=⟨by decide,by decide⟩
theorem ZcD:∀e∈[(⟨⟨1,1⟩,⟨0,8⟩⟩:Ent)],e.Ok:=by intro e he;simp at he;subst he;exact⟨⟨i1,i1⟩,i0,i8⟩
theorem ZcE:∀e∈[(⟨⟨1,1⟩,⟨0,5⟩⟩:Ent)],e.Ok:=by intro e he;simp at he;subst he;exact⟨⟨i1,i1⟩,i0,i5⟩
theorem ZbZ:Z3g four [49,46,53] [⟨⟨1,1⟩,⟨0,8⟩⟩] 1 true=ra:=rfl
theorem ZbY:WM four [50] [⟨⟨1,1⟩,⟨0,5⟩⟩]=rb:=rfl
theorem rc_eq:Z3M four [49] true=rc19:=rfl
theorem rd_eq:Z76 four [52]=rd:=rfl
theorem ru_eq:Z0W four [51]=ru:=rfl
def invE (r:Lis×Int) (v:Int):Option Nat→List D→Prop:=fun c xs=>c=none∧xs=[.int .i64 r.2,.int .i64 1,.int .i64 1,.slice ([(⟨⟨1,1⟩,⟨0,v⟩⟩:Ent)].map Ent.enc),.int .i64 r.1.num,.int .i64 r.1.prio,.slice (r.1.cues.map Cue.enc),.int .i64 r.2,.int .i64 r.1.num,.int .i64 r.1.prio,.slice (r.1.cues.map Cue.enc)]
def invM (v:Int):Option Nat→List D→Prop:=fun c xs=>c=none∧xs=[.bool true,.int .i64 1,.int .i64 1,.int .i64 0,.int .i64 v,.bool true,.int .i64 0,.int .i64 v]
set_option maxHeartbeats 4000000 in
theorem Z56:Contract Tryz.prog 23 fun args K=>args=[]∧K [.d (.bool true)]:=by
 refine .of (by kernel_rfl) ZgI ?_;rintro _ K ⟨rfl,hK⟩ hsm;refine⟨[],rfl,by trivial,?_⟩;refine Z0 Zfs ⟨rfl,_,rfl,?_⟩;refine⟨invE ra 8,?_,?_⟩
 · rw [Yb];rintro b1 -;rcases b1 with _|_
   · refine J3 (by simp only [zz,reduceCtorEq,Lis.enc,Par.enc,Ent.enc,List.map,Val.enc]) ?_;refine Z0 WX ⟨rfl,_,rfl,?_⟩;refine Z0 Z0q ⟨⟨1,1⟩,8,⟨i1,i1⟩,i8,by simp only [zz,reduceCtorEq,Lis.enc,Par.enc,Ent.enc,List.map],_,rfl,?_⟩;refine Z0 Z15 ⟨four,[49,46,53],[⟨⟨1,1⟩,⟨0,8⟩⟩],1,true,YH,ZcD,i1,by simp only [zz,reduceCtorEq,Lis.enc,Par.enc,Ent.enc,List.map],_,rfl,?_⟩;simp only [zz,reduceCtorEq,Lis.enc,Par.enc,Ent.enc,List.map,ZbZ,invE]
     all_goals first|rfl|exact⟨rfl,trivial⟩|exact⟨rfl,rfl⟩
   · refine Y3 (by simp only [zz,reduceCtorEq,Lis.enc,Par.enc,Ent.enc,List.map,Val.enc]) ?_;refine Z0 WX ⟨rfl,_,rfl,?_⟩;rw [Yb];rintro b2 -;rcases b2 with _|_
     · refine J3 (by simp only [zz,reduceCtorEq,Lis.enc,Par.enc,Ent.enc,List.map,Val.enc]) ?_;refine Z0 Z0q ⟨⟨1,1⟩,8,⟨i1,i1⟩,i8,by simp only [zz,reduceCtorEq,Lis.enc,Par.enc,Ent.enc,List.map],_,rfl,?_⟩;refine Z0 Z15 ⟨four,[49,46,53],[⟨⟨1,1⟩,⟨0,8⟩⟩],1,true,YH,ZcD,i1,by simp only [zz,reduceCtorEq,Lis.enc,Par.enc,Ent.enc,List.map],_,rfl,?_⟩;simp only [zz,reduceCtorEq,Lis.enc,Par.enc,Ent.enc,List.map,ZbZ,invE]
       all_goals first|rfl|exact⟨rfl,trivial⟩|exact⟨rfl,rfl⟩
     · refine Y3 (by simp only [zz,reduceCtorEq,Lis.enc,Par.enc,Ent.enc,List.map,Val.enc]) ?_;refine Z0 Z0q ⟨⟨1,1⟩,8,⟨i1,i1⟩,i8,by simp only [zz,reduceCtorEq,Lis.enc,Par.enc,Ent.enc,List.map],_,rfl,?_⟩;rw [Yb];rintro b3 -;rcases b3 with _|_
       · refine J3 (by simp only [zz,reduceCtorEq,Lis.enc,Par.enc,Ent.enc,List.map,Val.enc]) ?_;refine Z0 Z15 ⟨four,[49,46,53],[⟨⟨1,1⟩,⟨0,8⟩⟩],1,true,YH,ZcD,i1,by simp only [zz,reduceCtorEq,Lis.enc,Par.enc,Ent.enc,List.map],_,rfl,?_⟩;simp only [zz,reduceCtorEq,Lis.enc,Par.enc,Ent.enc,List.map,ZbZ,invE]
         all_goals first|rfl|exact⟨rfl,trivial⟩|exact⟨rfl,rfl⟩
       · refine Y3 (by simp only [zz,reduceCtorEq,Lis.enc,Par.enc,Ent.enc,List.map,Val.enc]) ?_;refine Z0 Z15 ⟨four,[49,46,53],[⟨⟨1,1⟩,⟨0,8⟩⟩],1,true,YH,ZcD,i1,by simp only [zz,reduceCtorEq,Lis.enc,Par.enc,Ent.enc,List.map],_,rfl,?_⟩;simp only [zz,reduceCtorEq,Lis.enc,Par.enc,Ent.enc,List.map,ZbZ,invE]
         all_goals first|rfl|exact⟨rfl,trivial⟩|exact⟨rfl,rfl⟩
 · rintro _ _ - ⟨rfl,rfl⟩;refine⟨invE rb 5,?_,?_⟩
   · rw [Yb];rintro b1 -;rcases b1 with _|_
     · refine J3 (by simp only [zz,reduceCtorEq,Lis.enc,Par.enc,Ent.enc,List.map,Val.enc]) ?_;refine Z0 WX ⟨rfl,_,rfl,?_⟩;refine Z0 Z0q ⟨⟨1,1⟩,5,⟨i1,i1⟩,i5,by simp only [zz,reduceCtorEq,Lis.enc,Par.enc,Ent.enc,List.map],_,rfl,?_⟩;refine Z0 JY ⟨four,[50],[⟨⟨1,1⟩,⟨0,5⟩⟩],YH,ZcE,by simp only [zz,reduceCtorEq,Lis.enc,Par.enc,Ent.enc,List.map],_,rfl,?_⟩;simp only [zz,reduceCtorEq,Lis.enc,Par.enc,Ent.enc,List.map,ZbY,invE]
       all_goals first|rfl|exact⟨rfl,trivial⟩|exact⟨rfl,rfl⟩
     · refine Y3 (by simp only [zz,reduceCtorEq,Lis.enc,Par.enc,Ent.enc,List.map,Val.enc]) ?_;refine Z0 WX ⟨rfl,_,rfl,?_⟩;rw [Yb];rintro b2 -;rcases b2 with _|_
       · refine J3 (by simp only [zz,reduceCtorEq,Lis.enc,Par.enc,Ent.enc,List.map,Val.enc]) ?_;refine Z0 Z0q ⟨⟨1,1⟩,5,⟨i1,i1⟩,i5,by simp only [zz,reduceCtorEq,Lis.enc,Par.enc,Ent.enc,List.map],_,rfl,?_⟩;refine Z0 JY ⟨four,[50],[⟨⟨1,1⟩,⟨0,5⟩⟩],YH,ZcE,by simp only [zz,reduceCtorEq,Lis.enc,Par.enc,Ent.enc,List.map],_,rfl,?_⟩;simp only [zz,reduceCtorEq,Lis.enc,Par.enc,Ent.enc,List.map,ZbY,invE]
         all_goals first|rfl|exact⟨rfl,trivial⟩|exact⟨rfl,rfl⟩
       · refine Y3 (by simp only [zz,reduceCtorEq,Lis.enc,Par.enc,Ent.enc,List.map,Val.enc]) ?_;refine Z0 Z0q ⟨⟨1,1⟩,5,⟨i1,i1⟩,i5,by simp only [zz,reduceCtorEq,Lis.enc,Par.enc,Ent.enc,List.map],_,rfl,?_⟩;rw [Yb];rintro b3 -;rcases b3 with _|_
         · refine J3 (by simp only [zz,reduceCtorEq,Lis.enc,Par.enc,Ent.enc,List.map,Val.enc]) ?_;refine Z0 JY ⟨four,[50],[⟨⟨1,1⟩,⟨0,5⟩⟩],YH,ZcE,by simp only [zz,reduceCtorEq,Lis.enc,Par.enc,Ent.enc,List.map],_,rfl,?_⟩;simp only [zz,reduceCtorEq,Lis.enc,Par.enc,Ent.enc,List.map,ZbY,invE]
           all_goals first|rfl|exact⟨rfl,trivial⟩|exact⟨rfl,rfl⟩
         · refine Y3 (by simp only [zz,reduceCtorEq,Lis.enc,Par.enc,Ent.enc,List.map,Val.enc]) ?_;refine Z0 JY ⟨four,[50],[⟨⟨1,1⟩,⟨0,5⟩⟩],YH,ZcE,by simp only [zz,reduceCtorEq,Lis.enc,Par.enc,Ent.enc,List.map],_,rfl,?_⟩;simp only [zz,reduceCtorEq,Lis.enc,Par.enc,Ent.enc,List.map,ZbY,invE]
           all_goals first|rfl|exact⟨rfl,trivial⟩|exact⟨rfl,rfl⟩
   · rintro _ _ - ⟨rfl,rfl⟩;refine Z0 Z9t ⟨four,[49],true,YH,by simp only [zz,reduceCtorEq,Lis.enc],_,rfl,?_⟩;refine Z0 ZcO ⟨four,[52],YH,by simp only [zz,reduceCtorEq,Lis.enc],_,rfl,?_⟩;refine Z0 Z8N ⟨four,[51],YH,by simp only [zz,reduceCtorEq,Lis.enc],_,rfl,?_⟩;rw [rc_eq,rd_eq,ru_eq];refine⟨invM 7,?_,?_⟩
     · rw [Yb];rintro b1 -;rcases b1 with _|_
       · refine J3 (by simp only [zz,reduceCtorEq,Lis.enc,Par.enc,Ent.enc,List.map,Val.enc]) ?_;refine Z0 WX ⟨rfl,_,rfl,?_⟩;refine Z0 Wh ⟨ra.1,[50],⟨1,1⟩,Zz Zak,⟨J7 (by rfl),J7 (by rfl)⟩,by simp only [zz,reduceCtorEq,Lis.enc,Par.enc],_,rfl,?_⟩;simp only [zz,reduceCtorEq,Lis.enc,Par.enc,Ent.enc,List.map,Val.enc,Zaj,Option.getD_some,Option.isSome_some,invM]
         all_goals first|rfl|exact⟨rfl,trivial⟩|exact⟨rfl,rfl⟩
       · refine Y3 (by simp only [zz,reduceCtorEq,Lis.enc,Par.enc,Ent.enc,List.map,Val.enc]) ?_;refine Z0 WX ⟨rfl,_,rfl,?_⟩;rw [Yb];rintro b2 -;rcases b2 with _|_
         · refine J3 (by simp only [zz,reduceCtorEq,Lis.enc,Par.enc,Ent.enc,List.map,Val.enc]) ?_;refine Z0 Wh ⟨ra.1,[50],⟨1,1⟩,Zz Zak,⟨J7 (by rfl),J7 (by rfl)⟩,by simp only [zz,reduceCtorEq,Lis.enc,Par.enc],_,rfl,?_⟩;simp only [zz,reduceCtorEq,Lis.enc,Par.enc,Ent.enc,List.map,Val.enc,Zaj,Option.getD_some,Option.isSome_some,invM]
           all_goals first|rfl|exact⟨rfl,trivial⟩|exact⟨rfl,rfl⟩
         · refine Y3 (by simp only [zz,reduceCtorEq,Lis.enc,Par.enc,Ent.enc,List.map,Val.enc]) ?_;refine Z0 Wh ⟨ra.1,[50],⟨1,1⟩,Zz Zak,⟨J7 (by rfl),J7 (by rfl)⟩,by simp only [zz,reduceCtorEq,Lis.enc,Par.enc],_,rfl,?_⟩;simp only [zz,reduceCtorEq,Lis.enc,Par.enc,Ent.enc,List.map,Val.enc,Zaj,Option.getD_some,Option.isSome_some,invM]
           all_goals first|rfl|exact⟨rfl,trivial⟩|exact⟨rfl,rfl⟩
     · rintro _ _ - ⟨rfl,rfl⟩;refine⟨invM 5,?_,?_⟩
       · rw [Yb];rintro b1 -;rcases b1 with _|_
         · refine J3 (by simp only [zz,reduceCtorEq,Lis.enc,Par.enc,Ent.enc,List.map,Val.enc]) ?_;refine Z0 WX ⟨rfl,_,rfl,?_⟩;refine Z0 Wh ⟨rb.1,[49],⟨1,1⟩,Zz Zai,⟨J7 (by rfl),J7 (by rfl)⟩,by simp only [zz,reduceCtorEq,Lis.enc,Par.enc],_,rfl,?_⟩;simp only [zz,reduceCtorEq,Lis.enc,Par.enc,Ent.enc,List.map,Val.enc,Zah,Option.getD_some,Option.isSome_some,invM]
           all_goals first|rfl|exact⟨rfl,trivial⟩|exact⟨rfl,rfl⟩
         · refine Y3 (by simp only [zz,reduceCtorEq,Lis.enc,Par.enc,Ent.enc,List.map,Val.enc]) ?_;refine Z0 WX ⟨rfl,_,rfl,?_⟩;rw [Yb];rintro b2 -;rcases b2 with _|_
           · refine J3 (by simp only [zz,reduceCtorEq,Lis.enc,Par.enc,Ent.enc,List.map,Val.enc]) ?_;refine Z0 Wh ⟨rb.1,[49],⟨1,1⟩,Zz Zai,⟨J7 (by rfl),J7 (by rfl)⟩,by simp only [zz,reduceCtorEq,Lis.enc,Par.enc],_,rfl,?_⟩;simp only [zz,reduceCtorEq,Lis.enc,Par.enc,Ent.enc,List.map,Val.enc,Zah,Option.getD_some,Option.isSome_some,invM]
             all_goals first|rfl|exact⟨rfl,trivial⟩|exact⟨rfl,rfl⟩
           · refine Y3 (by simp only [zz,reduceCtorEq,Lis.enc,Par.enc,Ent.enc,List.map,Val.enc]) ?_;refine Z0 Wh ⟨rb.1,[49],⟨1,1⟩,Zz Zai,⟨J7 (by rfl),J7 (by rfl)⟩,by simp only [zz,reduceCtorEq,Lis.enc,Par.enc],_,rfl,?_⟩;simp only [zz,reduceCtorEq,Lis.enc,Par.enc,Ent.enc,List.map,Val.enc,Zah,Option.getD_some,Option.isSome_some,invM]
             all_goals first|rfl|exact⟨rfl,trivial⟩|exact⟨rfl,rfl⟩
       · rintro _ _ - ⟨rfl,rfl⟩;refine⟨invM 7,?_,?_⟩
         · rw [Yb];rintro b1 -;rcases b1 with _|_
           · refine J3 (by simp only [zz,reduceCtorEq,Lis.enc,Par.enc,Ent.enc,List.map,Val.enc]) ?_;refine Z0 WX ⟨rfl,_,rfl,?_⟩;refine Z0 Wh ⟨rc19.1,[50],⟨1,1⟩,Zz Zag,⟨J7 (by rfl),J7 (by rfl)⟩,by simp only [zz,reduceCtorEq,Lis.enc,Par.enc],_,rfl,?_⟩;simp only [zz,reduceCtorEq,Lis.enc,Par.enc,Ent.enc,List.map,Val.enc,Zaf,Option.getD_some,Option.isSome_some,invM]
             all_goals first|rfl|exact⟨rfl,trivial⟩|exact⟨rfl,rfl⟩
           · refine Y3 (by simp only [zz,reduceCtorEq,Lis.enc,Par.enc,Ent.enc,List.map,Val.enc]) ?_;refine Z0 WX ⟨rfl,_,rfl,?_⟩;rw [Yb];rintro b2 -;rcases b2 with _|_
             · refine J3 (by simp only [zz,reduceCtorEq,Lis.enc,Par.enc,Ent.enc,List.map,Val.enc]) ?_;refine Z0 Wh ⟨rc19.1,[50],⟨1,1⟩,Zz Zag,⟨J7 (by rfl),J7 (by rfl)⟩,by simp only [zz,reduceCtorEq,Lis.enc,Par.enc],_,rfl,?_⟩;simp only [zz,reduceCtorEq,Lis.enc,Par.enc,Ent.enc,List.map,Val.enc,Zaf,Option.getD_some,Option.isSome_some,invM]
               all_goals first|rfl|exact⟨rfl,trivial⟩|exact⟨rfl,rfl⟩
             · refine Y3 (by simp only [zz,reduceCtorEq,Lis.enc,Par.enc,Ent.enc,List.map,Val.enc]) ?_;refine Z0 Wh ⟨rc19.1,[50],⟨1,1⟩,Zz Zag,⟨J7 (by rfl),J7 (by rfl)⟩,by simp only [zz,reduceCtorEq,Lis.enc,Par.enc],_,rfl,?_⟩;simp only [zz,reduceCtorEq,Lis.enc,Par.enc,Ent.enc,List.map,Val.enc,Zaf,Option.getD_some,Option.isSome_some,invM]
               all_goals first|rfl|exact⟨rfl,trivial⟩|exact⟨rfl,rfl⟩
         · rintro _ _ - ⟨rfl,rfl⟩;refine⟨invM 9,?_,?_⟩
           · rw [Yb];rintro b1 -;rcases b1 with _|_
             · refine J3 (by simp only [zz,reduceCtorEq,Lis.enc,Par.enc,Ent.enc,List.map,Val.enc]) ?_;refine Z0 WX ⟨rfl,_,rfl,?_⟩;refine Z0 Wh ⟨rd.1,[52],⟨1,1⟩,Zz Zae,⟨J7 (by rfl),J7 (by rfl)⟩,by simp only [zz,reduceCtorEq,Lis.enc,Par.enc],_,rfl,?_⟩;simp only [zz,reduceCtorEq,Lis.enc,Par.enc,Ent.enc,List.map,Val.enc,Zad,Option.getD_some,Option.isSome_some,invM]
               all_goals first|rfl|exact⟨rfl,trivial⟩|exact⟨rfl,rfl⟩
             · refine Y3 (by simp only [zz,reduceCtorEq,Lis.enc,Par.enc,Ent.enc,List.map,Val.enc]) ?_;refine Z0 WX ⟨rfl,_,rfl,?_⟩;rw [Yb];rintro b2 -;rcases b2 with _|_
               · refine J3 (by simp only [zz,reduceCtorEq,Lis.enc,Par.enc,Ent.enc,List.map,Val.enc]) ?_;refine Z0 Wh ⟨rd.1,[52],⟨1,1⟩,Zz Zae,⟨J7 (by rfl),J7 (by rfl)⟩,by simp only [zz,reduceCtorEq,Lis.enc,Par.enc],_,rfl,?_⟩;simp only [zz,reduceCtorEq,Lis.enc,Par.enc,Ent.enc,List.map,Val.enc,Zad,Option.getD_some,Option.isSome_some,invM]
                 all_goals first|rfl|exact⟨rfl,trivial⟩|exact⟨rfl,rfl⟩
               · refine Y3 (by simp only [zz,reduceCtorEq,Lis.enc,Par.enc,Ent.enc,List.map,Val.enc]) ?_;refine Z0 Wh ⟨rd.1,[52],⟨1,1⟩,Zz Zae,⟨J7 (by rfl),J7 (by rfl)⟩,by simp only [zz,reduceCtorEq,Lis.enc,Par.enc],_,rfl,?_⟩;simp only [zz,reduceCtorEq,Lis.enc,Par.enc,Ent.enc,List.map,Val.enc,Zad,Option.getD_some,Option.isSome_some,invM]
                 all_goals first|rfl|exact⟨rfl,trivial⟩|exact⟨rfl,rfl⟩
           · rintro _ _ - ⟨rfl,rfl⟩;refine Z0 Wh ⟨ru.1,[51],⟨1,0⟩,Zz ZgU,⟨J7 (by rfl),J7 (by rfl)⟩,by simp only [zz,reduceCtorEq,Lis.enc,Par.enc],_,rfl,?_⟩;simp only [zz,reduceCtorEq,Val.enc,Lis.enc,ZgT,Option.getD_some,Option.isSome_some,Zh1,ZgZ,ZgY,ZgW,ZgV,List.length_map,Zh0,ZgX];intro _ _;simpa [show wr64 0=0 from Z1 ⟨by decide,by decide⟩]using hK
noncomputable def t4:R:=let x0:List K:=liKs;let x1:T:=Vl (Va 1) (Vl (Va 2) .lnil);let x2:T:=.o2 .eq (Va 11) (Va 15);.call none (.fn 22) [Vl (Va 0) x1,Va 4] [.cell .bool] (.ite (.o1 .not (Va 7)) (.call none (.fn 23) [] [.cell .bool] (.ret [.d (Va 8)])) (.call none (.fn 16) [Vl (Va 0) x1,Va 3,Va 4,Va 5,Va 6] [.agg x0,.cell (.int .i64)] (.call none (.fn 24) [Vl (Va 0) x1,Va 3,Va 4,Va 5,Va 6] [.agg x0,.cell (.int .i64)] (.call none (.fn 25) [Vl (Va 8) (Vl (Va 9) (Vl (Va 10) .lnil)),Vl (Va 12) (Vl (Va 13) (Vl (Va 14) .lnil))] [.cell .bool] (.call (some (.ite (Va 16) x2 (.bool false))) (.fn 23) [] [.cell .bool] (.ret [.d (.ite (.ite (Va 16) x2 (.bool false)) (Va 17) (.bool false))]))))))
theorem c4:J2 Tryz.prog 4=true:=by kernel_rfl
theorem Ent.of {ds:List D} (h:HasKs enKs ds):∃m:Ent,m.Ok∧ds=m.enc:=by
 match ds,h with
 | [a,b,c,d],h=>
   simp only [enKs,HasKs,and_true]at h;obtain⟨a,rfl,ha⟩:=Jt h.1;obtain⟨b,rfl,hb⟩:=Jt h.2.1;obtain⟨c,rfl,hc⟩:=Jt h.2.2.1;obtain⟨d,rfl,hd⟩:=Jt h.2.2.2;exact⟨⟨⟨a,b⟩,⟨c,d⟩⟩,⟨⟨ha,hb⟩,hc,hd⟩,rfl⟩
def ntKs:List Go.Sx.K:=[.str,.slice enKs,.int .i64,.bool]
structure Note where
 s:List UInt8
 es:List Ent
 part:Int
 only:Bool
def Note.enc (n:Note):List D:=[.str n.s,.slice (n.es.map Ent.enc),.int .i64 n.part,.bool n.only]
structure Note.Ok (n:Note):Prop where
 es:∀e∈n.es,e.Ok
 part:I64 n.part
theorem Note.has {n:Note} (h:n.Ok):HasKs ntKs n.enc:=⟨trivial,Jp h.es,Y2 h.part,trivial,trivial⟩
theorem Note.ofAgg {d:D} (h:HasK (.agg ntKs) d):∃n:Note,n.Ok∧d=.agg n.enc:=by
 cases d <;> simp only [HasK]at h
 rename_i cs
 match cs,h with
 | [a,b,c,e],h=>
   simp only [ntKs,HasKs,and_true]at h;obtain⟨s,rfl⟩:=Z89 h.1;obtain⟨es,hes,rfl⟩:=Z2K (enc:=Ent.enc) (Ok:=Ent.Ok) (fun ds h=>Ent.of h) h.2.1;obtain⟨x,rfl,hx⟩:=Jt h.2.2.1;obtain⟨o,rfl⟩:=Z7W h.2.2.2;exact⟨⟨s,es,x,o⟩,⟨hes,hx⟩,rfl⟩
def mdI:Go.Sx.Mode:= {mdA with ins:=[95],dep:=1}
noncomputable def t96:R:=.ret [.d (.ite (.o2 .ge (Va 0) (Vn 0)) (.o2 .le (Va 0) (Vn 10000000)) (.bool false))]
theorem ZfN:fnO Tryz.prog mdA 96 [.cell (.int .i64)]=t96:=by kernel_rfl
noncomputable def t36:R:=let x0:List K:=tmKs;let x1:T:=Vl (Va 5) (Vl (Va 6) (Vl (Va 7) (Vl (Va 8) (Vl (Va 9) (Vl (Va 10) .lnil)))));let x2:T:=Vl (Vn 0) (Vl (Vn 0) (Vl .nils .lnil));let x3:List K:=mvKs;let x4:T:=.o2 .lt (Va 4) (Vn 1);let x5:T:=.o2 (.sub .i64) (Va 4) (Vn 1);let x6:T:=.o1 .len (.idx (Va 13) (Va 14) 3 (.slice x0));let x7:T:=.o2 .lt (Va 14) (.o1 .len (Va 13));let x8:T:=.o2 .le (Vn 0) (Va 14);let x9:T:=.sel x1 (Va 16) (.int .i64);.call none (.fn 65) [Vl (Va 0) (Vl (Va 1) (Vl (Va 2) .lnil)),Va 3] [.agg [.int .i64,.int .i64,.slice [.str,.str,.slice x3,.slice x0,.bool,.bool,.int .i64,.str,.int .i64]],.cell (.int .i64),.cell (.int .i64)] (.ite (.o2 .ne (Va 15) (Vn 0)) (.ret [.d x2,.d (Va 15)]) (.need (.ite (.o1 .not x4) x8 (.bool true)) (.need (.ite (.o1 .not x4) x7 (.bool true)) (.fact (.ite (.o1 .not x4) (.o2 .le x6 (Vn 140737488355328)) (.bool true)) (.ite (.ite x4 (.bool true) (.o2 .gt (Va 4) x6)) (.ret [.d x2,.d (Vn 6)]) (.loop 0 [Vn 0] [.int .i64] (.ite (.o2 .lt (Va 16) (Vn 6)) (.need (.o2 .le (Vn 0) (Va 16)) (.ite (.ite (.o2 .lt x9 (Vn 0)) (.bool true) (.o2 .gt x9 (Vn 10000000))) (.ret [.d x2,.d (Vn 2)]) (.again 0 [.o2 (.add .i64) (Va 16) (Vn 1)]))) (.need x8 (.need x7 (.call none (.fn 94) [.idx (Va 13) (Va 14) 3 (.slice x0)] [.own x0] (.need (.o2 .le (Vn 0) x5) (.need (.o2 .lt x5 (.o1 .len (Va 17))) (.call none (.fn 90) [Vl (Va 11) (Vl (Va 12) (Vl (Va 13) .lnil)),Va 14,Vl (.idx (Va 13) (Va 14) 0 .str) (Vl (.idx (Va 13) (Va 14) 1 .str) (Vl (.idx (Va 13) (Va 14) 2 (.slice x3)) (Vl (.upd (Va 17) x5 0 x1) (Vl (.idx (Va 13) (Va 14) 4 .bool) (Vl (.idx (Va 13) (Va 14) 5 .bool) (Vl (.idx (Va 13) (Va 14) 6 (.int .i64)) (Vl (.idx (Va 13) (Va 14) 7 .str) (Vl (.idx (Va 13) (Va 14) 8 (.int .i64)) .lnil))))))))] [.agg [.int .i64,.int .i64,.slice [.str,.str,.slice x3,.slice x0,.bool,.bool,.int .i64,.str,.int .i64]]] (.ret [.d (Vl (Va 18) (Vl (Va 19) (Vl (Va 20) .lnil))),.d (Vn 0)]))))))))))))))
theorem ZgC:fnO Tryz.prog mdA 36 [.agg liKs,.cell .str,.cell (.int .i64),.agg tmKs]=t36:=by kernel_rfl
noncomputable def t37:R:=let x2:T:=Vl (Vn 0) (Vl (Vn 0) (Vl .nils .lnil));let x4:T:=.o1 .not (Va 14);let x6:T:=.o2 (.sub .i64) (Va 4) (Vn 1);let x7:T:=.o1 .not (Va 15);let x8:T:=Vl (Va 1) (Vl (Va 2) .lnil);let x10:T:=.o2 .lt (Va 4) (Vn 1);let x11:T:=.o1 .not (Va 16);let x12:T:=Vl (Va 20) (Vl (Va 21) (Vl (Va 22) .lnil));let x13:List K:=tmKs;let x14:T:=.o1 .not (.ite (.ite x4 (.bool true) x7) (.bool true) x11);let x15:T:=.o1 .not (Va 17);let x17:List K:=mvKs;let x19:T:=.o1 .not (Va 18);let x20:T:=.o1 .not (.ite x4 (.bool true) x7);let x22:T:=.idx (Va 2) (Va 12) 0 .str;let x0:T:=.o2 .app .nils (.idx (Va 2) (Va 12) 3 (.slice x13));let x1:T:=Vl (.idx (Va 2) (Va 12) 1 .str) (Vl (.idx (Va 2) (Va 12) 2 (.slice x17)) (Vl (.upd x0 x6 0 (Vl (Va 5) (Vl (Va 6) (Vl (Va 7) (Vl (Va 8) (Vl (Va 9) (Vl (Va 10) .lnil))))))) (Vl (.idx (Va 2) (Va 12) 4 .bool) (Vl (.idx (Va 2) (Va 12) 5 .bool) (Vl (.idx (Va 2) (Va 12) 6 (.int .i64)) (Vl (.idx (Va 2) (Va 12) 7 .str) (Vl (.idx (Va 2) (Va 12) 8 (.int .i64)) .lnil)))))));let x3:List K:=[.int .i64,.int .i64,.slice [.str,.str,.slice x17,.slice x13,.bool,.bool,.int .i64,.str,.int .i64]];let x5:T:=.o1 .not (.ite (.ite (.ite (.ite x4 (.bool true) x7) (.bool true) x11) (.bool true) x15) (.bool true) x19);let x9:T:=.o1 .not (.ite (.ite (.ite x4 (.bool true) x7) (.bool true) x11) (.bool true) x15);let x16:T:=.o2 .le (.o1 .len x0) (Vn 140737488355328);let x18:T:=.o2 .le (.o1 .len x0) (Vn 2932031007402);let x21:T:=.o2 .gt (Va 4) (.o1 .len x0);.call none (.fn 85) [Vl (Va 0) x8,Va 3] [.cell (.int .i64)] (.ite (.o2 .ne (Va 11) (Vn 0)) (.ret [.d x2,.d (Va 11)]) (.call none (.fn 15) [Vl (Va 0) x8,Va 3] [.cell (.int .i64)] (.need (.o2 .le (Vn 0) (Va 12)) (.need (.o2 .lt (Va 12) (.o1 .len (Va 2))) (.guess (.bool true) (.ite (Va 13) (.need x18 (.fact (.ite (.o1 .not x10) x16 (.bool true)) (.ite (.ite x10 (.bool true) x21) (.ret [.d x2,.d (Vn 6)]) (.call none (.fn 96) [Va 5] [.cell .bool] (.call (some (.o1 .not x4)) (.fn 96) [Va 6] [.cell .bool] (.call (some x20) (.fn 96) [Va 7] [.cell .bool] (.call (some x14) (.fn 96) [Va 8] [.cell .bool] (.call (some x9) (.fn 96) [Va 9] [.cell .bool] (.call (some x5) (.fn 96) [Va 10] [.cell .bool] (.ite (.ite (.ite (.ite (.ite (.ite x4 (.bool true) x7) (.bool true) x11) (.bool true) x15) (.bool true) x19) (.bool true) (.o1 .not (Va 19))) (.ret [.d x2,.d (Vn 2)]) (.need (.o2 .le (Vn 0) x6) (.need (.o2 .lt x6 (.o1 .len x0)) (.call none (.fn 97) [Vl (Va 0) x8,Va 12,Vl x22 x1] [.agg x3] (.ret [.d x12,.d (Vn 0)])))))))))))))) (.need x18 (.fact (.ite (.o1 .not x10) x16 (.bool true)) (.ite (.ite x10 (.bool true) x21) (.ret [.d x2,.d (Vn 6)]) (.call none (.fn 96) [Va 5] [.cell .bool] (.call (some (.o1 .not x4)) (.fn 96) [Va 6] [.cell .bool] (.call (some x20) (.fn 96) [Va 7] [.cell .bool] (.call (some x14) (.fn 96) [Va 8] [.cell .bool] (.call (some x9) (.fn 96) [Va 9] [.cell .bool] (.call (some x5) (.fn 96) [Va 10] [.cell .bool] (.ite (.ite (.ite (.ite (.ite (.ite x4 (.bool true) x7) (.bool true) x11) (.bool true) x15) (.bool true) x19) (.bool true) (.o1 .not (Va 19))) (.ret [.d x2,.d (Vn 2)]) (.need (.o2 .le (Vn 0) x6) (.need (.o2 .lt x6 (.o1 .len x0)) (.call none (.fn 97) [Vl (Va 0) x8,Va 12,Vl x22 x1] [.agg x3] (.ret [.d x12,.d (Vn 0)]))))))))))))))))))))
theorem ZgB:fnO Tryz.prog mdI 37 [.agg liKs,.cell .str,.cell (.int .i64),.agg tmKs]=t37:=by kernel_rfl
noncomputable def t93:R:=let x2:T:=Vl (Va 8) (Vl (Va 9) .lnil);let x3:T:=.o2 (.add .i64) (Va 6) (Vn 1);let x4:List K:=tmKs;let x5:T:=Vl (.idx (Va 4) (Va 6) 1 (.int .i64)) .lnil;let x6:List K:=mvKs;let x7:T:=Vl (Va 1) (Vl (Va 2) .lnil);let x8:T:=.idx (Va 4) (Va 6) 0 (.int .i64);let x9:T:=.o1 .len (Va 4);let x0:List K:=[.str,.str,.slice x6,.slice x4,.bool,.bool,.int .i64,.str,.int .i64];let x1:T:=.idx (Va 9) (Va 10) 2 (.slice x6);let x10:T:=.o2 .app .nils x1;.call none (.fn 15) [Vl (Va 0) x7,Va 3] [.cell (.int .i64)] (.loop 0 [Vn 0,Va 0,Va 1,Va 2] [.int .i64,.int .i64,.int .i64,.slice x0] (.fact (.o2 .le x9 (Vn 140737488355328)) (.ite (.o2 .lt (Va 6) x9) (.need (.o2 .le (Vn 0) (Va 6)) (.call none (.fn 169) [Vl (Va 0) x7,Va 5,Vl x8 x5] [.cell (.int .i64)] (.ite (.o2 .lt (Va 10) (Vn 0)) (.need (.o2 .le (Va 6) x3) (.need (.o2 .le x3 x9) (.call none (.fn 152) [Vl (Va 7) x2,Va 5,.sub (Va 4) (Va 6) x3] [.agg [.int .i64,.int .i64,.slice x0]] (.again 0 [.o2 (.add .i64) (Va 6) (Vn 1),Va 11,Va 12,Va 13])))) (.need (.o2 .le (Vn 0) (Va 10)) (.need (.o2 .lt (Va 10) (.o1 .len (Va 9))) (.need (.o2 .le (.o1 .len x10) (Vn 3518437208883)) (.call none (.fn 170) [.o2 .app .nils x1,Vl x8 x5] [.cell (.int .i64)] (.need (.o2 .le (Vn 0) (Va 11)) (.need (.o2 .lt (Va 11) (.o1 .len x10)) (.call none (.fn 95) [Vl (.idx (Va 9) (Va 10) 0 .str) (Vl (.idx (Va 9) (Va 10) 1 .str) (Vl x1 (Vl (.idx (Va 9) (Va 10) 3 (.slice x4)) (Vl (.idx (Va 9) (Va 10) 4 .bool) (Vl (.idx (Va 9) (Va 10) 5 .bool) (Vl (.idx (Va 9) (Va 10) 6 (.int .i64)) (Vl (.idx (Va 9) (Va 10) 7 .str) (Vl (.idx (Va 9) (Va 10) 8 (.int .i64)) .lnil)))))))),.upd x10 (Va 11) 2 (Vl (.idx (Va 4) (Va 6) 2 (.int .i64)) (Vl (.idx (Va 4) (Va 6) 3 (.int .i64)) .lnil))] [.agg x0] (.call none (.fn 97) [Vl (Va 7) x2,Va 10,Vl (Va 12) (Vl (Va 13) (Vl (Va 14) (Vl (Va 15) (Vl (Va 16) (Vl (Va 17) (Vl (Va 18) (Vl (Va 19) (Vl (Va 20) .lnil))))))))] [.agg [.int .i64,.int .i64,.slice x0]] (.again 0 [.o2 (.add .i64) (Va 6) (Vn 1),Va 21,Va 22,Va 23])))))))))))) (.ret [.d (Vl (Va 7) x2)]))))
theorem ZfQ:fnO Tryz.prog mdA 93 [.agg liKs,.cell .str,.cell (.slice enKs)]=t93:=by kernel_rfl
noncomputable def t35:R:=let x0:List K:=liKs;let x1:T:=Vl (Vn 0) (Vl (Vn 0) (Vl .nils .lnil));let x2:T:=Vl (Va 1) (Vl (Va 2) .lnil);.call none (.fn 85) [Vl (Va 0) x2,Va 3] [.cell (.int .i64)] (.ite (.o2 .ne (Va 5) (Vn 0)) (.ret [.d x1,.d (Va 5)]) (.call none (.fn 14) [Va 4] [.cell (.int .i64)] (.ite (.o2 .ne (Va 6) (Vn 0)) (.ret [.d x1,.d (Va 6)]) (.call none (.fn 93) [Vl (Va 0) x2,Va 3,Va 4] [.agg x0] (.call none (.fn 82) [Vl (Va 7) (Vl (Va 8) (Vl (Va 9) .lnil))] [.agg x0,.cell (.int .i64)] (.ret [.d (Vl (Va 10) (Vl (Va 11) (Vl (Va 12) .lnil))),.d (Va 13)]))))))
theorem ZgD:fnO Tryz.prog mdA 35 [.agg liKs,.cell .str,.cell (.slice enKs)]=t35:=by kernel_rfl
noncomputable def t7:R:=let x0:List K:=liKs;let x1:T:=Vl (Va 1) (Vl (Va 2) .lnil);let x2:T:=Vl (Va 8) (Vl (Va 9) (Vl (Va 10) (Vl (Va 11) (Vl (Va 12) .lnil))));let x3:T:=.o2 .eq (Va 17) (Va 21);let x4:T:=.o2 .eq (Va 25) (Va 29);.call none (.fn 22) [Vl (Va 0) x1,Va 4] [.cell .bool] (.ite (.o1 .not (Va 13)) (.call none (.fn 23) [] [.cell .bool] (.ret [.d (Va 14)])) (.call none (.fn 28) [Vl (Va 0) x1,Va 3,Va 4] [.agg x0,.cell (.int .i64)] (.call none (.fn 35) [Vl (Va 0) x1,Va 3,Va 4] [.agg x0,.cell (.int .i64)] (.call none (.fn 36) [Vl (Va 0) x1,Va 3,Va 5,Vl (Va 7) x2] [.agg x0,.cell (.int .i64)] (.call none (.fn 37) [Vl (Va 0) x1,Va 3,Va 5,Vl (Va 7) x2] [.agg x0,.cell (.int .i64)] (.call none (.fn 25) [Vl (Va 14) (Vl (Va 15) (Vl (Va 16) .lnil)),Vl (Va 18) (Vl (Va 19) (Vl (Va 20) .lnil))] [.cell .bool] (.call (some (.ite (Va 30) x3 (.bool false))) (.fn 25) [Vl (Va 22) (Vl (Va 23) (Vl (Va 24) .lnil)),Vl (Va 26) (Vl (Va 27) (Vl (Va 28) .lnil))] [.cell .bool] (.call (some (.ite (.ite (.ite (Va 30) x3 (.bool false)) (Va 31) (.bool false)) x4 (.bool false))) (.fn 23) [] [.cell .bool] (.ret [.d (.ite (.ite (.ite (.ite (Va 30) x3 (.bool false)) (Va 31) (.bool false)) x4 (.bool false)) (Va 32) (.bool false))])))))))))
theorem t7_ok:fnO Tryz.prog mdA 7 [.agg liKs,.agg [.str,.slice enKs,.int .i64,.bool],.agg tmKs]=t7:=by kernel_rfl
theorem Z3L {P:Program} {F:Option Nat→List RV→Prop} {t:T} {n:Nat} {X:R} {ags:Ags} {ρ:List D} (hn:ρ.length=n) (h:∀b:Bool,denR P F noK X ags (ρ++[.bool b])):denR P F noK (.guess t (.ite (.var n) X X)) ags ρ:=by
 rw [Yb];intro b _;have hd:den (ρ++[.bool b]) (.var n)=.bool b:=by simp [den, ←hn]
 exact⟨fun _=>h b,fun _=>h b⟩
theorem Z3Y {l:Lis} {s:List UInt8} {A B:List Cue} {c:Cue} (hA:Around l s A c B):l.cues[upto l s - 1]? =some c:=by
 rw [hA.n,Nat.add_sub_cancel,hA.eq];simp
theorem ZO:Contract Tryz.prog 96 fun args K=>∃v:Int,I64 v∧args=[.int .i64 v]∧K [.d (.bool (isTm v))]:=by
 refine .of (by kernel_rfl) ZfN ?_;rintro _ K ⟨v,hv,rfl,hK⟩ hsm;refine⟨[.int .i64 v],rfl,⟨Y2 hv,trivial⟩,?_⟩;simp only [zz,reduceCtorEq,t96];unfold isTm at hK;simpa using hK
def timL (t:Tim):List Int:=[t.up,t.down,t.pos,t.col,t.beam,t.delay]
theorem Z8R (t:Tim):Z60 t=(timL t).all isTm:=by simp [Z60,timL,Bool.and_assoc]
theorem Tim.has' {t:Tim} (ht:t.Ok):HasKs tmKs t.enc:=⟨Y2 ht.1,Y2 ht.2.1,Y2 ht.2.2.1,Y2 ht.2.2.2.1,Y2 ht.2.2.2.2.1,Y2 ht.2.2.2.2.2,trivial⟩
theorem Z3j {c:Cue} (hc:c.Ok) {t:Tim} (ht:t.Ok) (k:Nat):Cue.Ok {c with parts:=c.parts.set k t}:= {hc with parts:=fun x hx=>(List.mem_or_eq_of_mem_set hx).elim (hc.parts x) fun e=>e▸ht}
theorem Z6o (ts:List Tim) (k:Nat) (t:Tim):(ts.map Tim.enc).modify k (fun x=>Ze x 0 t.enc)=(ts.set k t).map Tim.enc:=by
 apply List.ext_getElem?;intro i;rw [List.getElem?_modify,List.getElem?_map,List.getElem?_map,List.getElem?_set];by_cases h:k=i
 · subst h;by_cases hk:k < ts.length
   · simp [hk,Ze,Tim.enc]
   · simp [hk]
 · simp [h]
set_option maxHeartbeats 1000000 in
theorem Za9:Contract Tryz.prog 36 fun args K=>∃(l:Lis) (s:List UInt8) (part:Int) (t:Tim),l.Ok∧I64 part∧t.Ok∧args=[.agg l.enc,.str s,.int .i64 part,.agg t.enc]∧K [.d (.agg (YZ l s part t).1.enc),.d (.int .i64 (YZ l s part t).2)]:=by
 refine .of (by kernel_rfl) ZgC ?_;rintro _ K ⟨l,s,part,t,hl,hp,ht,rfl,hK⟩ hsm;refine⟨l.enc++[.str s,.int .i64 part]++t.enc,rfl,by exact((Lis.has hl).append (show HasKs [.str,.int .i64] [.str s,.int .i64 part]from⟨trivial,Y2 hp,trivial⟩)).append (Tim.has' ht),?_⟩;unfold YZ at hK;refine Z0 YP ⟨l,s,hl,by simp only [zz,reduceCtorEq,Lis.enc],_,rfl,?_⟩;rcases Decidable.em (Jf l s=0)with h1|h1
 rotate_left
 · rw [if_pos h1]at hK;refine Y3 (by simp only [zz,reduceCtorEq,Lis.enc,Tim.enc,h1]) ?_;simp only [zz,reduceCtorEq,Lis.enc,Tim.enc];exact hK
 rw [if_neg (by simpa using h1)]at hK;rw [h1];refine J3 (by simp only [zz,reduceCtorEq,Lis.enc,Tim.enc]) ?_;obtain⟨A,c,B,hA⟩:=YI hl h1;have hg0:=YF hA.ck hA.num;have hpl:place l.cues s=(A.length:Int):=by
   have:=(Zk hl h1).2.2.2.1;rw [this,hA.n];simp
 have hf1:(Yp l s).1=(A.length:Int):=by
   unfold Yp;rw [if_neg (by simp [hg0])];simp only [hpl];rw [if_neg (by omega)]
 rw [hf1];have hlt:A.length < l.cues.length:=by rw [hA.eq];simp
 have hgc:l.cues[A.length]=c:=by
   have:l.cues[A.length]? =some c:=by rw [hA.eq];simp
   exact(List.getElem?_eq_some_iff.1 this).2
 have hlen64:=hA.rt.len;have hRL:=Wd hA.ck;rw [Z3Y hA]at hK;simp only at hK;have hco:=hl.cues c (by rw [hA.eq];simp);have hc16:=hRL.cues c (by rw [hA.eq];simp);have hpl4:=(Z0H hc16).four;have hgd:(l.cues.map Cue.enc).getD A.length []=c.enc:=by rw [J0 hlt,hgc]
 refine⟨by simp only [zz,reduceCtorEq,Lis.enc,Tim.enc] <;> simp,by simp only [zz,reduceCtorEq,Lis.enc,Tim.enc,List.length_map] <;> first|omega|(simp;omega)|(simp;done),?_⟩;intro _;by_cases hbad:part < 1∨(c.parts.length:Int) < part
 · rw [if_pos hbad]at hK;refine Y3 (by simp only [zz,reduceCtorEq,Lis.enc,Tim.enc,hgd,Cue.enc,List.length_map] <;> first|omega|(simp;omega)|(simp;done)) ?_;simp only [zz,reduceCtorEq,Lis.enc,Tim.enc];simpa [Lis.enc,zeroL]using hK
 rw [if_neg hbad]at hK;refine J3 (by simp only [zz,reduceCtorEq,Lis.enc,Tim.enc,hgd,Cue.enc,List.length_map] <;> first|omega|(simp;omega)|(simp;done)) ?_;have h6:(timL t).length=6:=rfl;have hsel:∀(i:Nat) (hi:i < (timL t).length),D.cellAt t.enc (.int .i64 (i:Int)) (.int .i64)=.int .i64 (timL t)[i]:=fun i hi=>by
   match i,hi with
   |0,_|1,_|2,_|3,_|4,_|5,_=>rfl
 rw [Z8R]at hK;generalize timL t=ts at h6 hsel hK;refine Jb ts (fun _ l' (_:Unit)=>l'.all isTm) (fun i _=>[.int .i64 i]) () (ts.all isTm) rfl 0 (fun _ _=>rfl) rfl ?_ ?_
 · intro i hi _ hgo;have hi6:i < 6:=by omega
   refine⟨fun _=>⟨by simp only [zz,reduceCtorEq,Lis.enc,Tim.enc] <;> omega,?_⟩,fun h=>?_⟩;rotate_left
   · exfalso;simp only [zz,reduceCtorEq,Lis.enc,Tim.enc]at h;omega
   have hs:=hsel i hi;simp only [Tim.enc]at hs;by_cases hv:isTm ts[i]=true
   · refine J3 ?_ ?_
     · simp only [zz,reduceCtorEq,Lis.enc,Tim.enc,hs];unfold isTm at hv;simp only [Bool.and_eq_true,decide_eq_true_eq]at hv;simp;omega
     simp only [zz,reduceCtorEq,Lis.enc,Tim.enc];refine⟨(),?_,by simp only [List.all_cons,hv,Bool.true_and]at hgo;exact hgo⟩;rw [Z1] <;> omega
   · rw [show ts.all isTm=false by rw [←hgo];simp only [List.all_cons];rw [show isTm ts[i]=false by simpa using hv];rfl]at hK;refine Y3 ?_ ?_
     · simp only [zz,reduceCtorEq,Lis.enc,Tim.enc,hs];unfold isTm at hv;simp only [Bool.and_eq_true,decide_eq_true_eq]at hv;omega
     simp only [zz,reduceCtorEq,Lis.enc,Tim.enc];simpa [Lis.enc,zeroL]using hK
 · intro _ hgo;rw [h6];rw [show ts.all isTm=true from hgo.symm]at hK;simp only [Bool.true_eq_false,if_false]at hK;refine⟨fun h=>?_,fun _=>?_⟩
   · exfalso;simp only [zz,reduceCtorEq,Lis.enc,Tim.enc]at h;omega
   refine⟨by simp only [zz,reduceCtorEq,Lis.enc,Tim.enc] <;> simp,by simp only [zz,reduceCtorEq,Lis.enc,Tim.enc,List.length_map] <;> first|omega|(simp;omega)|(simp;done),?_⟩;refine Z0 Z72 ⟨c.parts,hco.parts,by omega,by simp only [zz,reduceCtorEq,Lis.enc,Tim.enc,hgd,Cue.enc],_,rfl,?_⟩;have hw:wr64 (part - 1)=((part.toNat - 1:Nat):Int):=by rw [Z1] <;> omega
   refine⟨by simp only [zz,reduceCtorEq,Lis.enc,Tim.enc,hw] <;> simp,by simp only [zz,reduceCtorEq,Lis.enc,Tim.enc,hw,List.length_map] <;> first|omega|(simp;omega)|(simp;done),?_⟩;refine Z0 YY ⟨l,A.length,{c with parts:=c.parts.set (part.toNat - 1) t},hl,Z3j hco ht _,hlt,by omega,?_,_,rfl,?_⟩
   · simp only [zz,reduceCtorEq,Lis.enc,Tim.enc,hgd,Cue.enc,hw,D.upd];have:=Z6o c.parts (part.toNat - 1) t;simp only [Tim.enc]at this;rw [this]
   · simp only [zz,reduceCtorEq,Lis.enc];rw [hA.n]at hK;exact hK
set_option maxHeartbeats 4000000 in
theorem Z6i:Contract Tryz.prog 37 fun args K=>∃(l:Lis) (s:List UInt8) (part:Int) (t:Tim),l.Ok∧I64 part∧t.Ok∧args=[.agg l.enc,.str s,.int .i64 part,.agg t.enc]∧K [.d (.agg (YZ l s part t).1.enc),.d (.int .i64 (YZ l s part t).2)]:=by
 refine .of (by kernel_rfl) ZgB ?_;rintro _ K ⟨l,s,part,t,hl,hp,ht,rfl,hK⟩ hsm;refine⟨l.enc++[.str s,.int .i64 part]++t.enc,rfl,by exact((Lis.has hl).append (show HasKs [.str,.int .i64] [.str s,.int .i64 part]from⟨trivial,Y2 hp,trivial⟩)).append (Tim.has' ht),?_⟩;unfold YZ at hK;refine Z0 Z8x ⟨l,s,hl,by simp only [zz,reduceCtorEq,Lis.enc],_,rfl,?_⟩;rcases Decidable.em (Jf l s=0)with h1|h1
 rotate_left
 · rw [if_pos h1]at hK;refine Y3 (by simp only [zz,reduceCtorEq,Lis.enc,Tim.enc,h1]) ?_;simp only [zz,reduceCtorEq,Lis.enc,Tim.enc];exact hK
 rw [if_neg (by simpa using h1)]at hK;rw [h1];refine J3 (by simp only [zz,reduceCtorEq,Lis.enc,Tim.enc]) ?_;obtain⟨A,c,B,hA⟩:=YI hl h1;have hpl:place l.cues s=(A.length:Int):=by
   have:=(Zk hl h1).2.2.2.1;rw [this,hA.n];simp
 have hlt:A.length < l.cues.length:=by rw [hA.eq];simp
 have hgc:l.cues[A.length]=c:=by
   have:l.cues[A.length]? =some c:=by rw [hA.eq];simp
   exact(List.getElem?_eq_some_iff.1 this).2
 have hlen64:=hA.rt.len;have hRL:=Wd hA.ck;rw [Z3Y hA]at hK;simp only at hK;have hco:=hl.cues c (by rw [hA.eq];simp);have hc16:=hRL.cues c (by rw [hA.eq];simp);have hpl4:=(Z0H hc16).four;have hgd:(l.cues.map Cue.enc).getD A.length []=c.enc:=by rw [J0 hlt,hgc]
 refine Z0 Z1P ⟨l,s,hl,by simp only [zz,reduceCtorEq,Lis.enc,Tim.enc],_,rfl,?_⟩;rw [hpl];refine⟨by simp only [zz,reduceCtorEq,Lis.enc,Tim.enc] <;> simp,by simp only [zz,reduceCtorEq,Lis.enc,Tim.enc,List.length_map] <;> first|omega|(simp;omega)|(simp;done),?_⟩;obtain⟨g1,g2,g3,g4,g5,g6⟩:=ht;have htm:Z60 t=(isTm t.up&&isTm t.down&&isTm t.pos&&isTm t.col&&isTm t.beam&&isTm t.delay):=rfl;refine Z3L (by simp [Lis.enc,Tim.enc]) fun b=>?_
 refine⟨by simp only [zz,reduceCtorEq,Lis.enc,Tim.enc,hgd,Cue.enc,List.length_map,List.nil_append] <;> first|omega|(simp;omega)|(simp;done),?_⟩;intro _;by_cases hbad:part < 1∨(c.parts.length:Int) < part
 · rw [if_pos hbad]at hK;refine Y3 (by simp only [zz,reduceCtorEq,Lis.enc,Tim.enc,hgd,Cue.enc,List.length_map,List.nil_append] <;> first|omega|(simp;omega)|(simp;done)) ?_;simp only [zz,reduceCtorEq,Lis.enc,Tim.enc];simpa [Lis.enc,zeroL]using hK
 rw [if_neg hbad]at hK;refine J3 (by simp only [zz,reduceCtorEq,Lis.enc,Tim.enc,hgd,Cue.enc,List.length_map,List.nil_append] <;> first|omega|(simp;omega)|(simp;done)) ?_;refine Z0 ZO ⟨t.up,g1,by simp only [zz,reduceCtorEq,Lis.enc,Tim.enc],_,rfl,?_⟩;refine Z5 ZO (isTm t.up) [.bool (isTm t.up&&isTm t.down)] (by simp only [zz,reduceCtorEq,Lis.enc,Tim.enc] <;> simp) (fun h=>⟨t.down,g2,by simp only [zz,reduceCtorEq,Lis.enc,Tim.enc],by rw [h];rfl⟩) (fun h=>by rw [h];rfl) ?_;refine Z5 ZO (isTm t.up&&isTm t.down) [.bool (isTm t.up&&isTm t.down&&isTm t.pos)] (by simp only [zz,reduceCtorEq,Lis.enc,Tim.enc];cases isTm t.up <;> cases isTm t.down <;> rfl) (fun h=>⟨t.pos,g3,by simp only [zz,reduceCtorEq,Lis.enc,Tim.enc],by rw [h];rfl⟩) (fun h=>by rw [h];rfl) ?_;refine Z5 ZO (isTm t.up&&isTm t.down&&isTm t.pos) [.bool (isTm t.up&&isTm t.down&&isTm t.pos&&isTm t.col)] (by simp only [zz,reduceCtorEq,Lis.enc,Tim.enc];cases isTm t.up <;> cases isTm t.down <;> cases isTm t.pos <;> rfl) (fun h=>⟨t.col,g4,by simp only [zz,reduceCtorEq,Lis.enc,Tim.enc],by rw [h];rfl⟩) (fun h=>by rw [h];rfl) ?_;refine Z5 ZO (isTm t.up&&isTm t.down&&isTm t.pos&&isTm t.col) [.bool (isTm t.up&&isTm t.down&&isTm t.pos&&isTm t.col&&isTm t.beam)] (by simp only [zz,reduceCtorEq,Lis.enc,Tim.enc];cases isTm t.up <;> cases isTm t.down <;> cases isTm t.pos <;> cases isTm t.col <;> rfl) (fun h=>⟨t.beam,g5,by simp only [zz,reduceCtorEq,Lis.enc,Tim.enc],by rw [h];rfl⟩) (fun h=>by rw [h];rfl) ?_;refine Z5 ZO (isTm t.up&&isTm t.down&&isTm t.pos&&isTm t.col&&isTm t.beam) [.bool (isTm t.up&&isTm t.down&&isTm t.pos&&isTm t.col&&isTm t.beam&&isTm t.delay)] (by simp only [zz,reduceCtorEq,Lis.enc,Tim.enc];cases isTm t.up <;> cases isTm t.down <;> cases isTm t.pos <;> cases isTm t.col <;> cases isTm t.beam <;> rfl) (fun h=>⟨t.delay,g6,by simp only [zz,reduceCtorEq,Lis.enc,Tim.enc],by rw [h];rfl⟩) (fun h=>by rw [h];rfl) ?_;by_cases hto:(isTm t.up&&isTm t.down&&isTm t.pos&&isTm t.col&&isTm t.beam&&isTm t.delay)=true;rotate_left
 · rw [if_pos (show Z60 t=false from htm.trans (by simpa using hto))]at hK;refine Y3 (by simp only [zz,reduceCtorEq,Lis.enc,Tim.enc];revert hto;cases isTm t.up <;> cases isTm t.down <;> cases isTm t.pos <;> cases isTm t.col <;> cases isTm t.beam <;> cases isTm t.delay <;> simp) ?_;simp only [zz,reduceCtorEq,Lis.enc,Tim.enc];simpa [Lis.enc,zeroL]using hK
 rw [if_neg (by rw [htm,hto];simp)]at hK;have hto':=hto;simp only [Bool.and_eq_true]at hto';refine J3 (by simp only [zz,reduceCtorEq,Lis.enc,Tim.enc,hto'.2,hto'.1.2,hto'.1.1.2,hto'.1.1.1.2,hto'.1.1.1.1.2,hto'.1.1.1.1.1,Bool.and_self]) ?_;have hw:wr64 (part - 1)=((part.toNat - 1:Nat):Int):=by rw [Z1] <;> omega
 refine⟨by simp only [zz,reduceCtorEq,Lis.enc,Tim.enc,hw] <;> simp,by simp only [zz,reduceCtorEq,Lis.enc,Tim.enc,hw,hgd,Cue.enc,List.length_map,List.nil_append] <;> first|omega|(simp;omega)|(simp;done),?_⟩;refine Z0 Z0F ⟨l,A.length,{c with parts:=c.parts.set (part.toNat - 1) t},hl,Z3j hco ⟨g1,g2,g3,g4,g5,g6⟩ _,hlt,by omega,?_,_,rfl,?_⟩
 · simp only [zz,reduceCtorEq,Lis.enc,Tim.enc,hgd,Cue.enc,hw,D.upd,List.nil_append];have:=Z6o c.parts (part.toNat - 1) t;simp only [Tim.enc]at this;rw [this]
 · simp only [zz,reduceCtorEq,Lis.enc];rw [hA.n]at hK;exact hK
set_option maxHeartbeats 2000000 in
theorem Z8L:Contract Tryz.prog 93 fun args K=>∃(l:Lis) (s:List UInt8) (es:List Ent),l.Ok∧(∀e∈es,e.Ok)∧Jf l s=0∧Zo es=0∧args=[.agg l.enc,.str s,.slice (es.map Ent.enc)]∧K [.d (.agg (Lis.enc {l with cues:=JF l.cues (upto l s) es}))]:=by
 refine .of (by kernel_rfl) ZfQ ?_;rintro _ K ⟨l,s,es,hl,hes,h1,h3,rfl,hK⟩ hsm;refine⟨l.enc++[.str s,.slice (es.map Ent.enc)],rfl,by exact(Lis.has hl).append (show HasKs [.str,.slice enKs] [.str s,.slice (es.map Ent.enc)]from⟨trivial,Jp hes,trivial⟩),?_⟩;obtain⟨A,c,B,hA⟩:=YI hl h1;have hpl:place l.cues s=(A.length:Int):=by
   have:=(Zk hl h1).2.2.2.1;rw [this,hA.n];simp
 have hlt:A.length < l.cues.length:=by rw [hA.eq];simp
 have hlen64:=hA.rt.len;have hRL:=Wd hA.ck;have hE:=Z12 hes h3;have hel:=Z1V h3;rw [hA.n, ←Z27]at hK;refine Z0 Z1P ⟨l,s,hl,by simp only [zz,reduceCtorEq,Lis.enc],_,rfl,?_⟩;rw [hpl];have hself:KinU l.cues l.cues 0:=⟨rfl,hl.cues,fun c hc=>by
   have:=Z0H (hRL.cues c hc);exact⟨this.rc.rising,by have:=this.len;omega,this.four⟩,fun _ _ _ _ h=>h⟩
 refine Ji es (fun _ l' (out:List Cue)=>l'.foldl (Z36 l.cues (A.length+1)) out) (fun i out=>[.int .i64 i,.int .i64 l.num,.int .i64 l.prio,.slice (out.map Cue.enc)]) (fun i out=>KinU l.cues out i) l.cues (es.foldl (Z36 l.cues (A.length+1)) l.cues) rfl hself 0 (fun _ _=>rfl) rfl ?_ ?_
 · intro i hi out hI hgo;have hem:=List.getElem_mem hi;have heo:=hes _ hem;have hoOk:Lis.Ok {l with cues:=out}:= {hl with cues:=hI.ok}
   have hol:out.length≤64:=by rw [hI.len];exact hlen64
   intro _;refine⟨fun _=>⟨by simp only [zz,reduceCtorEq,Lis.enc] <;> omega,?_⟩,fun h=>?_⟩;rotate_left
   · exfalso;simp only [zz,reduceCtorEq,Lis.enc,List.length_map,hi]at h
   refine Z0 Za1 ⟨l,A.length+1,es[i].pa,hA.rt,by omega,heo.1,by simp only [zz,reduceCtorEq,Lis.enc,J0 hi,Ent.enc,Par.enc] <;> simp,_,rfl,?_⟩;rw [List.foldl_cons]at hgo;rcases Z5e (cs:=l.cues) (p:=es[i].pa) (n:=A.length+1) (by omega)with⟨q,_⟩|⟨j,hj,q1,q2,_,q4⟩
   · have hs:srcd l.cues (A.length+1) es[i]=false:=by unfold srcd;rw [q];rfl
     rw [q];refine Y3 (by simp only [zz,reduceCtorEq,Lis.enc] <;> simp) ?_;have hw:wr64 ((i:Int)+1)=((i+1:Nat):Int):=by rw [Z1] <;> omega
     refine⟨by simp only [zz,reduceCtorEq,Lis.enc,hw] <;> omega,by simp only [zz,reduceCtorEq,Lis.enc,hw,List.length_map] <;> omega,?_⟩;have hlo:A.length < out.length:=by rw [hI.len];exact hlt
     obtain⟨r1,r2,r3⟩:=hI.mv _ (List.getElem_mem hlo);have hsub:((es.map Ent.enc).take (i+1)).drop i=[es[i]].map Ent.enc:=by
       rw [←List.map_take, ←List.map_drop];congr 1;apply List.ext_getElem?;intro k;rw [List.getElem?_drop,List.getElem?_take];cases k with
       |zero=>simp [hi]
       |succ k=>simp
     refine Z0 Za8 ⟨{l with cues:=out},A.length,[es[i]],hlo,hoOk,by simpa using heo,r1,by show(out[A.length]).moves.length≤10000;omega,by show(out[A.length]).parts.length≤1000000;omega,by simp,by show out.length≤1000000;omega,by simp only [zz,reduceCtorEq,Lis.enc,hw,hsub],_,rfl,?_⟩;have hst:Z36 l.cues (A.length+1) out es[i]=WH out A.length [es[i]]:=by unfold Z36;rw [hs];rfl
     rw [hst]at hgo;simp only [zz,reduceCtorEq,Lis.enc,hw];refine⟨WH out A.length [es[i]],rfl,?_,hgo⟩;rw [Z3F hlo];exact hI.give hlo heo
   · have hs:srcd l.cues (A.length+1) es[i]=true:=by unfold srcd;rw [q1];simp
     rw [q1];refine J3 (by simp only [zz,reduceCtorEq,Lis.enc] <;> simp) ?_;have hjo:j < out.length:=by rw [hI.len];exact hj
     have hcj:=hI.ok _ (List.getElem_mem hjo);obtain⟨r1,r2,r3⟩:=hI.mv _ (List.getElem_mem hjo);refine⟨by simp only [zz,reduceCtorEq,Lis.enc] <;> simp,by simp only [zz,reduceCtorEq,Lis.enc,List.length_map] <;> first|omega|(simp;omega)|(simp;done),by simp only [zz,reduceCtorEq,Lis.enc,J0 hjo,Cue.enc,List.length_map,List.nil_append] <;> first|omega|(simp;omega)|(simp;done),?_⟩;refine Z0 Z6A ⟨out[j].moves,es[i].pa,hcj.moves,heo.1,by simp only [zz,reduceCtorEq,Lis.enc,J0 hjo,J0 hi,Cue.enc,Ent.enc,Par.enc,List.nil_append],_,rfl,?_⟩;have hsm:=hI.has j hjo hj es[i].pa q4;obtain⟨k,hk,e1,e2⟩:∃k,∃hk:k < out[j].moves.length,Z3t out[j].moves es[i].pa=(k:Int)∧out[j].moves[k].pa=es[i].pa:=by
       unfold Z3t;rcases Yz (fun m:Mov=>decide (m.pa=es[i].pa)) out[j].moves 0 with⟨_,h2⟩|⟨k,hk,h2,h3,_⟩
       · exfalso;obtain⟨m,hm⟩:=Option.isSome_iff_exists.1 hsm;have:=h2 m (List.mem_of_find?_eq_some hm);have h4:=List.find?_some hm;rw [this]at h4;cases h4
       · exact⟨k,hk,by rw [h2];simp,by simpa using h3⟩
     rw [e1];refine⟨by simp only [zz,reduceCtorEq,Lis.enc] <;> simp,by simp only [zz,reduceCtorEq,Lis.enc,J0 hjo,Cue.enc,List.length_map,List.nil_append] <;> first|omega|(simp;omega)|(simp;done),?_⟩;have henc:=Z66 (e:=es[i]) r1 hk e2;refine Z0 Z3O ⟨out[j],Z1J out[j].moves es[i],hcj,(Z1E hcj heo).moves,by omega,?_,_,rfl,?_⟩
     · simp only [zz,reduceCtorEq,Lis.enc,J0 hjo,J0 hi,Cue.enc,Ent.enc,D.upd,List.nil_append];rw [←henc]
     refine Z0 Z0F ⟨{l with cues:=out},j,updC es[i] out[j],hoOk,Z1E hcj heo,hjo,by show out.length≤1000000;omega,by simp only [zz,reduceCtorEq,Lis.enc,Cue.enc,updC],_,rfl,?_⟩;have hst:Z36 l.cues (A.length+1) out es[i]=out.set j (updC es[i] out[j]):=by
       unfold Z36;rw [hs];simp only [if_true,upd1,q1,Int.toNat_natCast];exact Z9f hjo _
     rw [hst]at hgo;simp only [zz,reduceCtorEq,Lis.enc,Cue.enc];exact⟨out.set j (updC es[i] out[j]),⟨by rw [Z1] <;> omega,rfl⟩,hI.upd hjo heo,hgo⟩
 · intro out hI hgo;simp only [List.foldl_nil]at hgo;subst hgo;intro _;refine⟨fun h=>?_,fun _=>?_⟩
   · exfalso;simp only [zz,reduceCtorEq,Lis.enc,List.length_map,Nat.lt_irrefl]at h
   simp only [zz,reduceCtorEq,Lis.enc];exact hK
theorem Z6h:Contract Tryz.prog 35 fun args K=>∃(l:Lis) (s:List UInt8) (es:List Ent),l.Ok∧(∀e∈es,e.Ok)∧args=[.agg l.enc,.str s,.slice (es.map Ent.enc)]∧K [.d (.agg (WM l s es).1.enc),.d (.int .i64 (WM l s es).2)]:=by
 refine .of (by kernel_rfl) ZgD ?_;rintro _ K ⟨l,s,es,hl,hes,rfl,hK⟩ hsm;refine⟨l.enc++[.str s,.slice (es.map Ent.enc)],rfl,by exact(Lis.has hl).append (show HasKs [.str,.slice enKs] [.str s,.slice (es.map Ent.enc)]from⟨trivial,Jp hes,trivial⟩),?_⟩;unfold WM at hK;refine Z0 Z8x ⟨l,s,hl,by simp only [zz,reduceCtorEq,Lis.enc],_,rfl,?_⟩;rcases Decidable.em (Jf l s=0)with h1|h1
 rotate_left
 · rw [if_pos h1]at hK;refine Y3 (by simp only [zz,reduceCtorEq,Lis.enc,h1]) ?_;simp only [zz,reduceCtorEq,Lis.enc];exact hK
 rw [if_neg (by simpa using h1)]at hK;rw [h1];refine J3 (by simp only [zz,reduceCtorEq,Lis.enc]) ?_;refine Z0 Zb4 ⟨es,hes,by simp only [zz,reduceCtorEq,Lis.enc],_,rfl,?_⟩;rcases Decidable.em (Zo es=0)with h3|h3
 rotate_left
 · rw [if_pos h3]at hK;refine Y3 (by simp only [zz,reduceCtorEq,Lis.enc,h3]) ?_;simp only [zz,reduceCtorEq,Lis.enc];exact hK
 rw [if_neg (by simpa using h3)]at hK;rw [h3];refine J3 (by simp only [zz,reduceCtorEq,Lis.enc]) ?_;refine Z0 Z8L ⟨l,s,es,hl,hes,h1,h3,by simp only [zz,reduceCtorEq,Lis.enc],_,rfl,?_⟩;have ho:Lis.Ok {l with cues:=JF l.cues (upto l s) es}:= {hl with cues:=Z4f hl.cues hes}
 refine Z0 ZbR ⟨_,ho,by simp only [zz,reduceCtorEq,Lis.enc],_,rfl,?_⟩;simp only [zz,reduceCtorEq,Lis.enc];exact hK
theorem Z7e {l:Lis} (hl:l.Ok) {s:List UInt8} {es:List Ent} (hes:∀e∈es,e.Ok):(WM l s es).1.Ok:=by
 unfold WM;split
 · exact Yu
 split
 · exact Yu
 unfold Ju;split
 · exact Yu
 · exact {hl with cues:=Z4f hl.cues hes}
theorem Z8X {l:Lis} (hl:l.Ok) {s:List UInt8} {part:Int} {t:Tim} (ht:t.Ok):(YZ l s part t).1.Ok:=by
 unfold YZ;split
 · exact Yu
 split
 · exact Yu
 rename_i c hc;split
 · exact Yu
 split
 · exact Yu
 refine {hl with cues:=fun x hx=>?_};rcases List.mem_or_eq_of_mem_set hx with hx|rfl
 · exact hl.cues x hx
 · exact Z3j (hl.cues c (List.mem_of_getElem? hc)) ht _
set_option maxHeartbeats 1000000 in
theorem law7_typed:Contract Tryz.prog 7 fun args K=>∃(l:Lis) (n:Note) (t:Tim),l.Ok∧n.Ok∧t.Ok∧args=[.agg l.enc,.agg n.enc,.agg t.enc]∧K [.d (.bool true)]:=by
 refine .of (by kernel_rfl) t7_ok ?_;rintro _ K ⟨l,n,t,hl,hn,ht,rfl,hK⟩ hsm;refine⟨l.enc++n.enc++t.enc,rfl,by exact((Lis.has hl).append (Note.has hn)).append (Tim.has' ht),?_⟩;refine Z0 Zcx ⟨l,n.es,hl,hn.es,by simp only [zz,reduceCtorEq,Lis.enc,Note.enc,Tim.enc],fun b=>⟨_,rfl,?_⟩⟩;cases b
 · refine Y3 (by simp only [zz,reduceCtorEq,Lis.enc,Note.enc,Tim.enc]) (Z0 Z56 ⟨rfl,_,rfl,by simp only [zz,reduceCtorEq,Lis.enc,Note.enc,Tim.enc];exact hK⟩)
 refine J3 (by simp only [zz,reduceCtorEq,Lis.enc,Note.enc,Tim.enc]) ?_;refine Z0 JY ⟨l,n.s,n.es,hl,hn.es,by simp only [zz,reduceCtorEq,Lis.enc,Note.enc,Tim.enc],_,rfl,?_⟩;refine Z0 Z6h ⟨l,n.s,n.es,hl,hn.es,by simp only [zz,reduceCtorEq,Lis.enc,Note.enc,Tim.enc],_,rfl,?_⟩;refine Z0 Za9 ⟨l,n.s,n.part,t,hl,hn.part,ht,by simp only [zz,reduceCtorEq,Lis.enc,Note.enc,Tim.enc],_,rfl,?_⟩;refine Z0 Z6i ⟨l,n.s,n.part,t,hl,hn.part,ht,by simp only [zz,reduceCtorEq,Lis.enc,Note.enc,Tim.enc],_,rfl,?_⟩;have o1:=Z7e hl hn.es (s:=n.s);have o2:=Z8X hl ht (s:=n.s) (part:=n.part);refine Z0 Z6a ⟨_,_,o1,o1,by simp only [zz,reduceCtorEq,Lis.enc,Note.enc,Tim.enc],_,rfl,?_⟩;rw [Z3c];refine Z5 Z6a true [.bool true] (by simp only [zz,reduceCtorEq,Lis.enc,Note.enc,Tim.enc,beq_self_eq_true]) (fun _=>⟨_,_,o2,o2,by simp only [zz,reduceCtorEq,Lis.enc,Note.enc,Tim.enc],by rw [Z3c];rfl⟩) (fun h=>by cases h) ?_;refine Z5 Z56 true [.bool true] (by simp only [zz,reduceCtorEq,Lis.enc,Note.enc,Tim.enc,beq_self_eq_true]) (fun _=>⟨rfl,rfl⟩) (fun h=>by cases h) ?_;simp only [zz,reduceCtorEq,Lis.enc,Note.enc,Tim.enc,beq_self_eq_true];exact hK
theorem law7:Contract Tryz.prog 7 (Z81 Tryz.prog 7):=
 law7_typed.weaken fun args K _ h=>by
   obtain⟨h1,h2,hK⟩:=Zfg [.agg liKs,.agg ntKs,.agg tmKs] (by kernel_rfl) h
   match args,h1 with
   | [a,b,c],_=>
     obtain⟨l,hl,rfl⟩:=Lis.ofAgg (h2 0 _ _ rfl rfl);obtain⟨n,hn,rfl⟩:=Note.ofAgg (h2 1 _ _ rfl rfl);have h3:HasK (.agg tmKs) c:=h2 2 _ _ rfl rfl;obtain⟨ts,rfl,h3⟩:∃ts,c=.agg ts∧HasKs tmKs ts:=by
       cases c <;> simp only [HasK]at h3
       exact⟨_,rfl,h3⟩
     obtain⟨t,ht,rfl⟩:=Tim.of h3;exact⟨l,n,t,hl,hn,ht,rfl,hK⟩
end Go.Sx.La
