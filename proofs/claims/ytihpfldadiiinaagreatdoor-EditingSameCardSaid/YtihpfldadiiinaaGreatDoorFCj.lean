/-
 Part 10 of the proof: the executor over the kit's code with its soundness, or contracts of functions.
-/
import Derived.Test.YtihpfldadiiinaaGreatDoorFCi
set_option linter.unusedSimpArgs false
set_option linter.unusedVariables false
set_option linter.unusedSectionVars false
set_option linter.defProp false
set_option maxRecDepth 100000
namespace Go.Sx.La
open Go Go.Sx Go.RowKit Go.Proofs
noncomputable def t17:R:=let x0:List K:=liKs;let x1:T:=Vl (Va 11) (Vl (Va 12) .lnil);let x2:T:=Vl (Va 1) (Vl (Va 2) .lnil);let x3:List K:=enKs;let x4:List K:=[.int .i64,.int .i64];let x5:T:=Vl (Va 17) .lnil;let x6:T:=Vl (.ptr (Vl (Va 20) .lnil)) .lnil;let x7:T:=Vl (Va 30) (Vl (Va 31) (Vl (Va 32) .lnil));let x8:T:=Vl (Va 29) (Vl (Va 30) (Vl (Va 31) .lnil));let x9:T:=Vl (.ptr x5) .lnil;let x10:T:=Vl (Va 6) (Vl (Va 7) .lnil);let x12:T:=Vl (Va 27) (Vl (Va 28) .lnil);let x13:T:=Vl (Va 26) (Vl (Va 27) .lnil);let x14:T:=Vl (Va 28) (Vl (Va 29) (Vl (Va 30) .lnil));let x15:T:=Vl (.ptr (Vl (Va 19) .lnil)) .lnil;let x16:T:=Vl (Va 25) (Vl (Va 26) .lnil);let x17:T:=Vl (Vn 0) (Vl (Vn 0) (Vl .nils .lnil));let x18:T:=Vl (Va 18) .lnil;let x19:T:=Vl (.ptr x5) (Vl (.ptr (Vl (Va 21) .lnil)) .lnil);let x20:T:=Vl (.ptr x5) x6;let x11:T:=Vl (.ptr x18) .lnil;.call none (.fn 65) [Vl (Va 0) x2,Va 3] [.agg x0,.cell (.int .i64),.cell (.int .i64)] (.ite (.o2 .ne (Va 9) (Vn 0)) (.ret [.d x17,.d (Va 9)]) (.call none (.fn 66) [Vl (Va 0) x2,Va 3] [.agg x0,.cell .bool,.cell (.int .i64)] (.ite (.o2 .ne (Va 14) (Vn 0)) (.ret [.d x17,.d (Va 14)]) (.fact (.ite (.o1 .not (.o1 .not (Va 4))) (.o2 .le (.o1 .len (Va 12)) (Vn 140737488355328)) (.bool true)) (.ite (.ite (.o1 .not (Va 4)) (.bool true) (.o2 .eq (Va 8) (.o1 .len (Va 12)))) (.ret [.d (Vl (Va 10) x1),.d (Vn 0)]) (.guess (.bool true) (.ite (Va 15) (.guess (.bool true) (.ite (Va 16) (.call none (.fn 57) [Vl (Va 5) x10,.o2 (.add .i64) (Va 8) (Vn 1)] [.cell .fn] (.guess (.bool true) (.ite (Va 18) (.guess (.bool true) (.ite (Va 19) (.call none (.fn 57) [Vl (Va 10) x1,Va 8] [.cell .fn] (.guess (.bool true) (.ite (Va 21) (.call none (.fn 67) [Vl (Va 0) x2] [.cell (.slice x4),.cell (.int .i64)] (.call none (.fn 68) [Va 22,.clo 69 x20] [.cell (.slice x4)] (.call none (.fn 70) [Va 24,.clo 71 x9] [.cell (.slice x3)] (.call none (.fn 62) [Vl (Va 10) x1,Va 8,Va 25] [.agg x0,.cell (.int .i64)] (.call none (.fn 61) [Vl (Va 26) x12,Va 29] [.agg x0,.cell (.int .i64)] (.ret [.d x7,.d (Va 33)])))))) (.call none (.fn 67) [Vl (Va 0) x2] [.cell (.slice x4),.cell (.int .i64)] (.call none (.fn 68) [Va 22,.clo 69 x20] [.cell (.slice x4)] (.call none (.fn 70) [Va 24,.clo 71 x9] [.cell (.slice x3)] (.call none (.fn 62) [Vl (Va 10) x1,Va 8,Va 25] [.agg x0,.cell (.int .i64)] (.call none (.fn 61) [Vl (Va 26) x12,Va 29] [.agg x0,.cell (.int .i64)] (.ret [.d x7,.d (Va 33)]))))))))) (.guess (.bool true) (.ite (Va 20) (.call none (.fn 57) [Vl (Va 10) x1,Va 8] [.cell .fn] (.call none (.fn 67) [Vl (Va 0) x2] [.cell (.slice x4),.cell (.int .i64)] (.call none (.fn 68) [Va 22,.clo 69 x19] [.cell (.slice x4)] (.call none (.fn 70) [Va 24,.clo 71 x9] [.cell (.slice x3)] (.call none (.fn 62) [Vl (Va 10) x1,Va 8,Va 25] [.agg x0,.cell (.int .i64)] (.call none (.fn 61) [Vl (Va 26) x12,Va 29] [.agg x0,.cell (.int .i64)] (.ret [.d x7,.d (Va 33)]))))))) (.call none (.fn 57) [Vl (Va 10) x1,Va 8] [.cell .fn] (.call none (.fn 67) [Vl (Va 0) x2] [.cell (.slice x4),.cell (.int .i64)] (.call none (.fn 68) [Va 22,.clo 69 x19] [.cell (.slice x4)] (.call none (.fn 70) [Va 24,.clo 71 x9] [.cell (.slice x3)] (.call none (.fn 62) [Vl (Va 10) x1,Va 8,Va 25] [.agg x0,.cell (.int .i64)] (.call none (.fn 61) [Vl (Va 26) x12,Va 29] [.agg x0,.cell (.int .i64)] (.ret [.d x7,.d (Va 33)]))))))))))) (.guess (.bool true) (.ite (Va 19) (.call none (.fn 57) [Vl (Va 10) x1,Va 8] [.cell .fn] (.call none (.fn 67) [Vl (Va 0) x2] [.cell (.slice x4),.cell (.int .i64)] (.call none (.fn 68) [Va 21,.clo 69 x20] [.cell (.slice x4)] (.call none (.fn 70) [Va 23,.clo 71 x9] [.cell (.slice x3)] (.call none (.fn 62) [Vl (Va 10) x1,Va 8,Va 24] [.agg x0,.cell (.int .i64)] (.call none (.fn 61) [Vl (Va 25) x13,Va 28] [.agg x0,.cell (.int .i64)] (.ret [.d x8,.d (Va 32)]))))))) (.call none (.fn 57) [Vl (Va 10) x1,Va 8] [.cell .fn] (.call none (.fn 67) [Vl (Va 0) x2] [.cell (.slice x4),.cell (.int .i64)] (.call none (.fn 68) [Va 21,.clo 69 x20] [.cell (.slice x4)] (.call none (.fn 70) [Va 23,.clo 71 x9] [.cell (.slice x3)] (.call none (.fn 62) [Vl (Va 10) x1,Va 8,Va 24] [.agg x0,.cell (.int .i64)] (.call none (.fn 61) [Vl (Va 25) x13,Va 28] [.agg x0,.cell (.int .i64)] (.ret [.d x8,.d (Va 32)])))))))))))) (.guess (.bool true) (.ite (Va 17) (.call none (.fn 57) [Vl (Va 5) x10,.o2 (.add .i64) (Va 8) (Vn 1)] [.cell .fn] (.guess (.bool true) (.ite (Va 19) (.call none (.fn 57) [Vl (Va 10) x1,Va 8] [.cell .fn] (.call none (.fn 67) [Vl (Va 0) x2] [.cell (.slice x4),.cell (.int .i64)] (.call none (.fn 68) [Va 21,.clo 69 (Vl (.ptr x18) x6)] [.cell (.slice x4)] (.call none (.fn 70) [Va 23,.clo 71 x11] [.cell (.slice x3)] (.call none (.fn 62) [Vl (Va 10) x1,Va 8,Va 24] [.agg x0,.cell (.int .i64)] (.call none (.fn 61) [Vl (Va 25) x13,Va 28] [.agg x0,.cell (.int .i64)] (.ret [.d x8,.d (Va 32)]))))))) (.call none (.fn 57) [Vl (Va 10) x1,Va 8] [.cell .fn] (.call none (.fn 67) [Vl (Va 0) x2] [.cell (.slice x4),.cell (.int .i64)] (.call none (.fn 68) [Va 21,.clo 69 (Vl (.ptr x18) x6)] [.cell (.slice x4)] (.call none (.fn 70) [Va 23,.clo 71 x11] [.cell (.slice x3)] (.call none (.fn 62) [Vl (Va 10) x1,Va 8,Va 24] [.agg x0,.cell (.int .i64)] (.call none (.fn 61) [Vl (Va 25) x13,Va 28] [.agg x0,.cell (.int .i64)] (.ret [.d x8,.d (Va 32)])))))))))) (.call none (.fn 57) [Vl (Va 5) x10,.o2 (.add .i64) (Va 8) (Vn 1)] [.cell .fn] (.call none (.fn 57) [Vl (Va 10) x1,Va 8] [.cell .fn] (.call none (.fn 67) [Vl (Va 0) x2] [.cell (.slice x4),.cell (.int .i64)] (.call none (.fn 68) [Va 20,.clo 69 (Vl (.ptr x18) x15)] [.cell (.slice x4)] (.call none (.fn 70) [Va 22,.clo 71 x11] [.cell (.slice x3)] (.call none (.fn 62) [Vl (Va 10) x1,Va 8,Va 23] [.agg x0,.cell (.int .i64)] (.call none (.fn 61) [Vl (Va 24) x16,Va 27] [.agg x0,.cell (.int .i64)] (.ret [.d x14,.d (Va 31)])))))))))))) (.guess (.bool true) (.ite (Va 16) (.call none (.fn 57) [Vl (Va 5) x10,.o2 (.add .i64) (Va 8) (Vn 1)] [.cell .fn] (.guess (.bool true) (.ite (Va 18) (.call none (.fn 57) [Vl (Va 10) x1,Va 8] [.cell .fn] (.call none (.fn 67) [Vl (Va 0) x2] [.cell (.slice x4),.cell (.int .i64)] (.call none (.fn 68) [Va 20,.clo 69 (Vl (.ptr x5) x15)] [.cell (.slice x4)] (.call none (.fn 70) [Va 22,.clo 71 x9] [.cell (.slice x3)] (.call none (.fn 62) [Vl (Va 10) x1,Va 8,Va 23] [.agg x0,.cell (.int .i64)] (.call none (.fn 61) [Vl (Va 24) x16,Va 27] [.agg x0,.cell (.int .i64)] (.ret [.d x14,.d (Va 31)]))))))) (.call none (.fn 57) [Vl (Va 10) x1,Va 8] [.cell .fn] (.call none (.fn 67) [Vl (Va 0) x2] [.cell (.slice x4),.cell (.int .i64)] (.call none (.fn 68) [Va 20,.clo 69 (Vl (.ptr x5) x15)] [.cell (.slice x4)] (.call none (.fn 70) [Va 22,.clo 71 x9] [.cell (.slice x3)] (.call none (.fn 62) [Vl (Va 10) x1,Va 8,Va 23] [.agg x0,.cell (.int .i64)] (.call none (.fn 61) [Vl (Va 24) x16,Va 27] [.agg x0,.cell (.int .i64)] (.ret [.d x14,.d (Va 31)])))))))))) (.call none (.fn 57) [Vl (Va 5) x10,.o2 (.add .i64) (Va 8) (Vn 1)] [.cell .fn] (.call none (.fn 57) [Vl (Va 10) x1,Va 8] [.cell .fn] (.call none (.fn 67) [Vl (Va 0) x2] [.cell (.slice x4),.cell (.int .i64)] (.call none (.fn 68) [Va 19,.clo 69 (Vl (.ptr x5) x11)] [.cell (.slice x4)] (.call none (.fn 70) [Va 21,.clo 71 x9] [.cell (.slice x3)] (.call none (.fn 62) [Vl (Va 10) x1,Va 8,Va 22] [.agg x0,.cell (.int .i64)] (.call none (.fn 61) [Vl (Va 23) (Vl (Va 24) (Vl (Va 25) .lnil)),Va 26] [.agg x0,.cell (.int .i64)] (.ret [.d (Vl (Va 27) (Vl (Va 28) (Vl (Va 29) .lnil))),.d (Va 30)])))))))))))))))))
theorem Zgq:fnO Tryz.prog mdA 17 [.agg liKs,.cell .str,.cell .bool]=t17:=by kernel_rfl
noncomputable def t69:R:=.call none (.val (.fld (Va 2) 0 .fn)) [Vl (Va 0) (Vl (Va 1) .lnil)] [.agg [.int .i64,.int .i64]] (.call none (.val (.fld (Va 3) 0 .fn)) [Vl (Va 0) (Vl (Va 1) .lnil)] [.agg [.int .i64,.int .i64]] (.ret [.d (.o1 .not (.o2 .band (.o2 .eq (Va 4) (Va 6)) (.o2 .band (.o2 .eq (Va 5) (Va 7)) (.bool true))))]))
theorem ZfL:fnO Tryz.prog mdA 69 ([.agg [.int .i64,.int .i64]]++[.cell (.ptr [.fn]),.cell (.ptr [.fn])])=t69:=by kernel_rfl
theorem c69:J2 Tryz.prog 69=true:=by kernel_rfl
noncomputable def t71:R:=.call none (.val (.fld (Va 2) 0 .fn)) [Vl (Va 0) (Vl (Va 1) .lnil)] [.agg [.int .i64,.int .i64]] (.ret [.d (Vl (Va 0) (Vl (Va 1) (Vl (Va 3) (Vl (Va 4) .lnil))))])
theorem ZfJ:fnO Tryz.prog mdA 71 ([.agg [.int .i64,.int .i64]]++[.cell (.ptr [.fn])])=t71:=by kernel_rfl
theorem c71:J2 Tryz.prog 71=true:=by kernel_rfl
theorem Zfe:Contract Tryz.prog 69 fun args K=>∃(p:Par) (f g:FuncId) (cf cg:List D) (V W:Par→Val),p.Ok∧(V p).Ok∧(W p).Ok∧Z11 (.clo f cf) V∧Z11 (.clo g cg) W∧args=[.agg p.enc,.ptr [.clo f cf],.ptr [.clo g cg]]∧K [.d (.bool (decide (V p≠W p)))]:=by
 refine .of c69 ZfL ?_;rintro _ K ⟨p,f,g,cf,cg,V,W,hp,hv,hw,⟨sf,hf,hs⟩,⟨sg,hg,hsg⟩,rfl,hK⟩ hsm;refine⟨p.enc++[.ptr [.clo f cf],.ptr [.clo g cg]],rfl,by exact(Par.has hp).append (show HasKs [.ptr [.fn],.ptr [.fn]] [.ptr [.clo f cf],.ptr [.clo g cg]]from⟨⟨trivial,trivial⟩,⟨trivial,trivial⟩,trivial⟩),?_⟩;refine Y7 (FvC.up' (s:=sf) (fv:=.clo f cf) hf) ⟨fun rs=>rs=[.d (.agg (V p).enc)],?_,fun rs h=>⟨(V p).enc,by rw [h];rfl,⟨Y3 hv.1,Y3 hv.2,trivial⟩,?_⟩⟩
 · simp only [zz,reduceCtorEq,Par.enc];exact hs p hp
 refine Y7 (FvC.up' (s:=sg) (fv:=.clo g cg) hg) ⟨fun rs=>rs=[.d (.agg (W p).enc)],?_,fun rs h=>⟨(W p).enc,by rw [h];rfl,⟨Y3 hw.1,Y3 hw.2,trivial⟩,?_⟩⟩
 · simp only [zz,reduceCtorEq,Par.enc];exact hsg p hp
 simp only [zz,reduceCtorEq,Par.enc,Val.enc];have e:decide (V p≠W p)=!(decide ((V p).pal=(W p).pal)&&(decide ((V p).lev=(W p).lev)&&true)):=by
   rw [Bool.eq_iff_iff];simp [Z4r]
 rw [e]at hK;simpa using hK
theorem Zba {f g:FuncId} {cf cg:List D} {V W:Par→Val} (hV:Z11 (.clo f cf) V) (hW:Z11 (.clo g cg) W) {ps:List Par} (hps:∀p∈ps,p.Ok) (hv:∀p,(V p).Ok) (hw:∀p,(W p).Ok):
   JB Tryz.prog (.clo 69 [.ptr [.clo f cf],.ptr [.clo g cg]]) Par.enc ps fun p=>decide (V p≠W p):=by
 refine⟨fun as_ K=>∃p:Par,p.Ok∧as_=[.agg p.enc]∧K [.d (.bool (decide (V p≠W p)))],FvC.of c69 Zfe ?_,fun p hp=>⟨p,hps p hp,rfl,rfl⟩⟩;rintro _ K ⟨p,hp,rfl,hK⟩;refine⟨⟨p,f,g,cf,cg,V,W,hp,hv p,hw p,hV,hW,rfl,hK⟩,W5 [some (.agg paKs)] (by kernel_rfl) ?_⟩;intro i rk d h1 h2;cases i with
 |zero=>simp at h1 h2;subst h1 h2;exact Par.has hp
 |succ i=>simp at h1
theorem Zfc:Contract Tryz.prog 71 fun args K=>∃(p:Par) (f:FuncId) (caps:List D) (W:Par→Val),p.Ok∧(W p).Ok∧Z11 (.clo f caps) W∧args=[.agg p.enc,.ptr [.clo f caps]]∧K [.d (.agg (Ent.enc ⟨p,W p⟩))]:=by
 refine .of c71 ZfJ ?_;rintro _ K ⟨p,f,caps,W,hp,hw,⟨sf,hf,hs⟩,rfl,hK⟩ hsm;refine⟨p.enc++[.ptr [.clo f caps]],rfl,by exact(Par.has hp).append (show HasKs [.ptr [.fn]] [.ptr [.clo f caps]]from⟨⟨trivial,trivial⟩,trivial⟩),?_⟩;refine Y7 (FvC.up' (s:=sf) (fv:=.clo f caps) hf) ⟨fun rs=>rs=[.d (.agg (W p).enc)],?_,fun rs h=>⟨(W p).enc,by rw [h];rfl,⟨Y3 hw.1,Y3 hw.2,trivial⟩,?_⟩⟩
 · simp only [zz,reduceCtorEq,Par.enc];exact hs p hp
 · simp only [zz,reduceCtorEq,Par.enc,Val.enc];exact hK
theorem Zb9 {f:FuncId} {caps:List D} {W:Par→Val} (h:Z11 (.clo f caps) W) {ps:List Par} (hps:∀p∈ps,p.Ok) (hW:∀p,(W p).Ok):
   Z60 Tryz.prog (.clo 71 [.ptr [.clo f caps]]) Par.enc Ent.enc ps fun p=>⟨p,W p⟩:=by
 refine⟨fun as_ K=>∃p:Par,p.Ok∧as_=[.agg p.enc]∧K [.d (.agg (Ent.enc ⟨p,W p⟩))],FvC.of c71 Zfc ?_,fun p hp=>⟨p,hps p hp,rfl,rfl⟩⟩;rintro _ K ⟨p,hp,rfl,hK⟩;refine⟨⟨p,f,caps,W,hp,hW p,h,rfl,hK⟩,W5 [some (.agg paKs)] (by kernel_rfl) ?_⟩;intro i rk d h1 h2;cases i with
 |zero=>simp at h1 h2;subst h1 h2;exact Par.has hp
 |succ i=>simp at h1
theorem ZcL {l:Lis} {s:List UInt8} (h:Yg l s=0):Z6 Y2 l=0:=by
 unfold Yg at h;split at h
 · contradiction
 · rename_i h1;simpa using h1
structure Around (l:Lis) (s:List UInt8) (A:List Cue) (c:Cue) (B:List Cue):Prop where
 ck:Z6 Y2 l=0
 num:J3 s=0
 eq:l.cues=A++c::B
 n:upto l s=A.length+1
 cn:c.num=s
 wo:without l.cues s=A++B
 rt:RightT l
 sp:Split l.cues s A [c] B
theorem Z0o {l:Lis} {s:List UInt8} (hl:l.Ok) (h:Yg l s=0):∃A c B,Around l s A c B:=by
 obtain⟨hRT,hs,hp0,hp1,hp2,hp3⟩:=Jt hl h;have hck:=ZcL h;have hRL:=Wb hck;obtain⟨A,X,B,hS⟩:=Z5v hs hRL.rising hRL.num;rcases hS.place with⟨rfl,hp⟩|⟨c,rfl,hc,hp⟩
 · omega
 · exact⟨A,c,B,hck,hs,by rw [hS.eq];simp,by omega,hc,hS.without,hRT,hS⟩
theorem Z7X {l:Lis} {A B:List Cue} {c:Cue} (h:Z6 Y2 l=0) (he:l.cues=A++c::B):Z6 Y2 {l with cues:=A++B}=0:=by
 have hRL:=Wb h;refine Z0z (by exact Z2Z (l:=l) h) ?_ (fun x hx=>hRL.cues x ?_) ?_
 · have:=hRL.len;rw [he]at this;simp at this ⊢;omega
 · rw [he];simp at hx ⊢;rcases hx with hx|hx <;> simp [hx]
 · have hr:=hRL.rising;rw [he]at hr;refine hr.sublist ?_;exact List.Sublist.append_left (List.sublist_cons_self c B) A
theorem WN {l:Lis} {s:List UInt8} {A B:List Cue} {c:Cue} (h:Around l s A c B) (keep:Bool):
   Z0k l.cues s keep=match B with| []=>A|d::B'=>if keep=false then A++d::B' else A++setC d (Je l.cues (A++d::B') (A.length+1)) 1::B':=by
 have hn:upto ⟨0,0,l.cues⟩ s=A.length+1:=h.n;unfold Z0k;rw [hn,h.wo,h.eq];cases B with
 |nil=>simp
 | cons d B'=>
   simp only;cases keep with
   |false=>simp
   | true=>
     rw [if_neg (by simp),if_neg (by simp),Nat.add_sub_cancel,Z2A]
theorem Z2J {l:Lis} {s:List UInt8} {A B:List Cue} {c:Cue} (h:Around l s A c B) (keep:Bool) (hk:∀d B',B=d::B'→keep=true→(setC d (Je l.cues (A++d::B') (A.length+1)) 1).moves.length≤128):
   JF {l with cues:=Z0k l.cues s keep}=({l with cues:=Z0k l.cues s keep},0):=by
 have hRL:=Wb h.ck;have hl:l.cues.length=A.length+B.length+1:=by rw [h.eq];simp;omega
 have h64:=hRL.len;have hm:∀x∈l.cues,x.moves.length≤128:=fun x hx=>(Z00 (hRL.cues x hx)).len
 have hA:∀x∈A,x.moves.length≤128:=fun x hx=>hm x (by rw [h.eq];simp [hx])
 have hB:∀x∈B,x.moves.length≤128:=fun x hx=>hm x (by rw [h.eq];simp [hx])
 refine WO ?_ fun x hx=>?_
 · show(Z0k l.cues s keep).length≤64;rw [WN h];cases B with
   |nil=>simp at hl ⊢;omega
   | cons d B'=>
     simp only;split <;> simp at hl ⊢ <;> omega
 · have hx:x∈Z0k l.cues s keep:=hx;rw [WN h]at hx;cases B with
   |nil=>exact hA x hx
   | cons d B'=>
     simp only at hx;split at hx
     · rcases List.mem_append.1 hx with hx|hx
       · exact hA x hx
       · exact hB x hx
     · rename_i hkp;rcases List.mem_append.1 hx with hx|hx
       · exact hA x hx
       rcases List.mem_cons.1 hx with rfl|hx
       · exact hk d B' rfl (by simpa using hkp)
       · exact hB x (by simp [hx])
set_option maxHeartbeats 4000000 in
theorem Z9z:Contract Tryz.prog 17 fun args K=>∃(l:Lis) (s:List UInt8) (keep:Bool),l.Ok∧args=[.agg l.enc,.str s,.bool keep]∧K [.d (.agg (Z3T l s keep).1.enc),.d (.int .i64 (Z3T l s keep).2)]:=by
 refine .of (by kernel_rfl) Zgq ?_;rintro _ K ⟨l,s,keep,hl,rfl,hK⟩ hsm;refine⟨l.enc++[.str s,.bool keep],rfl,by exact(Lis.has hl).append (show HasKs [.str,.bool] [.str s,.bool keep]from⟨trivial,trivial,trivial⟩),?_⟩;unfold Z3T at hK;refine Z0 Z0t ⟨l,s,hl,by simp only [zz,reduceCtorEq,Lis.enc],_,rfl,?_⟩;rcases Decidable.em (Yg l s=0)with h1|h1
 rotate_left
 · rw [if_pos h1]at hK;refine Z4 (by simp only [zz,reduceCtorEq,Lis.enc,h1]) ?_;simp only [zz,reduceCtorEq,Lis.enc];exact hK
 rw [if_neg (by simpa using h1)]at hK;rw [h1];refine W3 (by simp only [zz,reduceCtorEq,Lis.enc]) ?_;obtain⟨A,c,B,hA⟩:=Z0o hl h1;have hg0:=YR hA.ck hA.num;have hpl:place l.cues s=(A.length:Int):=by
   have:=(Jt hl h1).2.2.2.1;rw [this,hA.n];simp
 have hf1:(Yr l s).1=(A.length:Int):=by
   unfold Yr;rw [if_neg (by simp [hg0])];simp only [hpl];rw [if_neg (by omega)]
 have hdr:Z3Q l s=({l with cues:=A++B},true,0):=by
   unfold Z3Q;rw [if_neg (by simp [hg0]),hA.wo,hpl];simp
 rw [hf1];refine Z0 Zb1 ⟨l,s,hl,by simp only [zz,reduceCtorEq,Lis.enc],_,rfl,?_⟩;rw [hdr];refine W3 (by simp only [zz,reduceCtorEq,Lis.enc]) ?_;have hcl:l.cues.length=A.length+B.length+1:=by rw [hA.eq];simp;omega
 have hlen64:=hA.rt.len;intro _;have hda:=WN hA keep;have hRL:=Wb hA.ck;rcases Decidable.em (keep=false∨B=[])with h2|h2
 · refine Z4 (by
     rcases h2 with rfl|rfl
     · simp only [zz,reduceCtorEq,Lis.enc]
     · cases keep <;> simp only [zz,reduceCtorEq,Lis.enc,List.length_map,List.append_nil]) ?_
   have hd2:Z0k l.cues s keep=A++B:=by
     rw [hda];rcases h2 with rfl|rfl
     · cases B <;> simp
     · simp
   rw [Z2J hA keep (fun d B' hB hk=>by rcases h2 with h2|h2 <;> simp_all),hd2]at hK;simp only [zz,reduceCtorEq,Lis.enc];simpa [Lis.enc]using hK
 have hkp:keep=true:=by cases keep <;> simp_all
 subst hkp;have hBne:B≠[]:=fun e=>h2 (.inr e)
 obtain⟨d,B',rfl⟩:∃d B',B=d::B':=by cases B with|nil=>exact absurd rfl hBne|cons d B'=>exact⟨d,B',rfl⟩
 refine W3 (by simp only [zz,reduceCtorEq,Lis.enc,List.length_map,List.length_append,List.length_cons];simp;omega) ?_;simp only [Bool.true_eq_false,if_false]at hda;have hck2:=Z7X hA.ck hA.eq;have hout:Lis.Ok {l with cues:=A++d::B'}:= {hl with cues:=fun x hx=>hl.cues x (by rw [hA.eq];simp at hx ⊢;rcases hx with h|h|h <;> simp [h])}
 have hRT2:=Zo hout hck2;have hV:∀p,(J4 l.cues p (A.length+1+1)).Ok:=fun p=>YD hA.rt p _
 have hW:∀p,(J4 (A++d::B') p (A.length+1)).Ok:=fun p=>YD hRT2 p _
 have hps:∀p∈J9 l.cues,p.Ok:=fun p hp=>(ZG hA.rt p hp).1
 have hml:=WG hA.rt;have hd16:J5 d=0:=hRL.cues d (by rw [hA.eq];simp);have hdo:d.Ok:=hl.cues d (by rw [hA.eq];simp);have hcR:=Z4o hl hA.ck (A++d::B') (A.length+1);have hcw:Je l.cues (A++d::B') (A.length+1)=((J9 l.cues).filter fun p=>decide (J4 l.cues p (A.length+1+1)≠J4 (A++d::B') p (A.length+1))).map fun p=>(⟨p,J4 l.cues p (A.length+1+1)⟩:Ent):=rfl
 have hfoot:Z6Q l=(J9 l.cues,0):=by unfold Z6Q;rw [if_neg (by simp [hA.ck])]
 have hcOk:∀e∈Je l.cues (A++d::B') (A.length+1),e.Ok:=fun e he=>by
   rw [hcw]at he;obtain⟨x,hx,rfl⟩:=List.mem_map.1 he;exact⟨hps x (List.mem_filter.1 hx).1,hV _⟩
 have hwA:wr64 ((A.length:Int)+1)=(A.length:Int)+1:=Z1 (by omega);have hog:(A++d::B')[A.length]'(by simp)=d:=by simp
 have hg:ZN {l with cues:=A++d::B'} A.length ((A++d::B')[A.length]'(by simp)) (Je l.cues (A++d::B') (A.length+1))=
     if 128 < (setC d (Je l.cues (A++d::B') (A.length+1)) 1).moves.length then(zeroL,5)else({l with cues:=A++setC d (Je l.cues (A++d::B') (A.length+1)) 1::B'},0):=by
   unfold ZN;rw [hog,Z17 hd16 hcR];by_cases h:128 < (setC d (Je l.cues (A++d::B') (A.length+1)) 1).moves.length
   · simp only [h,if_true];rfl
   · simp only [h,if_false];have:(A++d::B').set A.length (setC d (Je l.cues (A++d::B') (A.length+1)) 1)=A++setC d (Je l.cues (A++d::B') (A.length+1)) 1::B':=by
       rw [List.set_append_right _ _ (Nat.le_refl _)];simp
     rw [this];rfl
 have hgOk:(ZN {l with cues:=A++d::B'} A.length ((A++d::B')[A.length]'(by simp)) (Je l.cues (A++d::B') (A.length+1))).1.Ok∧I64 (ZN {l with cues:=A++d::B'} A.length ((A++d::B')[A.length]'(by simp)) (Je l.cues (A++d::B') (A.length+1))).2:=by
   rw [hg];split
   · exact⟨Z2R,show I64 5 from⟨by decide,by decide⟩⟩
   · refine⟨{hl with cues:=fun x hx=>?_},show I64 0 from⟨by decide,by decide⟩⟩;rcases List.mem_append.1 hx with hx|hx
     · exact hout.cues x (by simp [hx])
     rcases List.mem_cons.1 hx with rfl|hx
     · exact YM hdo hcOk ⟨by decide,by decide⟩
     · exact hout.cues x (by simp [hx])
 have hfin:K [.d (.agg (if 128 < (setC d (Je l.cues (A++d::B') (A.length+1)) 1).moves.length then zeroL else {l with cues:=A++setC d (Je l.cues (A++d::B') (A.length+1)) 1::B'}).enc),.d (.int .i64 (if 128 < (setC d (Je l.cues (A++d::B') (A.length+1)) 1).moves.length then 5 else 0))]:=by
   split
   · rename_i h;rw [YJ (c:=setC d (Je l.cues (A++d::B') (A.length+1)) 1) (by rw [hda];simp) h]at hK;exact hK
   · rename_i h;rw [Z2J hA true (fun d' B'' hB _=>by cases hB;omega),hda]at hK;exact hK
 clear hK
 repeat' refine fun _ _=>⟨fun _=>?_,fun _=>?_⟩
 all_goals
   refine Z0 Z01 ⟨l,A.length+1+1,hl,hA.ck,by rw [hcl];simp <;> omega,by simp only [zz,reduceCtorEq,Lis.enc,hwA];simp,fun f1 cf1 hsv1=>⟨_,rfl,?_⟩⟩
   repeat' refine fun _ _=>⟨fun _=>?_,fun _=>?_⟩
 all_goals
   refine Z0 Z01 ⟨{l with cues:=A++d::B'},A.length+1,hout,hck2,by show A.length+1≤(A++d::B').length;simp,by simp only [zz,reduceCtorEq,Lis.enc];simp,fun f2 cf2 hsv2=>⟨_,rfl,?_⟩⟩
   repeat' refine fun _ _=>⟨fun _=>?_,fun _=>?_⟩
 all_goals
   refine Z0 Z5S ⟨l,hl,by simp only [zz,reduceCtorEq,Lis.enc],?_⟩;rw [hfoot];refine⟨_,rfl,?_⟩;refine Z0 Z6R ⟨J9 l.cues,fun p=>decide (J4 l.cues p (A.length+1+1)≠J4 (A++d::B') p (A.length+1)),69,[.ptr [.clo f1 cf1],.ptr [.clo f2 cf2]],hps,by omega,by simp only [zz,reduceCtorEq,Lis.enc],Zba hsv1 hsv2 hps hV hW,_,rfl,?_⟩;refine Z0 Z9g ⟨(J9 l.cues).filter fun p=>decide (J4 l.cues p (A.length+1+1)≠J4 (A++d::B') p (A.length+1)),fun p=>⟨p,J4 l.cues p (A.length+1+1)⟩,71,[.ptr [.clo f1 cf1]],fun p hp=>hps p (List.mem_filter.1 hp).1,fun p hp=>⟨hps p (List.mem_filter.1 hp).1,hV p⟩,
     by have:=List.length_filter_le (fun p=>decide (J4 l.cues p (A.length+1+1)≠J4 (A++d::B') p (A.length+1))) (J9 l.cues);omega,by simp only [zz,reduceCtorEq,Lis.enc],Zb9 hsv1 (fun p hp=>hps p (List.mem_filter.1 hp).1) hV,_,rfl,?_⟩
   rw [←hcw];refine Z0 Z3K ⟨{l with cues:=A++d::B'},A.length,Je l.cues (A++d::B') (A.length+1),by show A.length < (A++d::B').length;simp,hout,hcOk,by have:=hRT2.len;omega,by simp only [zz,reduceCtorEq,Lis.enc],?_⟩;refine⟨_,rfl,?_⟩;refine Z0 Z2T ⟨_,_,hgOk.1,hgOk.2,by simp only [zz,reduceCtorEq,Lis.enc],_,rfl,?_⟩;rw [hg];by_cases h8:128 < (setC d (Je l.cues (A++d::B') (A.length+1)) 1).moves.length
   · rw [if_pos h8];rw [if_pos h8,if_pos h8]at hfin;simp only [zz,reduceCtorEq,Lis.enc];exact hfin
   · rw [if_neg h8];rw [if_neg h8,if_neg h8]at hfin;simp only [zz,reduceCtorEq,Lis.enc];exact hfin
noncomputable def t99:R:=let x0:T:=.o1 .not (.o2 .band (.o2 .eq (Va 2) (Va 6)) (.o2 .band (.o2 .eq (Va 3) (Va 7)) (.bool true)));.call none (.fn 100) [] [.agg [.int .i64,.int .i64]] (.call (some x0) (.fn 60) [Vl (.fld (Va 4) 0 (.int .i64)) (Vl (.fld (Va 4) 1 (.int .i64)) (Vl (.fld (Va 4) 2 (.slice Ja)) .lnil)),.fld (Va 5) 0 (.int .i64),Vl (Va 0) (Vl (Va 1) .lnil)] [.cell .bool] (.ret [.d (.ite x0 (.o1 .not (Va 8)) (.bool false))]))
theorem Zfs:fnO Tryz.prog mdA 99 ([.agg enKs]++[.cell (.ptr liKs),.cell (.ptr [.int .i64])])=t99:=by kernel_rfl
theorem c99:J2 Tryz.prog 99=true:=by kernel_rfl
noncomputable def t39:R:=let x2:T:=Vl (Vn 0) (Vl (Vn 0) (Vl .nils .lnil));let x4:List K:=tmKs;let x5:T:=Vl (Va 5) (Vl (Va 6) .lnil);let x6:List K:=mvKs;let x7:List K:=enKs;let x8:T:=.o2 .le (Vn 0) (Va 7);let x9:T:=Vl (Va 19) (Vl (Va 20) (Vl (Va 21) .lnil));let x10:T:=Vl (Va 16) (Vl (Va 17) .lnil);let x11:T:=Vl (Va 1) (Vl (Va 2) .lnil);let x12:T:=.o2 .lt (Va 7) (.o1 .len (Va 17));let x13:T:=.o2 .ne (Va 18) (Vn 0);let x14:T:=.idx (Va 17) (Va 7) 0 .str;let x0:List K:=[.int .i64,.int .i64,.slice [.str,.str,.slice x6,.slice x4,.bool,.bool,.int .i64,.str,.int .i64]];let x1:T:=Vl (.idx (Va 17) (Va 7) 1 .str) (Vl (.idx (Va 17) (Va 7) 2 (.slice x6)) (Vl (.idx (Va 17) (Va 7) 3 (.slice x4)) (Vl (.bool true) (Vl (.idx (Va 17) (Va 7) 5 .bool) (Vl (.idx (Va 17) (Va 7) 6 (.int .i64)) (Vl (.idx (Va 17) (Va 7) 7 .str) (Vl (.idx (Va 17) (Va 7) 8 (.int .i64)) .lnil)))))));let x3:T:=Vl (.ptr (Vl (Va 4) x5)) (Vl (.ptr (Vl (Va 7) .lnil)) .lnil);.call none (.fn 65) [Vl (Va 0) x11,Va 3] [.agg x0,.cell (.int .i64),.cell (.int .i64)] (.ite (.o2 .ne (Va 8) (Vn 0)) (.ret [.d x2,.d (Va 8)]) (.call none (.fn 18) [Vl (Va 0) x11,Va 3] [.cell (.slice x7),.cell (.int .i64)] (.guess (.bool true) (.ite (Va 11) (.guess (.bool true) (.ite (Va 12) (.call none (.fn 58) [Va 9,.clo 99 x3] [.cell (.slice x7)] (.guess (.bool true) (.ite (Va 14) (.call none (.fn 62) [Vl (Va 4) x5,Va 7,Va 13] [.agg x0,.cell (.int .i64)] (.ite x13 (.ret [.d x2,.d (Va 18)]) (.need x8 (.need x12 (.call none (.fn 90) [Vl (Va 15) x10,Va 7,Vl x14 x1] [.agg x0] (.ret [.d x9,.d (Vn 0)])))))) (.call none (.fn 62) [Vl (Va 4) x5,Va 7,Va 13] [.agg x0,.cell (.int .i64)] (.ite x13 (.ret [.d x2,.d (Va 18)]) (.need x8 (.need x12 (.call none (.fn 90) [Vl (Va 15) x10,Va 7,Vl x14 x1] [.agg x0] (.ret [.d x9,.d (Vn 0)]))))))))) (.call none (.fn 58) [Va 9,.clo 99 x3] [.cell (.slice x7)] (.call none (.fn 62) [Vl (Va 4) x5,Va 7,Va 13] [.agg x0,.cell (.int .i64)] (.ite (.o2 .ne (Va 17) (Vn 0)) (.ret [.d x2,.d (Va 17)]) (.need x8 (.need (.o2 .lt (Va 7) (.o1 .len (Va 16))) (.call none (.fn 90) [Vl (Va 14) (Vl (Va 15) (Vl (Va 16) .lnil)),Va 7,Vl (.idx (Va 16) (Va 7) 0 .str) (Vl (.idx (Va 16) (Va 7) 1 .str) (Vl (.idx (Va 16) (Va 7) 2 (.slice x6)) (Vl (.idx (Va 16) (Va 7) 3 (.slice x4)) (Vl (.bool true) (Vl (.idx (Va 16) (Va 7) 5 .bool) (Vl (.idx (Va 16) (Va 7) 6 (.int .i64)) (Vl (.idx (Va 16) (Va 7) 7 .str) (Vl (.idx (Va 16) (Va 7) 8 (.int .i64)) .lnil))))))))] [.agg x0] (.ret [.d (Vl (Va 18) (Vl (Va 19) (Vl (Va 20) .lnil))),.d (Vn 0)]))))))))) (.call none (.fn 58) [Va 9,.clo 99 x3] [.cell (.slice x7)] (.call none (.fn 62) [Vl (Va 4) x5,Va 7,Va 12] [.agg x0,.cell (.int .i64)] (.ite (.o2 .ne (Va 16) (Vn 0)) (.ret [.d x2,.d (Va 16)]) (.need x8 (.need (.o2 .lt (Va 7) (.o1 .len (Va 15))) (.call none (.fn 90) [Vl (Va 13) (Vl (Va 14) (Vl (Va 15) .lnil)),Va 7,Vl (.idx (Va 15) (Va 7) 0 .str) (Vl (.idx (Va 15) (Va 7) 1 .str) (Vl (.idx (Va 15) (Va 7) 2 (.slice x6)) (Vl (.idx (Va 15) (Va 7) 3 (.slice x4)) (Vl (.bool true) (Vl (.idx (Va 15) (Va 7) 5 .bool) (Vl (.idx (Va 15) (Va 7) 6 (.int .i64)) (Vl (.idx (Va 15) (Va 7) 7 .str) (Vl (.idx (Va 15) (Va 7) 8 (.int .i64)) .lnil))))))))] [.agg x0] (.ret [.d (Vl (Va 17) (Vl (Va 18) (Vl (Va 19) .lnil))),.d (Vn 0)])))))))))))
theorem Zgd:fnO Tryz.prog mdA 39 [.agg liKs,.cell .str]=t39:=by kernel_rfl
noncomputable def t174:R:=.call none (.val (.fld (Va 5) 0 .fn)) [Vl (Va 0) (Vl (Va 1) .lnil)] [.agg [.int .i64,.int .i64]] (.ret [.d (.o1 .not (.o2 .band (.o2 .eq (Va 2) (Va 6)) (.o2 .band (.o2 .eq (Va 3) (Va 7)) (.bool true))))])
theorem ZdJ:fnO Tryz.prog mdA 174 ([.agg mvKs]++[.cell (.ptr [.fn])])=t174:=by kernel_rfl
theorem c174:J2 Tryz.prog 174=true:=by kernel_rfl
noncomputable def t101:R:=.call none (.fn 173) [Va 0,.clo 174 (Vl (.ptr (Vl (Va 1) .lnil)) .lnil)] [.cell (.slice mvKs)] (.ret [.d (Va 2)])
theorem ZeB:fnO Tryz.prog mdA 101 [.cell (.slice mvKs),.cell .fn]=t101:=by kernel_rfl
noncomputable def t102:R:=let x0:T:=.o2 .band (.o2 .eq (Va 2) (Va 7)) (.o2 .band (.o2 .eq (Va 3) (Va 8)) (.bool true));let x1:T:=.o1 .not (.o2 .band (.o2 .eq (Va 9) (Va 11)) (.o2 .band (.o2 .eq (Va 10) (Va 12)) (.bool true)));let x2:List K:=[.int .i64,.int .i64];.call none (.fn 100) [] [.agg x2] (.call (some x0) (.val (.fld (Va 4) 0 .fn)) [Vl (Va 0) (Vl (Va 1) .lnil)] [.agg x2] (.call (some x0) (.fn 100) [] [.agg x2] (.call (some (.ite x0 x1 (.bool false))) (.fn 60) [Vl (.fld (Va 5) 0 (.int .i64)) (Vl (.fld (Va 5) 1 (.int .i64)) (Vl (.fld (Va 5) 2 (.slice Ja)) .lnil)),.fld (Va 6) 0 (.int .i64),Vl (Va 0) (Vl (Va 1) .lnil)] [.cell .bool] (.ret [.d (.ite (.ite x0 x1 (.bool false)) (.o1 .not (Va 13)) (.bool false))]))))
theorem ZeA:fnO Tryz.prog mdA 102 ([.agg enKs]++[.cell (.ptr [.fn]),.cell (.ptr liKs),.cell (.ptr [.int .i64])])=t102:=by kernel_rfl
theorem c102:J2 Tryz.prog 102=true:=by kernel_rfl
noncomputable def t40:R:=let x1:List K:=mvKs;let x2:List K:=tmKs;let x3:T:=Vl (Va 12) (Vl (Va 13) .lnil);let x4:T:=Vl (Va 1) (Vl (Va 2) .lnil);let x5:T:=Vl (Va 5) (Vl (Va 6) .lnil);let x6:List K:=enKs;let x0:List K:=[.int .i64,.int .i64,.slice [.str,.str,.slice x1,.slice x2,.bool,.bool,.int .i64,.str,.int .i64]];.call none (.fn 65) [Vl (Va 0) x4,Va 3] [.agg x0,.cell (.int .i64),.cell (.int .i64)] (.ite (.o2 .ne (Va 8) (Vn 0)) (.ret [.d (Vl (Vn 0) (Vl (Vn 0) (Vl .nils .lnil))),.d (Va 8)]) (.call none (.fn 57) [Vl (Va 4) x5,.o2 (.sub .i64) (Va 7) (Vn 1)] [.cell .fn] (.need (.o2 .le (Vn 0) (Va 7)) (.need (.o2 .lt (Va 7) (.o1 .len (Va 6))) (.call none (.fn 101) [.idx (Va 6) (Va 7) 2 (.slice x1),Va 9] [.cell (.slice x1)] (.call none (.fn 90) [Vl (Va 4) x5,Va 7,Vl (.idx (Va 6) (Va 7) 0 .str) (Vl (.idx (Va 6) (Va 7) 1 .str) (Vl (Va 10) (Vl (.idx (Va 6) (Va 7) 3 (.slice x2)) (Vl (.bool false) (Vl (.idx (Va 6) (Va 7) 5 .bool) (Vl (.idx (Va 6) (Va 7) 6 (.int .i64)) (Vl (.idx (Va 6) (Va 7) 7 .str) (Vl (.idx (Va 6) (Va 7) 8 (.int .i64)) .lnil))))))))] [.agg x0] (.call none (.fn 18) [Vl (Va 0) x4,Va 3] [.cell (.slice x6),.cell (.int .i64)] (.call none (.fn 58) [Va 14,.clo 102 (Vl (.ptr (Vl (Va 9) .lnil)) (Vl (.ptr (Vl (Va 11) x3)) (Vl (.ptr (Vl (Va 7) .lnil)) .lnil)))] [.cell (.slice x6)] (.call none (.fn 62) [Vl (Va 11) x3,Va 7,Va 16] [.agg x0,.cell (.int .i64)] (.call none (.fn 61) [Vl (Va 17) (Vl (Va 18) (Vl (Va 19) .lnil)),Va 20] [.agg x0,.cell (.int .i64)] (.ret [.d (Vl (Va 21) (Vl (Va 22) (Vl (Va 23) .lnil))),.d (Va 24)])))))))))))
theorem Zgc:fnO Tryz.prog mdA 40 [.agg liKs,.cell .str]=t40:=by kernel_rfl
theorem Zcd (v:Val):(!(decide (v.pal= -1)&&(decide (v.lev=0)&&true)))=decide (v≠hval):=by
 rw [Bool.eq_iff_iff];simp [Z4r,hval]
theorem Zfl:Contract Tryz.prog 99 fun args K=>∃(e:Ent) (l:Lis) (i:Nat) (hi:i < l.cues.length),e.Ok∧l.Ok∧l.cues.length≤1000000∧args=[.agg e.enc,.ptr l.enc,.ptr [.int .i64 i]]∧K [.d (.bool (decide (e.va≠hval)&&!W8 e.pa l.cues[i]))]:=by
 refine .of c99 Zfs ?_;rintro _ K ⟨e,l,i,hi,he,hl,hlen,rfl,hK⟩ hsm;refine⟨e.enc++[.ptr l.enc,.ptr [.int .i64 (i:Nat)]],rfl,by exact(Ent.has he).append (show HasKs [.ptr liKs,.ptr [.int .i64]] [.ptr l.enc,.ptr [.int .i64 (i:Nat)]]from⟨Lis.has hl,⟨Y3 ⟨by omega,by omega⟩,trivial⟩,trivial⟩),?_⟩;refine Z0 Z0c ⟨rfl,_,rfl,?_⟩;have hh:=Zcd e.va;rcases Decidable.em (e.va=hval)with hv|hv
 · have hf:decide (e.va≠hval)=false:=by simp [hv]
   rw [hf]at hK hh;refine W6 Z0s false [.bool false] ?_ (fun h=>by cases h) (fun _=>rfl) ?_
   · simp only [zz,reduceCtorEq,Ent.enc,Val.enc,hv,hval]
   · simp only [zz,reduceCtorEq,Ent.enc,Val.enc,hv,hval];exact hK
 · have hf:decide (e.va≠hval)=true:=by simp [hv]
   rw [hf]at hK hh;have hne:¬(e.va.pal= -1∧e.va.lev=0):=fun h=>hv ((Z4r _ _).2 h)
   refine W6 Z0s true [.bool (W8 e.pa l.cues[i])] ?_ (fun _=>⟨l,i,e.pa,hi,hl,he.1,hlen,by simp only [zz,reduceCtorEq,Ent.enc,Lis.enc,Par.enc,D.cells,D.cell,Val.enc],rfl⟩) (fun h=>by cases h) ?_
   · simp only [zz,reduceCtorEq,Ent.enc,Val.enc,hval];simpa using hh
   · simp only [zz,reduceCtorEq,Ent.enc,Val.enc,hval];have h2:(decide (e.va.pal= -1)&&decide (e.va.lev=0))=false:=by
       rw [Bool.eq_false_iff];simpa using hne
     have h3:decide (¬e.va.pal= -1∨¬e.va.lev=0∨False)=true:=by simpa using Decidable.not_and_iff_not_or_not.1 hne
     rw [h3];exact hK
theorem Zbw {l:Lis} (hl:l.Ok) {i:Nat} (hi:i < l.cues.length) (hlen:l.cues.length≤1000000) {es:List Ent} (hes:∀e∈es,e.Ok):
   JB Tryz.prog (.clo 99 [.ptr l.enc,.ptr [.int .i64 (i:Nat)]]) Ent.enc es fun e=>decide (e.va≠hval)&&!W8 e.pa l.cues[i]:=by
 refine⟨fun as_ K=>∃e:Ent,e.Ok∧as_=[.agg e.enc]∧K [.d (.bool (decide (e.va≠hval)&&!W8 e.pa l.cues[i]))],FvC.of c99 Zfl ?_,fun e he=>⟨e,hes e he,rfl,rfl⟩⟩;rintro _ K ⟨e,he,rfl,hK⟩;refine⟨⟨e,l,i,hi,he,hl,hlen,rfl,hK⟩,W5 [some (.agg enKs)] (by kernel_rfl) ?_⟩;intro i rk d h1 h2;cases i with
 |zero=>simp at h1 h2;subst h1 h2;exact Ent.has he
 |succ i=>simp at h1
def Zs (cs:List Cue) (n:Nat) (c:Cue):List Ent:=(Yl cs n).filter fun e=>decide (e.va≠hval)&&!W8 e.pa c
def Z2M (l:Lis) (s:List UInt8):Lis×Int:=
 if Yg l s≠0 then(zeroL,Yg l s)else
 match l.cues[upto l s - 1]? with
 |none=>(zeroL,6)
 |some c=>if 128 < (setC c (Zs l.cues (upto l s) c) 1).moves.length then(zeroL,5)else({l with cues:=l.cues.set (upto l s - 1) {setC c (Zs l.cues (upto l s) c) 1 with block:=true}},0)
theorem ZaP {l:Lis} (hl:l.Ok) (h:Z6 Y2 l=0) (n:Nat):RightEs (Yl l.cues n):=
 .ofPars (Jj (by simp [Jp])) (fun p hp=>(ZG (Zo hl h) p hp).2) (fun p=>J4 l.cues p n) fun p=>JN h p n
set_option maxHeartbeats 2000000 in
theorem Z8F:Contract Tryz.prog 39 fun args K=>∃(l:Lis) (s:List UInt8),l.Ok∧args=[.agg l.enc,.str s]∧K [.d (.agg (Z2M l s).1.enc),.d (.int .i64 (Z2M l s).2)]:=by
 refine .of (by kernel_rfl) Zgd ?_;rintro _ K ⟨l,s,hl,rfl,hK⟩ hsm;refine⟨l.enc++[.str s],rfl,by exact Z3G hl,?_⟩;unfold Z2M at hK;refine Z0 Z0t ⟨l,s,hl,by simp only [zz,reduceCtorEq,Lis.enc],_,rfl,?_⟩;rcases Decidable.em (Yg l s=0)with h1|h1
 rotate_left
 · rw [if_pos h1]at hK;refine Z4 (by simp only [zz,reduceCtorEq,Lis.enc,h1]) ?_;simp only [zz,reduceCtorEq,Lis.enc];exact hK
 rw [if_neg (by simpa using h1)]at hK;rw [h1];refine W3 (by simp only [zz,reduceCtorEq,Lis.enc]) ?_;obtain⟨A,c,B,hA⟩:=Z0o hl h1;have hg0:=YR hA.ck hA.num;have hpl:place l.cues s=(A.length:Int):=by
   have:=(Jt hl h1).2.2.2.1;rw [this,hA.n];simp
 have hf1:(Yr l s).1=(A.length:Int):=by
   unfold Yr;rw [if_neg (by simp [hg0])];simp only [hpl];rw [if_neg (by omega)]
 rw [hf1];have hlook:Z4e l s=(Yl l.cues (A.length+1),0):=by unfold Z4e;rw [if_neg (by simp [h1]),hA.n]
 have hlt:A.length < l.cues.length:=by rw [hA.eq];simp
 have hget:l.cues[A.length]=c:=by
   have:l.cues[A.length]? =some c:=by rw [hA.eq];simp
   exact(List.getElem?_eq_some_iff.1 this).2
 have hlen64:=hA.rt.len;rw [hA.n,Nat.add_sub_cancel,List.getElem?_eq_getElem hlt,hget]at hK;simp only at hK;have hes:=Z1r hA.rt (A.length+1);have hll:=Z3B hA.rt (A.length+1);have heR:=ZaP hl hA.ck (A.length+1);have hco:c.Ok:=hget▸hl.cues _ (List.getElem_mem hlt);have hc16:J5 c=0:=hget▸(Wb hA.ck).cues _ (List.getElem_mem hlt);refine Z0 Z2X ⟨l,s,hl,by simp only [zz,reduceCtorEq,Lis.enc],?_⟩;rw [hlook];refine⟨_,rfl,?_⟩;have hbE:Zs l.cues (A.length+1) c=(Yl l.cues (A.length+1)).filter fun e=>decide (e.va≠hval)&&!W8 e.pa l.cues[A.length]:=by rw [hget];rfl
 have hbOk:∀e∈Zs l.cues (A.length+1) c,e.Ok:=fun e he=>hes e (List.mem_filter.1 he).1
 have hg:ZN l A.length l.cues[A.length] (Zs l.cues (A.length+1) c)=if 128 < (setC c (Zs l.cues (A.length+1) c) 1).moves.length then(zeroL,5)else({l with cues:=l.cues.set A.length (setC c (Zs l.cues (A.length+1) c) 1)},0):=by
   unfold ZN;rw [hget,Z17 hc16 (show RightEs (Zs l.cues (A.length+1) c)from heR.filter _)];by_cases h:128 < (setC c (Zs l.cues (A.length+1) c) 1).moves.length
   · simp only [h,if_true];rfl
   · simp only [h,if_false];rfl
 have hS:=YM hco hbOk (p:=1) ⟨by decide,by decide⟩
 repeat' refine fun _ _=>⟨fun _=>?_,fun _=>?_⟩
 all_goals
   refine Z0 Z0e ⟨Yl l.cues (A.length+1),fun e=>decide (e.va≠hval)&&!W8 e.pa l.cues[A.length],99,[.ptr l.enc,.ptr [.int .i64 (A.length:Nat)]],hes,by omega,by simp only [zz,reduceCtorEq,Lis.enc],Zbw hl hlt (by omega) hes,_,rfl,?_⟩;rw [←hbE]
   repeat' refine fun _ _=>⟨fun _=>?_,fun _=>?_⟩
 all_goals
   refine Z0 Z3K ⟨l,A.length,Zs l.cues (A.length+1) c,hlt,hl,hbOk,by omega,by simp only [zz,reduceCtorEq,Lis.enc],?_⟩;refine⟨_,rfl,?_⟩;rw [hg];by_cases h8:128 < (setC c (Zs l.cues (A.length+1) c) 1).moves.length
   · rw [if_pos h8];rw [if_pos h8]at hK;refine Z4 (by simp only [zz,reduceCtorEq,Lis.enc] <;> omega) ?_;simp only [zz,reduceCtorEq,Lis.enc];exact hK
   · rw [if_neg h8];rw [if_neg h8]at hK;refine W3 (by simp only [zz,reduceCtorEq,Lis.enc] <;> omega) ?_;generalize setC c (Zs l.cues (A.length+1) c) 1=c' at hS hK;have hlt2:A.length < (l.cues.set A.length c').length:=by simpa using hlt
     have hg2:(l.cues.set A.length c')[A.length]=c':=by simp
     refine⟨by simp only [zz,reduceCtorEq,Lis.enc] <;> omega,by simp only [zz,reduceCtorEq,Lis.enc,List.length_map] <;> omega,?_⟩;have hbOk2:Cue.Ok {c' with block:=true}:=⟨hS.moves,hS.parts,hS.follow,hS.loops⟩
     have hin2:∀x∈l.cues.set A.length c',x.Ok:=by
       intro x hx;rcases List.mem_or_eq_of_mem_set hx with hx|rfl
       · exact hl.cues x hx
       · exact hS
     have hl2:Lis.Ok {l with cues:=l.cues.set A.length c'}:= {hl with cues:=hin2}
     refine Z0 Z14 ⟨{l with cues:=l.cues.set A.length c'},A.length,{c' with block:=true},hl2,hbOk2,hlt2,by show(l.cues.set A.length c').length≤1000000;simp;omega,by simp only [zz,reduceCtorEq,Lis.enc,J0 hlt2,hg2,Cue.enc],_,rfl,?_⟩;have hss:(l.cues.set A.length c').set A.length {c' with block:=true}=l.cues.set A.length {c' with block:=true}:=by simp
     simp only [zz,reduceCtorEq,Lis.enc,hss];exact hK
theorem Zfj:Contract Tryz.prog 174 fun args K=>∃(m:Mov) (f:FuncId) (cf:List D) (W:Par→Val),m.Ok∧(W m.pa).Ok∧Z11 (.clo f cf) W∧args=[.agg m.enc,.ptr [.clo f cf]]∧K [.d (.bool (decide (m.va≠W m.pa)))]:=by
 refine .of c174 ZdJ ?_;rintro _ K ⟨m,f,cf,W,hm,hw,⟨sf,hf,hs⟩,rfl,hK⟩ hsm;refine⟨m.enc++[.ptr [.clo f cf]],rfl,by exact(Mov.has hm).append (show HasKs [.ptr [.fn]] [.ptr [.clo f cf]]from⟨⟨trivial,trivial⟩,trivial⟩),?_⟩;refine Y7 (FvC.up' (s:=sf) (fv:=.clo f cf) hf) ⟨fun rs=>rs=[.d (.agg (W m.pa).enc)],?_,fun rs h=>⟨(W m.pa).enc,by rw [h];rfl,⟨Y3 hw.1,Y3 hw.2,trivial⟩,?_⟩⟩
 · simp only [zz,reduceCtorEq,Mov.enc];exact hs m.pa hm.1
 simp only [zz,reduceCtorEq,Mov.enc,Val.enc];have e:decide (m.va≠W m.pa)=!(decide (m.va.pal=(W m.pa).pal)&&(decide (m.va.lev=(W m.pa).lev)&&true)):=by
   rw [Bool.eq_iff_iff];simp [Z4r]
 rw [e]at hK;simpa using hK
theorem Zbi {f:FuncId} {cf:List D} {W:Par→Val} (hW:Z11 (.clo f cf) W) {ms:List Mov} (hms:∀m∈ms,m.Ok) (hw:∀p,(W p).Ok):
   JB Tryz.prog (.clo 174 [.ptr [.clo f cf]]) Mov.enc ms fun m=>decide (m.va≠W m.pa):=by
 refine⟨fun as_ K=>∃m:Mov,m.Ok∧as_=[.agg m.enc]∧K [.d (.bool (decide (m.va≠W m.pa)))],FvC.of c174 Zfj ?_,fun m hm=>⟨m,hms m hm,rfl,rfl⟩⟩;rintro _ K ⟨m,hm,rfl,hK⟩;refine⟨⟨m,f,cf,W,hm,hw _,hW,rfl,hK⟩,W5 [some (.agg mvKs)] (by kernel_rfl) ?_⟩;intro i rk d h1 h2;cases i with
 |zero=>simp at h1 h2;subst h1 h2;exact Mov.has hm
 |succ i=>simp at h1
theorem Z41:Contract Tryz.prog 101 fun args K=>∃(ms:List Mov) (f:FuncId) (cf:List D) (W:Par→Val),(∀m∈ms,m.Ok)∧(∀p,(W p).Ok)∧Z11 (.clo f cf) W∧ms.length≤100000∧args=[.slice (ms.map Mov.enc),.clo f cf]∧K [.d (.slice ((ms.filter fun m=>decide (m.va≠W m.pa)).map Mov.enc))]:=by
 refine .of (by kernel_rfl) ZeB ?_;rintro _ K ⟨ms,f,cf,W,hms,hw,hW,hlen,rfl,hK⟩ hsm;refine⟨[.slice (ms.map Mov.enc),.clo f cf],rfl,⟨Z2W hms,trivial,trivial⟩,?_⟩;refine Z0 Z6S ⟨ms,fun m=>decide (m.va≠W m.pa),174,[.ptr [.clo f cf]],hms,hlen,by simp only [zz,reduceCtorEq],Zbi hW hms hw,_,rfl,?_⟩;simp only [zz,reduceCtorEq];exact hK
theorem Zd6:Contract Tryz.prog 102 fun args K=>∃(e:Ent) (f:FuncId) (cf:List D) (W:Par→Val) (l:Lis) (i:Nat) (hi:i < l.cues.length),e.Ok∧(W e.pa).Ok∧Z11 (.clo f cf) W∧l.Ok∧l.cues.length≤1000000∧args=[.agg e.enc,.ptr [.clo f cf],.ptr l.enc,.ptr [.int .i64 i]]∧
   K [.d (.bool (decide (e.va=hval)&&decide (W e.pa≠hval)&&!W8 e.pa l.cues[i]))]:=by
 refine .of c102 ZeA ?_;rintro _ K ⟨e,f,cf,W,l,i,hi,he,hw,⟨sf,hf,hs⟩,hl,hlen,rfl,hK⟩ hsm;refine⟨e.enc++[.ptr [.clo f cf],.ptr l.enc,.ptr [.int .i64 (i:Nat)]],rfl,by exact(Ent.has he).append (show HasKs [.ptr [.fn],.ptr liKs,.ptr [.int .i64]] [.ptr [.clo f cf],.ptr l.enc,.ptr [.int .i64 (i:Nat)]]from⟨⟨trivial,trivial⟩,Lis.has hl,⟨Y3 ⟨by omega,by omega⟩,trivial⟩,trivial⟩),?_⟩;refine Z0 Z0c ⟨rfl,_,rfl,?_⟩;rcases Decidable.em (e.va=hval)with hv|hv
 rotate_left
 · have hf2:decide (e.va=hval)=false:=by simp [hv]
   rw [hf2]at hK;have hne:¬e.va.pal= -1∨¬e.va.lev=0:=Decidable.not_and_iff_not_or_not.1 fun h=>hv ((Z4r _ _).2 h)
   rcases hne with ha|ha
   all_goals
     refine Yz (s:=fun _ _=>True) false [.int .i64 0,.int .i64 0] (by simp only [zz,reduceCtorEq,Ent.enc,Val.enc,hval,ha,decide_false,Bool.false_and,Bool.and_false,false_and,and_false]) (fun h=>by cases h) (fun _=>rfl) ?_;refine W6 Z0c false [.int .i64 0,.int .i64 0] (by simp only [zz,reduceCtorEq,Ent.enc,Val.enc,hval,ha,decide_false,Bool.false_and,Bool.and_false,false_and,and_false]) (fun h=>by cases h) (fun _=>rfl) ?_;refine W6 Z0s false [.bool false] (by simp only [zz,reduceCtorEq,Ent.enc,Val.enc,hval,ha,decide_false,Bool.false_and,Bool.and_false,false_and,and_false]) (fun h=>by cases h) (fun _=>rfl) ?_;simp only [zz,reduceCtorEq,Ent.enc,Val.enc,hval,ha,decide_false,Bool.false_and,Bool.and_false,false_and,and_false];exact hK
 · have hf2:decide (e.va=hval)=true:=by simp [hv]
   rw [hf2]at hK;refine Yz (s:=sf.up) true (W e.pa).enc (by simp only [zz,reduceCtorEq,Ent.enc,Val.enc,hv,hval]) (fun _=>⟨FvC.up' (s:=sf) (fv:=.clo f cf) hf,fun rs=>rs=[.d (.agg (W e.pa).enc)],?_,fun rs h=>⟨(W e.pa).enc,by rw [h];rfl,⟨Y3 hw.1,Y3 hw.2,trivial⟩,rfl⟩⟩) (fun h=>by cases h) ?_
   · simp only [zz,reduceCtorEq,Ent.enc];exact hs e.pa he.1
   refine W6 Z0c true hval.enc (by simp only [zz,reduceCtorEq,Ent.enc,Val.enc,hv,hval]) (fun _=>⟨rfl,rfl⟩) (fun h=>by cases h) ?_;rcases Decidable.em (W e.pa=hval)with hw2|hw2
   · have hf3:decide (W e.pa≠hval)=false:=by simp [hw2]
     rw [hf3]at hK;refine W6 Z0s false [.bool false] (by simp only [zz,reduceCtorEq,Ent.enc,Val.enc,hv,hval,hw2]) (fun h=>by cases h) (fun _=>rfl) ?_;simp only [zz,reduceCtorEq,Ent.enc,Val.enc,hv,hval,hw2];exact hK
   · have hf3:decide (W e.pa≠hval)=true:=by simp [hw2]
     rw [hf3]at hK;have hne:¬(W e.pa).pal= -1∨¬(W e.pa).lev=0:=Decidable.not_and_iff_not_or_not.1 fun h=>hw2 ((Z4r _ _).2 h)
     rcases hne with ha|ha
     all_goals
       refine W6 Z0s true [.bool (W8 e.pa l.cues[i])] (by simp only [zz,reduceCtorEq,Ent.enc,Val.enc,hv,hval,ha,decide_false,Bool.false_and,Bool.and_false,false_and,and_false]) (fun _=>⟨l,i,e.pa,hi,hl,he.1,hlen,by simp only [zz,reduceCtorEq,Ent.enc,Lis.enc,Par.enc,D.cells,D.cell,Val.enc,hval],rfl⟩) (fun h=>by cases h) ?_;simp only [zz,reduceCtorEq,Ent.enc,Val.enc,hv,hval,ha,decide_false,Bool.false_and,Bool.and_false,false_and,and_false];simpa using hK
noncomputable def t28:R:=let x3:T:=Vl (.idx (Va 4) (Va 12) 2 (.int .i64)) (Vl (.idx (Va 4) (Va 12) 3 (.int .i64)) .lnil);let x4:List K:=mvKs;let x5:T:=Vl (Va 14) (Vl (Va 15) .lnil);let x6:T:=.idx (Va 4) (Va 12) 0 (.int .i64);let x7:T:=.idx (Va 4) (Va 12) 1 (.int .i64);let x8:T:=Vl (Vn 0) (Vl (Vn 0) (Vl .nils .lnil));let x9:List K:=tmKs;let x10:T:=Vl (Va 1) (Vl (Va 2) .lnil);let x11:T:=.idx (Va 15) (Va 19) 0 .str;let x12:T:=.idx (Va 15) (Va 19) 1 .str;let x0:List K:=[.str,.str,.slice x4,.slice x9,.bool,.bool,.int .i64,.str,.int .i64];let x1:T:=Vl (.idx (Va 15) (Va 19) 3 (.slice x9)) (Vl (.idx (Va 15) (Va 19) 4 .bool) (Vl (.idx (Va 15) (Va 19) 5 .bool) (Vl (.idx (Va 15) (Va 19) 6 (.int .i64)) (Vl (.idx (Va 15) (Va 19) 7 .str) (Vl (.idx (Va 15) (Va 19) 8 (.int .i64)) .lnil)))));let x2:T:=.push .nils (Vl x6 (Vl x7 x3));.call none (.fn 65) [Vl (Va 0) x10,Va 3] [.agg [.int .i64,.int .i64,.slice x0],.cell (.int .i64),.cell (.int .i64)] (.ite (.o2 .ne (Va 9) (Vn 0)) (.ret [.d x8,.d (Va 9)]) (.call none (.fn 52) [Va 4] [.cell (.int .i64)] (.ite (.o2 .ne (Va 10) (Vn 0)) (.ret [.d x8,.d (Va 10)]) (.fact (.o2 .le (.o1 .len (Va 4)) (Vn 140737488355328)) (.loop 0 [.nils,Vn 0,Va 5,Va 6,Va 7] [.slice enKs,.int .i64,.int .i64,.int .i64,.slice x0] (.ite (.o2 .lt (Va 12) (.o1 .len (Va 4))) (.need (.o2 .le (Vn 0) (Va 12)) (.call none (.fn 87) [Vl (Va 0) x10,Va 3,Vl x6 (Vl x7 .lnil)] [.cell .str,.cell .bool,.cell (.int .i64)] (.ite (.o1 .not (Va 17)) (.need (.o2 .le (.o1 .len (.o2 .app (Va 11) x2)) (Vn 4398046511104)) (.again 0 [.o2 .app (Va 11) x2,.o2 (.add .i64) (Va 12) (Vn 1),Va 13,Va 14,Va 15])) (.call none (.fn 53) [Vl (Va 13) x5,Va 16] [.cell (.int .i64)] (.need (.o2 .le (Vn 0) (Va 19)) (.need (.o2 .lt (Va 19) (.o1 .len (Va 15))) (.call none (.fn 88) [.idx (Va 15) (Va 19) 2 (.slice x4)] [.own x4] (.call none (.fn 89) [Vl x11 (Vl x12 (Vl (Va 20) x1)),Vl x6 (Vl x7 .lnil)] [.cell (.int .i64),.cell .bool,.cell (.int .i64)] (.need (.o2 .le (Vn 0) (Va 21)) (.need (.o2 .lt (Va 21) (.o1 .len (Va 20))) (.call none (.fn 90) [Vl (Va 13) x5,Va 19,Vl x11 (Vl x12 (Vl (.upd (Va 20) (Va 21) 2 x3) x1))] [.agg [.int .i64,.int .i64,.slice x0]] (.again 0 [Va 11,.o2 (.add .i64) (Va 12) (Vn 1),Va 24,Va 25,Va 26])))))))))))) (.call none (.fn 62) [Vl (Va 13) x5,Va 8,Va 11] [.agg [.int .i64,.int .i64,.slice x0],.cell (.int .i64)] (.call none (.fn 61) [Vl (Va 16) (Vl (Va 17) (Vl (Va 18) .lnil)),Va 19] [.agg [.int .i64,.int .i64,.slice x0],.cell (.int .i64)] (.ret [.d (Vl (Va 20) (Vl (Va 21) (Vl (Va 22) .lnil))),.d (Va 23)])))))))))
theorem Zgi:fnO Tryz.prog mdA 28 [.agg liKs,.cell .str,.cell (.slice enKs)]=t28:=by kernel_rfl
theorem Z9U {f:FuncId} {cf:List D} {W:Par→Val} (hW:Z11 (.clo f cf) W) (hw:∀p,(W p).Ok) {l:Lis} (hl:l.Ok) {i:Nat} (hi:i < l.cues.length) (hlen:l.cues.length≤1000000) {es:List Ent} (hes:∀e∈es,e.Ok):
   JB Tryz.prog (.clo 102 [.ptr [.clo f cf],.ptr l.enc,.ptr [.int .i64 (i:Nat)]]) Ent.enc es fun e=>decide (e.va=hval)&&decide (W e.pa≠hval)&&!W8 e.pa l.cues[i]:=by
 refine⟨fun as_ K=>∃e:Ent,e.Ok∧as_=[.agg e.enc]∧K [.d (.bool (decide (e.va=hval)&&decide (W e.pa≠hval)&&!W8 e.pa l.cues[i]))],FvC.of c102 Zd6 ?_,fun e he=>⟨e,hes e he,rfl,rfl⟩⟩;rintro _ K ⟨e,he,rfl,hK⟩;refine⟨⟨e,f,cf,W,l,i,hi,he,hw _,hW,hl,hlen,rfl,hK⟩,W5 [some (.agg enKs)] (by kernel_rfl) ?_⟩;intro i rk d h1 h2;cases i with
 |zero=>simp at h1 h2;subst h1 h2;exact Ent.has he
 |succ i=>simp at h1
def Yp (cs:List Cue) (n:Nat) (c:Cue):Cue:= {c with moves:=leave c fun p=>J4 cs p n,block:=false}
def JL (cs:List Cue) (n:Nat) (c:Cue):List Ent:=(Yl cs (n+1)).filter fun e=>decide (e.va=hval)&&decide (J4 cs e.pa n≠hval)&&!W8 e.pa (Yp cs n c)
def YI (l:Lis) (s:List UInt8):Lis×Int:=
 if Yg l s≠0 then(zeroL,Yg l s)else
 match l.cues[upto l s - 1]? with
 |none=>(zeroL,6)
 |some c=>if 128 < (setC (Yp l.cues (upto l s - 1) c) (JL l.cues (upto l s - 1) c) 1).moves.length then(zeroL,5)else({l with cues:=l.cues.set (upto l s - 1) (setC (Yp l.cues (upto l s - 1) c) (JL l.cues (upto l s - 1) c) 1)},0)
theorem Z8A {c:Cue} (h:J5 c=0) (cs:List Cue) (n:Nat):J5 (Yp cs n c)=0:=by
 have hC:=Z00 h;have h2:=ZL h (hC.rc.filter fun m=>decide (m.va≠J4 cs m.pa n)) (Nat.le_trans (List.length_filter_le _ _) hC.len);exact Z1J (b:=false) h2
set_option maxHeartbeats 2000000 in
theorem Z4w:Contract Tryz.prog 40 fun args K=>∃(l:Lis) (s:List UInt8),l.Ok∧args=[.agg l.enc,.str s]∧K [.d (.agg (YI l s).1.enc),.d (.int .i64 (YI l s).2)]:=by
 refine .of (by kernel_rfl) Zgc ?_;rintro _ K ⟨l,s,hl,rfl,hK⟩ hsm;refine⟨l.enc++[.str s],rfl,by exact Z3G hl,?_⟩;unfold YI at hK;refine Z0 Z0t ⟨l,s,hl,by simp only [zz,reduceCtorEq,Lis.enc],_,rfl,?_⟩;rcases Decidable.em (Yg l s=0)with h1|h1
 rotate_left
 · rw [if_pos h1]at hK;refine Z4 (by simp only [zz,reduceCtorEq,Lis.enc,h1]) ?_;simp only [zz,reduceCtorEq,Lis.enc];exact hK
 rw [if_neg (by simpa using h1)]at hK;rw [h1];refine W3 (by simp only [zz,reduceCtorEq,Lis.enc]) ?_;obtain⟨A,c,B,hA⟩:=Z0o hl h1;have hg0:=YR hA.ck hA.num;have hpl:place l.cues s=(A.length:Int):=by
   have:=(Jt hl h1).2.2.2.1;rw [this,hA.n];simp
 have hf1:(Yr l s).1=(A.length:Int):=by
   unfold Yr;rw [if_neg (by simp [hg0])];simp only [hpl];rw [if_neg (by omega)]
 rw [hf1];have hlook:Z4e l s=(Yl l.cues (A.length+1),0):=by unfold Z4e;rw [if_neg (by simp [h1]),hA.n]
 have hlt:A.length < l.cues.length:=by rw [hA.eq];simp
 have hget:l.cues[A.length]=c:=by
   have:l.cues[A.length]? =some c:=by rw [hA.eq];simp
   exact(List.getElem?_eq_some_iff.1 this).2
 have hlen64:=hA.rt.len;rw [hA.n,Nat.add_sub_cancel,List.getElem?_eq_getElem hlt,hget]at hK;simp only at hK;have hes:=Z1r hA.rt (A.length+1);have hll:=Z3B hA.rt (A.length+1);have heR:=ZaP hl hA.ck (A.length+1);have hco:c.Ok:=hget▸hl.cues _ (List.getElem_mem hlt);have hc16:J5 c=0:=hget▸(Wb hA.ck).cues _ (List.getElem_mem hlt);have hc1:=Z8A hc16 l.cues A.length;have hc1o:(Yp l.cues A.length c).Ok:=⟨fun m hm=>hco.moves m (List.mem_filter.1 hm).1,hco.parts,hco.follow,hco.loops⟩
 have hml:=(Z00 hc16).len;have hvo:∀p,(J4 l.cues p A.length).Ok:=fun p=>YD hA.rt p _
 have hwA:wr64 ((A.length:Int) - 1)=(A.length:Int) - 1:=Z1 (by omega);have hin2:∀x∈l.cues.set A.length (Yp l.cues A.length c),x.Ok:=by
   intro x hx;rcases List.mem_or_eq_of_mem_set hx with hx|rfl
   · exact hl.cues x hx
   · exact hc1o
 have hl2:Lis.Ok {l with cues:=l.cues.set A.length (Yp l.cues A.length c)}:= {hl with cues:=hin2}
 have hlt2:A.length < (l.cues.set A.length (Yp l.cues A.length c)).length:=by simpa using hlt
 have hg2:(l.cues.set A.length (Yp l.cues A.length c))[A.length]=Yp l.cues A.length c:=by simp
 refine Z0 Z01 ⟨l,A.length,hl,hA.ck,by omega,by simp only [zz,reduceCtorEq,Lis.enc,hwA],fun f cf hsv=>⟨_,rfl,?_⟩⟩;refine⟨by simp only [zz,reduceCtorEq,Lis.enc] <;> omega,by simp only [zz,reduceCtorEq,Lis.enc,List.length_map] <;> omega,?_⟩;refine Z0 Z41 ⟨c.moves,f,cf,fun p=>J4 l.cues p A.length,hco.moves,hvo,hsv,by omega,by simp only [zz,reduceCtorEq,Lis.enc,J0 hlt,hget,Cue.enc],_,rfl,?_⟩;refine Z0 Z14 ⟨l,A.length,Yp l.cues A.length c,hl,hc1o,hlt,by omega,by simp only [zz,reduceCtorEq,Lis.enc,J0 hlt,hget,Cue.enc,Yp,leave],_,rfl,?_⟩;refine Z0 Z2X ⟨l,s,hl,by simp only [zz,reduceCtorEq,Lis.enc],?_⟩;rw [hlook];refine⟨_,rfl,?_⟩;have hbE:JL l.cues A.length c=(Yl l.cues (A.length+1)).filter fun e=>decide (e.va=hval)&&decide (J4 l.cues e.pa A.length≠hval)&&!W8 e.pa (l.cues.set A.length (Yp l.cues A.length c))[A.length]:=by rw [hg2];rfl
 have hbOk:∀e∈JL l.cues A.length c,e.Ok:=fun e he=>hes e (List.mem_filter.1 he).1
 refine Z0 Z0e ⟨Yl l.cues (A.length+1),fun e=>decide (e.va=hval)&&decide (J4 l.cues e.pa A.length≠hval)&&!W8 e.pa (l.cues.set A.length (Yp l.cues A.length c))[A.length],102,
   [.ptr [.clo f cf],.ptr (Lis.enc {l with cues:=l.cues.set A.length (Yp l.cues A.length c)}),.ptr [.int .i64 (A.length:Nat)]],hes,by omega,by simp only [zz,reduceCtorEq,Lis.enc],
   Z9U (l:= {l with cues:=l.cues.set A.length (Yp l.cues A.length c)}) hsv hvo hl2 hlt2 (by show(l.cues.set A.length (Yp l.cues A.length c)).length≤1000000;simp;omega) hes,_,rfl,?_⟩
 rw [←hbE];have hg:ZN {l with cues:=l.cues.set A.length (Yp l.cues A.length c)} A.length (l.cues.set A.length (Yp l.cues A.length c))[A.length] (JL l.cues A.length c)=
     if 128 < (setC (Yp l.cues A.length c) (JL l.cues A.length c) 1).moves.length then(zeroL,5)else({l with cues:=l.cues.set A.length (setC (Yp l.cues A.length c) (JL l.cues A.length c) 1)},0):=by
   unfold ZN;rw [hg2,Z17 hc1 (show RightEs (JL l.cues A.length c)from heR.filter _)];by_cases h:128 < (setC (Yp l.cues A.length c) (JL l.cues A.length c) 1).moves.length
   · simp only [h,if_true];rfl
   · simp only [h,if_false,List.set_set];rfl
 have hgOk:(ZN {l with cues:=l.cues.set A.length (Yp l.cues A.length c)} A.length (l.cues.set A.length (Yp l.cues A.length c))[A.length] (JL l.cues A.length c)).1.Ok∧I64 (ZN {l with cues:=l.cues.set A.length (Yp l.cues A.length c)} A.length (l.cues.set A.length (Yp l.cues A.length c))[A.length] (JL l.cues A.length c)).2:=by
   rw [hg];split
   · exact⟨Z2R,show I64 5 from⟨by decide,by decide⟩⟩
   · refine⟨{hl with cues:=?_},show I64 0 from⟨by decide,by decide⟩⟩;intro x hx;rcases List.mem_or_eq_of_mem_set hx with hx|rfl
     · exact hl.cues x hx
     · exact YM hc1o hbOk ⟨by decide,by decide⟩
 refine Z0 Z3K ⟨{l with cues:=l.cues.set A.length (Yp l.cues A.length c)},A.length,JL l.cues A.length c,hlt2,hl2,hbOk,by show(l.cues.set A.length (Yp l.cues A.length c)).length≤1000000;simp;omega,by simp only [zz,reduceCtorEq,Lis.enc],?_⟩;refine⟨_,rfl,?_⟩;refine Z0 Z2T ⟨_,_,hgOk.1,hgOk.2,by simp only [zz,reduceCtorEq,Lis.enc],_,rfl,?_⟩;rw [hg];by_cases h8:128 < (setC (Yp l.cues A.length c) (JL l.cues A.length c) 1).moves.length
 · rw [if_pos h8];rw [if_pos h8]at hK;simp only [zz,reduceCtorEq,Lis.enc];exact hK
 · rw [if_neg h8];rw [if_neg h8]at hK;simp only [zz,reduceCtorEq,Lis.enc];exact hK
theorem Z3g (ms:List Mov) (e:Ent):(Z6l ms e).map (·.pa)=ms.map (·.pa):=by
 simp only [Z6l,List.map_map];refine List.map_congr_left fun m _=>?_
 simp only [Function.comp_apply];split <;> rfl
theorem Z6k {ms:List Mov} {e:Ent} {m:Mov} (h:m∈Z6l ms e):∃x∈ms,m.pa=x.pa∧m.part=x.part∧(m.va=x.va∨m.va=e.va):=by
 obtain⟨x,hx,rfl⟩:=List.mem_map.1 h;refine⟨x,hx,?_⟩;split
 · exact⟨rfl,rfl,.inr rfl⟩
 · exact⟨rfl,rfl,.inl rfl⟩
theorem Z91 {a b:List Mov} (h:a.map (·.pa)=b.map (·.pa)) (hb:Wj b):Wj a:=by
 have h1:(b.map (·.pa)).Pairwise fun x y=>Y4 x y=true:=by rw [List.pairwise_map];exact hb
 rw [←h,List.pairwise_map]at h1;exact h1
theorem ZbY {n:Nat} {ms:List Mov} {e:Ent} (h:RC n ms) (he:Wa e.va=0):RC n (Z6l ms e):=
 ⟨Z91 (Z3g ms e) h.rising,fun m hm=>by
   obtain⟨x,hx,h1,h2,h3⟩:=Z6k hm;have:=h.each x hx;refine⟨by rw [h1];exact this.1,?_,by omega,by omega⟩;rcases h3 with h3|h3
   · rw [h3];exact this.2.1
   · rw [h3];exact he⟩
theorem Zd5 {c:Cue} {e:Ent} (h:J5 c=0) (he:Wa e.va=0):J5 (updC e c)=0:=
 ZL h (ZbY (Z00 h).rc he) (by have:=congrArg List.length (Z3g c.moves e);have:=(Z00 h).len;simp at *;omega)
theorem Z9T {c:Cue} {e:Ent} (h:c.Ok) (he:e.Ok):(updC e c).Ok:=by
 have hm:∀m∈(updC e c).moves,m.Ok:=by
   intro m hm;obtain⟨x,hx,h1,h2,h3⟩:=Z6k hm;have hxo:=h.moves x hx;refine⟨by rw [h1];exact hxo.1,?_,by rw [h2];exact hxo.2.2⟩;rcases h3 with h3|h3
   · rw [h3];exact hxo.2.1
   · rw [h3];exact he.2
 exact {h with moves:=hm}
structure Kin (cs out:List Cue):Prop where
 len:out.length=cs.length
 num:∀(j:Nat) (h1:j < out.length) (h2:j < cs.length),out[j].num=cs[j].num
 pas:∀(j:Nat) (h1:j < out.length) (h2:j < cs.length),out[j].moves.map (·.pa)=cs[j].moves.map (·.pa)
 blk:∀(j:Nat) (h1:j < out.length) (h2:j < cs.length),out[j].block=cs[j].block
 ck:∀c∈out,J5 c=0
 ok:∀c∈out,c.Ok
theorem Kin.self {cs:List Cue} (h1:∀c∈cs,J5 c=0) (h2:∀c∈cs,c.Ok):Kin cs cs:=⟨rfl,fun _ _ _=>rfl,fun _ _ _=>rfl,fun _ _ _=>rfl,h1,h2⟩
theorem ZP {X:Type} {l:List X} {i j:Nat} {f:X→X} (hj:j < (l.modify i f).length):(l.modify i f)[j]=if i=j then f (l[j]'(by simpa using hj))else l[j]'(by simpa using hj):=by
 have hj':j < l.length:=by simpa using hj
 have:(l.modify i f)[j]? =some (if i=j then f l[j]else l[j]):=by
   rw [List.getElem?_modify,List.getElem?_eq_getElem hj'];by_cases h:i=j <;> simp [h]
 exact(List.getElem?_eq_some_iff.1 this).2
theorem Kin.upd {cs out:List Cue} (h:Kin cs out) {e:Ent} (he:e.Ok) (hv:Wa e.va=0) (i:Nat):Kin cs (out.modify i (updC e)) where
 len:=by simp [h.len]
 num:=fun j h1 h2=>by
   rw [ZP];have:=h.num j (by simpa using h1) h2;split <;> exact this
 pas :=fun j h1 h2=>by
   rw [ZP];have:=h.pas j (by simpa using h1) h2;split
   · show(Z6l _ e).map (·.pa)=_;rw [Z3g];exact this
   · exact this
 blk:=fun j h1 h2=>by
   rw [ZP];have:=h.blk j (by simpa using h1) h2;split <;> exact this
 ck:=fun c hc=>by
   obtain⟨j,hj,rfl⟩:=List.getElem_of_mem hc;rw [ZP];have:=h.ck _ (List.getElem_mem (l:=out) (n:=j) (by simpa using hj));split
   · exact Zd5 this hv
   · exact this
 ok:=fun c hc=>by
   obtain⟨j,hj,rfl⟩:=List.getElem_of_mem hc;rw [ZP];have:=h.ok _ (List.getElem_mem (l:=out) (n:=j) (by simpa using hj));split
   · exact Z9T this he
   · exact this
theorem Z52 {s:List UInt8}:∀ {a b:List Cue} {i:Nat},a.map (·.num)=b.map (·.num)→JX (fun c:Cue=>c.num==s) i a=JX (fun c:Cue=>c.num==s) i b
 | [],[],_,_=>rfl
 | [],_::_,_,h=>by simp at h
 |_::_,[],_,h=>by simp at h
 | x::a,y::b,i,h=>by
   simp only [List.map_cons,List.cons.injEq]at h;simp only [JX,h.1,Z52 (i:=i+1) h.2]
theorem Z93 {a b:List Cue} (h:a.map (·.num)=b.map (·.num)) (s:List UInt8):place a s=place b s:=Z52 h
theorem Kin.nums {cs out:List Cue} (h:Kin cs out):out.map (·.num)=cs.map (·.num):=by
 apply List.ext_getElem
 · simp [h.len]
 · intro i h1 h2;simp only [List.getElem_map];exact h.num i (by simpa using h1) (by simpa using h2)
theorem Z9p {a b:List Mov} (h:a.map (·.pa)=b.map (·.pa)) (p:Par):(Jb a p).isSome=(Jb b p).isSome:=by
 have e:∀l:List Mov,(Jb l p).isSome=(l.map (·.pa)).any fun q=>decide (q=p):=fun l=>by
   rw [←Z0p,List.any_map];rfl
 rw [e,e,h]
theorem Za7 {ms:List Mov} {e:Ent} {k:Nat} (hr:Wj ms) (hk:k < ms.length) (hp:ms[k].pa=e.pa):
   ((ms.map Mov.enc).modify k fun x=>Zg x 2 [.int .i64 e.va.pal,.int .i64 e.va.lev])=(Z6l ms e).map Mov.enc:=by
 apply List.ext_getElem?;intro i;rw [List.getElem?_modify,List.getElem?_map,Z6l,List.map_map,List.getElem?_map];by_cases hi:i < ms.length
 · rw [List.getElem?_eq_getElem hi];by_cases h:k=i
   · subst h;simp [hp,Zg,Mov.enc]
   · have hne:ms[i].pa≠e.pa:=fun he=>by
       rw [←hp]at he;rcases Nat.lt_or_gt_of_ne h with h|h
       · have:=List.pairwise_iff_getElem.1 hr k i hk hi h;rw [he,Zc]at this;cases this
       · have:=List.pairwise_iff_getElem.1 hr i k hi hk h;rw [he,Zc]at this;cases this
     simp [h,hne]
 · rw [List.getElem?_eq_none (by omega)];by_cases h:k=i <;> simp [h]
theorem Z9S (cs0:List Cue) (n:Nat) (e:Ent) (es:List Ent) (out:List Cue):((e::es).filter (srcd cs0 n)).foldl (upd1 cs0 n) out=(es.filter (srcd cs0 n)).foldl (upd1 cs0 n) (if srcd cs0 n e then upd1 cs0 n out e else out):=by
 rw [List.filter_cons];cases srcd cs0 n e <;> rfl
theorem ZaJ (cs0:List Cue) (n:Nat) (e:Ent) (es:List Ent):ownE cs0 n (e::es)=(if srcd cs0 n e then []else [e])++ownE cs0 n es:=by
 unfold ownE;rw [List.filter_cons];cases srcd cs0 n e <;> rfl
theorem Z98 {l:Lis} (hl:l.Ok) {s:List UInt8} {p:Par} (h:Yg l s=0) (hp:Z3 p=0):
   (src l.cues p (upto l s)= -1∧Z7w l s p=([],false,0))∨∃(i:Nat) (hi:i < l.cues.length),src l.cues p (upto l s)=i∧Z7w l s p=(l.cues[i].num,true,0)∧W8 p l.cues[i]=true:=by
 unfold Z7w;rw [if_neg (by simp [h]),if_neg (by simp [hp])];rcases Z8f (cs:=l.cues) (p:=p) (n:=upto l s) (Z5q l s)with⟨h1,h2⟩|⟨i,hi,h1,_,h3,h4⟩
 · exact .inl ⟨h1,by rw [h2]⟩
 · exact .inr ⟨i,hi,h1,by rw [h3],h4⟩
theorem Z97 {cs0:List Cue} {n:Nat} {es:List Ent} (h:RightEs es):RightEs (ownE cs0 n es):=h.filter _
set_option maxHeartbeats 4000000 in
theorem Z16:Contract Tryz.prog 28 fun args K=>∃(l:Lis) (s:List UInt8) (es:List Ent),l.Ok∧(∀e∈es,e.Ok)∧args=[.agg l.enc,.str s,.slice (es.map Ent.enc)]∧K [.d (.agg (Z3f l s es).1.enc),.d (.int .i64 (Z3f l s es).2)]:=by
 refine .of (by kernel_rfl) Zgi ?_;rintro _ K ⟨l,s,es,hl,hes,rfl,hK⟩ hsm;refine⟨l.enc++[.str s,.slice (es.map Ent.enc)],rfl,by exact(Lis.has hl).append (show HasKs [.str,.slice enKs] [.str s,.slice (es.map Ent.enc)]from⟨trivial,JK hes,trivial⟩),?_⟩;unfold Z3f at hK;refine Z0 Z0t ⟨l,s,hl,by simp only [zz,reduceCtorEq,Lis.enc],_,rfl,?_⟩;rcases Decidable.em (Yg l s=0)with h1|h1
 rotate_left
 · rw [if_pos h1]at hK;refine Z4 (by simp only [zz,reduceCtorEq,Lis.enc,h1]) ?_;simp only [zz,reduceCtorEq,Lis.enc];exact hK
 rw [if_neg (by simpa using h1)]at hK;rw [h1];refine W3 (by simp only [zz,reduceCtorEq,Lis.enc]) ?_;refine Z0 Z5B ⟨es,hes,by simp only [zz,reduceCtorEq,Lis.enc],_,rfl,?_⟩;rcases Decidable.em (Wv es=0)with h3|h3
 rotate_left
 · rw [if_pos h3]at hK;refine Z4 (by simp only [zz,reduceCtorEq,Lis.enc,h3]) ?_;simp only [zz,reduceCtorEq,Lis.enc];exact hK
 rw [if_neg (by simpa using h3)]at hK;rw [h3];refine W3 (by simp only [zz,reduceCtorEq,Lis.enc]) ?_;obtain⟨A,c,B,hA⟩:=Z0o hl h1;have hg0:=YR hA.ck hA.num;have hpl:place l.cues s=(A.length:Int):=by
   have:=(Jt hl h1).2.2.2.1;rw [this,hA.n];simp
 have hf1:(Yr l s).1=(A.length:Int):=by
   unfold Yr;rw [if_neg (by simp [hg0])];simp only [hpl];rw [if_neg (by omega)]
 rw [hf1];have hlt:A.length < l.cues.length:=by rw [hA.eq];simp
 have hlen64:=hA.rt.len;have hE:=Z3o hes h3;have hel:=Z59 h3;have hRL:=Wb hA.ck;have hself:Kin l.cues l.cues:=.self hRL.cues hl.cues;have hsc:=fun(p:Par) (hp:Z3 p=0)=>Z98 hl h1 hp
 rw [hA.n]at hsc hK;simp only [zz,reduceCtorEq,Lis.enc,List.length_map];intro hcap;refine Jo es (fun _ l' (a:List Ent×List Cue)=>(a.1++ownE l.cues (A.length+1) l',(l'.filter (srcd l.cues (A.length+1))).foldl (upd1 l.cues (A.length+1)) a.2))
   (fun i a=>[.slice (a.1.map Ent.enc),.int .i64 i,.int .i64 l.num,.int .i64 l.prio,.slice (a.2.map Cue.enc)]) (fun i a=>a.1.length≤i∧(∀e∈a.1,e.Ok)∧Kin l.cues a.2) ([],l.cues) (ownE l.cues (A.length+1) es,updL l.cues (A.length+1) es) (by simp [updL]) ⟨by simp,by simp,hself⟩ 1 (fun _ _=>rfl) rfl ?_ ?_
 · rintro i hi ⟨own,out⟩ ⟨hI1,hI2,hI3⟩ hgo;have hem:=List.getElem_mem hi;have heo:=hes _ hem;simp only at hI1 hI2 hI3 hgo;rw [Z9S,ZaJ]at hgo;refine⟨fun _=>⟨by simp only [zz,reduceCtorEq] <;> omega,?_⟩,fun h=>?_⟩;rotate_left
   · exfalso;simp only [zz,reduceCtorEq,List.length_map,hi]at h
   refine Z0 Z8P ⟨l,s,es[i].pa,hl,heo.1,by simp only [zz,reduceCtorEq,Lis.enc,Ent.enc,Par.enc,J0 hi],_,rfl,?_⟩;rcases hsc es[i].pa (hE.par _ hem)with⟨q1,q2⟩|⟨j,hj,q1,q2,q3⟩
   · rw [q2];have hs:srcd l.cues (A.length+1) es[i]=false:=by unfold srcd;rw [q1];rfl
     rw [hs]at hgo;refine Z4 (by simp only [zz,reduceCtorEq]) ?_;refine⟨by simp only [zz,reduceCtorEq,List.length_append,List.length_map,List.length_cons,List.length_nil];omega,?_⟩;simp only [zz,reduceCtorEq,Lis.enc,Ent.enc,J0 hi];refine⟨(own++[es[i]],out),⟨by simp [Ent.enc],by refine⟨?_,rfl⟩;rw [Z1] <;> omega⟩,⟨by show(own++[es[i]]).length≤i+1;simp only [List.length_append,List.length_singleton];exact Nat.succ_le_succ hI1,?_,hI3⟩,by simpa using hgo⟩;intro e he;rcases List.mem_append.1 he with he|he
     · exact hI2 e he
     · simp at he;subst he;exact heo
   · rw [q2];have hs:srcd l.cues (A.length+1) es[i]=true:=by unfold srcd;rw [q1];simp
     rw [hs]at hgo;simp only [if_true,List.nil_append,upd1,q1,Int.toNat_natCast]at hgo;refine W3 (by simp only [zz,reduceCtorEq]) ?_;have hjo:j < out.length:=by rw [hI3.len];exact hj
     have hjm:=List.getElem_mem hjo;have hoOk:Lis.Ok {l with cues:=out}:= {hl with cues:=hI3.ok}
     have hpj:place out l.cues[j].num=(j:Int):=by rw [Z93 hI3.nums];exact(Z3a hA.ck hj).2.2
     have hcj:=hI3.ok _ hjm;have hckj:=hI3.ck _ hjm;have hrc:=Z00 hckj;have hol:out.length≤64:=by rw [hI3.len];exact hlen64
     refine Z0 ZbE ⟨{l with cues:=out},l.cues[j].num,hoOk,by simp only [zz,reduceCtorEq,Lis.enc],_,rfl,?_⟩;rw [hpj];refine⟨by simp only [zz,reduceCtorEq] <;> omega,by simp only [zz,reduceCtorEq,List.length_map] <;> omega,?_⟩;refine Z0 Z7a ⟨out[j].moves,hcj.moves,by have:=hrc.len;omega,by simp only [zz,reduceCtorEq,J0 hjo,Cue.enc],_,rfl,?_⟩;refine Z0 ZcP ⟨out[j],es[i].pa,hcj,hckj,heo.1,hE.par _ hem,by simp only [zz,reduceCtorEq,J0 hjo,Cue.enc,J0 hi,Ent.enc,Par.enc],_,rfl,?_⟩;have hsm2:(Jb out[j].moves es[i].pa).isSome=true:=by
       rw [Z9p (hI3.pas j hjo hj)];exact q3
     obtain⟨m0,hm0⟩:=Option.isSome_iff_exists.1 hsm2;have hRM:=hrc.rc.right hrc.len;obtain⟨hlow,hlm⟩:=Z6z hRM hm0;have hlp:out[j].moves[low out[j].moves es[i].pa].pa=es[i].pa:=by rw [hlm];simpa using List.find?_some hm0
     rw [hsm2];simp only [if_true];refine⟨by simp only [zz,reduceCtorEq] <;> omega,by simp only [zz,reduceCtorEq,List.length_map] <;> omega,?_⟩;have henc:=Za7 (e:=es[i]) hrc.rc.rising hlow hlp;have hu:=Z9T hcj heo;refine Z0 Z14 ⟨{l with cues:=out},j,updC es[i] out[j],hoOk,hu,hjo,by show out.length≤1000000;omega,?_,_,rfl,?_⟩
     · simp only [zz,reduceCtorEq,J0 hjo,J0 hi,Cue.enc,Ent.enc,D.upd,Lis.enc,updC];rw [←henc]
     · simp only [zz,reduceCtorEq,Lis.enc];have hmod:out.modify j (updC es[i])=out.set j (updC es[i] out[j]):=by
         apply List.ext_getElem?;intro k;rw [List.getElem?_modify,List.getElem?_set];by_cases h:j=k
         · subst h;simp [hjo]
         · simp [h]
       rw [hmod]at hgo;exact⟨(own,out.set j (updC es[i] out[j])),⟨rfl,by rw [Z1] <;> omega,rfl⟩,⟨by show own.length≤i+1;omega,hI2,hmod▸hI3.upd heo (hE.val _ hem) j⟩,hgo⟩
 · rintro⟨own,out⟩ ⟨hI1,hI2,hI3⟩ hgo;simp only [ownE,List.filter_nil,List.append_nil,List.foldl_nil,Prod.mk.injEq]at hgo hI1 hI2 hI3;obtain⟨rfl,rfl⟩:=hgo;refine⟨fun h=>?_,fun _=>?_⟩
   · exfalso;simp only [zz,reduceCtorEq,List.length_map,Nat.lt_irrefl]at h
   have hoOk:Lis.Ok {l with cues:=updL l.cues (A.length+1) es}:= {hl with cues:=hI3.ok}
   have hlo:A.length < (updL l.cues (A.length+1) es).length:=by rw [hI3.len];exact hlt
   have hol:(updL l.cues (A.length+1) es).length≤64:=by rw [hI3.len];exact hlen64
   have hd16:=hI3.ck _ (List.getElem_mem hlo);have hdo:=hI3.ok _ (List.getElem_mem hlo);have howR:RightEs (ownE l.cues (A.length+1) es):=Z97 hE.es;have howO:∀e∈ownE l.cues (A.length+1) es,e.Ok:=hI2;have hul:Z0L l.cues (A.length+1) es=(updL l.cues (A.length+1) es).set A.length (setC (updL l.cues (A.length+1) es)[A.length] (ownE l.cues (A.length+1) es) 1):=by
     unfold Z0L;rw [Nat.add_sub_cancel,ZaW hlo]
   change ∀e∈ownE l.cues (A.length+1) es,e.Ok at hI2;have hsh:JF {l with cues:=Z0L l.cues (A.length+1) es}=if 128 < (setC (updL l.cues (A.length+1) es)[A.length] (ownE l.cues (A.length+1) es) 1).moves.length then(zeroL,5)else({l with cues:=Z0L l.cues (A.length+1) es},0):=by
     rw [hul];split
     · rename_i h;exact YJ (c:=setC (updL l.cues (A.length+1) es)[A.length] (ownE l.cues (A.length+1) es) 1) (by rw [List.mem_iff_getElem];exact⟨A.length,by simpa using hlo,by simp⟩) h
     · rename_i h;refine WO (by simp;omega) fun x hx=>?_
       rcases List.mem_or_eq_of_mem_set hx with hx|rfl
       · exact(Z00 (hI3.ck x hx)).len
       · omega
   rw [hsh]at hK;have hg:ZN {l with cues:=updL l.cues (A.length+1) es} A.length (updL l.cues (A.length+1) es)[A.length] (ownE l.cues (A.length+1) es)=
       if 128 < (setC (updL l.cues (A.length+1) es)[A.length] (ownE l.cues (A.length+1) es) 1).moves.length then(zeroL,5)else({l with cues:=Z0L l.cues (A.length+1) es},0):=by
     unfold ZN;rw [Z17 hd16 howR,hul];by_cases h:128 < (setC (updL l.cues (A.length+1) es)[A.length] (ownE l.cues (A.length+1) es) 1).moves.length
     · simp only [h,if_true];rfl
     · simp only [h,if_false];rfl
   have hgOk:(ZN {l with cues:=updL l.cues (A.length+1) es} A.length (updL l.cues (A.length+1) es)[A.length] (ownE l.cues (A.length+1) es)).1.Ok∧I64 (ZN {l with cues:=updL l.cues (A.length+1) es} A.length (updL l.cues (A.length+1) es)[A.length] (ownE l.cues (A.length+1) es)).2:=by
     rw [hg];split
     · exact⟨Z2R,show I64 5 from⟨by decide,by decide⟩⟩
     · refine⟨{hl with cues:=?_},show I64 0 from⟨by decide,by decide⟩⟩;intro x hx;have hx:x∈Z0L l.cues (A.length+1) es:=hx;rw [hul]at hx;rcases List.mem_or_eq_of_mem_set hx with hx|rfl
       · exact hI3.ok x hx
       · exact YM hdo howO ⟨by decide,by decide⟩
   refine Z0 Z3K ⟨{l with cues:=updL l.cues (A.length+1) es},A.length,ownE l.cues (A.length+1) es,hlo,hoOk,howO,by show(updL l.cues (A.length+1) es).length≤1000000;omega,by simp only [zz,reduceCtorEq,Lis.enc];rfl,?_⟩;refine⟨_,rfl,?_⟩;refine Z0 Z2T ⟨_,_,hgOk.1,hgOk.2,by simp only [zz,reduceCtorEq,Lis.enc],_,rfl,?_⟩;rw [hg];by_cases h8:128 < (setC (updL l.cues (A.length+1) es)[A.length] (ownE l.cues (A.length+1) es) 1).moves.length
   · rw [if_pos h8];rw [if_pos h8]at hK;simp only [zz,reduceCtorEq,Lis.enc];exact hK
   · rw [if_neg h8];rw [if_neg h8]at hK;simp only [zz,reduceCtorEq,Lis.enc];exact hK
end Go.Sx.La
namespace Go.Sx.La
open Go Go.Sx
def Z6f (c:Cue):Cue:= {c with moves:=[]}
end Go.Sx.La
namespace Go.Sx.La
open Go Go.Sx Go.RowKit Go.Proofs
theorem Z8V {a b:List Cue} (h:a.map Z6f=b.map Z6f):a.map (·.num)=b.map (·.num):=by
 have:=congrArg (List.map fun c:Cue=>c.num) h;simpa [List.map_map,Function.comp_def,Z6f]using this
theorem Z2f {a b:List Cue} (h:a.map (·.num)=b.map (·.num)) (hb:Ys b):Ys a:=by
 have e:∀l:List Cue,Ys l↔(l.map (·.num)).Pairwise fun x y=>We x < We y:=by
   intro l;rw [List.pairwise_map];rfl
 rw [e]at hb ⊢;rw [h];exact hb
theorem Z7h {Z Z':List Cue} (h:∀p,vl Z p=vl Z' p) (p:Par):∀X:List Cue,vl (X++Z) p=vl (X++Z') p
 | []=>h p
 |c::X=>by simp only [List.cons_append,vl,Z7h h p X]
noncomputable def t79:R:=.ret [.own 4 (.push .nils (Vl (Va 0) (Vl (Va 1) (Vl (Vn 0) (Vl (Va 2) .lnil)))))]
theorem ZfE:fnO Tryz.prog mdA 79 [.agg [.int .i64,.int .i64],.cell (.int .i64)]=t79:=by kernel_rfl
noncomputable def t80:R:=.ret [.d (Vl (Vn 1) (Vl (Vn 1) .lnil))]
theorem ZfD:fnO Tryz.prog mdA 80 []=t80:=by kernel_rfl
noncomputable def t81:R:=let x0:T:=.idx (Va 2) (Va 6) 2 (.slice mvKs);.fact (.o2 .le (.o1 .len (Va 2)) (Vn 140737488355328)) (.loop 0 [Vn 0] [.int .i64] (.ite (.o2 .lt (Va 6) (.o1 .len (Va 2))) (.need (.o2 .le (Vn 0) (Va 6)) (.fact (.o2 .le (.o1 .len x0) (Vn 140737488355328)) (.loop 1 [Vn 0] [.int .i64] (.ite (.o2 .lt (Va 7) (.o1 .len x0)) (.need (.o2 .le (Vn 0) (Va 7)) (.ite (.ite (.o2 .eq (.idx (Va 2) (Va 6) 0 .str) (Va 3)) (.o2 .band (.o2 .eq (.idx x0 (Va 7) 0 (.int .i64)) (Va 4)) (.o2 .band (.o2 .eq (.idx x0 (Va 7) 1 (.int .i64)) (Va 5)) (.bool true))) (.bool false)) (.ret [.d (Vl (.idx x0 (Va 7) 2 (.int .i64)) (Vl (.idx x0 (Va 7) 3 (.int .i64)) .lnil)),.d (.bool true)]) (.again 1 [.o2 (.add .i64) (Va 7) (Vn 1)]))) (.again 0 [.o2 (.add .i64) (Va 6) (Vn 1)]))))) (.ret [.d (Vl (Vn 0) (Vl (Vn 0) .lnil)),.d (.bool false)])))
theorem ZfC:fnO Tryz.prog mdA 81 [.agg liKs,.cell .str,.agg [.int .i64,.int .i64]]=t81:=by kernel_rfl
theorem JZ:Contract Tryz.prog 80 fun args K=>args=[]∧K [.d (.agg (Par.enc ⟨1,1⟩))]:=by
 refine .of (by kernel_rfl) ZfD ?_;rintro _ K ⟨rfl,hK⟩ hsm;refine⟨[],rfl,by trivial,?_⟩;simp only [zz,reduceCtorEq,t80];exact hK
theorem Z0v:Contract Tryz.prog 79 fun args K=>∃(p:Par) (v:Int),p.Ok∧I64 v∧args=[.agg p.enc,.int .i64 v]∧K [.own 4 ([(⟨p,⟨0,v⟩⟩:Ent)].map Ent.enc)]:=by
 refine .of (by kernel_rfl) ZfE ?_;rintro _ K ⟨p,v,hp,hv,rfl,hK⟩ hsm;refine⟨p.enc++[.int .i64 v],rfl,by exact(Par.has hp).append (show HasKs [.int .i64] [.int .i64 v]from⟨Y3 hv,trivial⟩),?_⟩;simp only [zz,reduceCtorEq,t79,Par.enc,Ent.enc];exact hK
theorem ZaH {a b:Par} (h1:a.ch=b.ch) (h2:a.at_=b.at_):a=b:=by
 cases a;cases b;simp only at h1 h2;rw [h1,h2]
def mvd (s:List UInt8) (p:Par) (c:Cue):Option Val:=if c.num=s then(Jb c.moves p).map Mov.va else none
def Z2v (l:Lis) (s:List UInt8) (p:Par):Option Val:=l.cues.findSome? (mvd s p)
set_option maxHeartbeats 1000000 in
theorem Wg:Contract Tryz.prog 81 fun args K=>∃(l:Lis) (s:List UInt8) (p:Par),l.Ok∧p.Ok∧args=[.agg l.enc,.str s,.agg p.enc]∧
   K [.d (.agg (((Z2v l s p).getD ⟨0,0⟩).enc)),.d (.bool (Z2v l s p).isSome)]:=by
 refine .of (by kernel_rfl) ZfC ?_;rintro _ K ⟨l,s,p,hl,hp,rfl,hK⟩ hsm;refine⟨l.enc++.str s::p.enc,rfl,by exact(Lis.has hl).append (show HasKs (.str::paKs) (.str s::p.enc)from⟨trivial,Par.has hp⟩),?_⟩;simp only [zz,reduceCtorEq,t81,Lis.enc,List.length_map,Par.enc];intro hcap;refine Wc l.cues (fun _ xs (_:Unit)=>xs.findSome? (mvd s p)) (fun i _=>[.int .i64 i]) () (Z2v l s p) rfl 0 (fun _ _=>rfl) rfl ?_ ?_
 · intro i hi _ hgo;simp only [zz,reduceCtorEq,List.length_map,hi,J0 hi,Cue.enc];refine⟨by omega,fun hc2=>?_⟩;refine Wc l.cues[i].moves (fun _ xs (_:Unit)=>if l.cues[i].num=s then(Jb xs p).map Mov.va else none) (fun i _=>[.int .i64 i]) () (mvd s p l.cues[i]) rfl 0 (fun _ _=>rfl) rfl ?_ ?_
   · intro j hj _ hgo2;simp only [zz,reduceCtorEq,List.length_map,hi,J0 hi,Cue.enc,hj,J0 hj,Mov.enc];refine⟨by omega,fun⟨h1,h2,h3⟩=>?_,fun h=>⟨(),by rw [Z1] <;> omega,?_⟩⟩
     · have h1':l.cues[i].num=s:=by simpa using h1
       have h4:decide (l.cues[i].moves[j].pa=p)=true:=by
         rw [decide_eq_true_eq];exact ZaH h2 h3
       rw [if_pos h1']at hgo2;rw [show Jb (l.cues[i].moves[j]::l.cues[i].moves.drop (j+1)) p=some l.cues[i].moves[j]from List.find?_cons_of_pos (p:=fun m:Mov=>decide (m.pa=p)) h4]at hgo2;simp only [Option.map_some]at hgo2;rw [List.findSome?_cons, ←hgo2]at hgo;simp only at hgo;rw [←hgo]at hK;exact hK
     · rw [←hgo2];rcases Decidable.em (l.cues[i].num=s)with h1|h1
       · rw [if_pos h1,if_pos h1];have h4:¬decide (l.cues[i].moves[j].pa=p)=true:=by
           rw [decide_eq_true_eq];intro h5;rw [h1,h5]at h;simp at h
         rw [show Jb (l.cues[i].moves[j]::l.cues[i].moves.drop (j+1)) p=Jb (l.cues[i].moves.drop (j+1)) p from List.find?_cons_of_neg (p:=fun m:Mov=>decide (m.pa=p)) h4]
       · rw [if_neg h1,if_neg h1]
   · intro _ hgo2;simp only [zz,reduceCtorEq,List.length_map,hi,J0 hi,Cue.enc,Nat.lt_irrefl];have hw:wr64 ((i:Int)+1)=((i+1:Nat):Int):=by rw [Z1] <;> omega
     refine⟨rfl,(),by rw [hw],?_⟩;simp only [Jb,List.find?_nil,Option.map_none,ite_self]at hgo2;rw [List.findSome?_cons, ←hgo2]at hgo;exact hgo
 · intro _ hgo;simp only [List.findSome?_nil]at hgo;simp only [zz,reduceCtorEq,List.length_map,Nat.lt_irrefl];rw [←hgo]at hK;exact hK
def i64B (v:Int):Bool:=decide (-9223372036854775808≤v)&&decide (v≤9223372036854775807)
theorem W9 {v:Int} (h:i64B v=true):I64 v:=by
 simp only [i64B,Bool.and_eq_true,decide_eq_true_eq]at h;exact h
def movB (m:Mov):Bool:=i64B m.pa.ch&&i64B m.pa.at_&&i64B m.va.pal&&i64B m.va.lev&&i64B m.part
def timB (t:Tim):Bool:=i64B t.up&&i64B t.down&&i64B t.pos&&i64B t.col&&i64B t.beam&&i64B t.delay
def cueB (c:Cue):Bool:=c.moves.all movB&&c.parts.all timB&&i64B c.follow&&i64B c.loops
def lisB (l:Lis):Bool:=i64B l.num&&i64B l.prio&&l.cues.all cueB
theorem Yx {l:Lis} (h:lisB l=true):l.Ok:=by
 simp only [lisB,Bool.and_eq_true,List.all_eq_true]at h;refine⟨W9 h.1.1,W9 h.1.2,fun c hc=>?_⟩;have h2:=h.2 c hc;simp only [cueB,Bool.and_eq_true,List.all_eq_true]at h2;refine⟨fun m hm=>?_,fun t ht=>?_,W9 h2.1.2,W9 h2.2⟩
 · have h3:=h2.1.1.1 m hm;simp only [movB,Bool.and_eq_true]at h3;exact⟨⟨W9 h3.1.1.1.1,W9 h3.1.1.1.2⟩,⟨W9 h3.1.1.2,W9 h3.1.2⟩,W9 h3.2⟩
 · have h3:=h2.1.1.2 t ht;simp only [timB,Bool.and_eq_true]at h3;exact⟨W9 h3.1.1.1.1.1,W9 h3.1.1.1.1.2,W9 h3.1.1.1.2,W9 h3.1.1.2,W9 h3.1.2,W9 h3.2⟩
def ra:Lis×Int:=Z3p four [49,46,53] [⟨⟨1,1⟩,⟨0,8⟩⟩] 1 true
def rb:Lis×Int:=Z3f four [50] [⟨⟨1,1⟩,⟨0,5⟩⟩]
def rc19:Lis×Int:=Z3T four [49] true
def rd:Lis×Int:=Z2M four [52]
def ru:Lis×Int:=YI four [51]
theorem Zaz:lisB ra.1=true:=by kernel_rfl
theorem Zaw:lisB rb.1=true:=by kernel_rfl
theorem Zau:lisB rc19.1=true:=by kernel_rfl
theorem Zam:lisB rd.1=true:=by kernel_rfl
theorem Zgw:lisB ru.1=true:=by kernel_rfl
theorem ZgM:ra.2=0:=by kernel_rfl
theorem ZgE:rb.2=0:=by kernel_rfl
theorem ZgB:rc19.2=0:=by kernel_rfl
theorem Zgy:rd.2=0:=by kernel_rfl
theorem Zgx:ru.2=0:=by kernel_rfl
theorem ZgI:ra.1.cues.length=5:=by kernel_rfl
theorem Zgz:rc19.1.cues.length=3:=by kernel_rfl
theorem Zax:Z2v ra.1 [50] ⟨1,1⟩=some ⟨0,7⟩:=by kernel_rfl
theorem Zav:Z2v rb.1 [49] ⟨1,1⟩=some ⟨0,5⟩:=by kernel_rfl
theorem Zaq:Z2v rc19.1 [50] ⟨1,1⟩=some ⟨0,7⟩:=by kernel_rfl
theorem Zal:Z2v rd.1 [52] ⟨1,1⟩=some ⟨0,9⟩:=by kernel_rfl
theorem Zgv:Z2v ru.1 [51] ⟨1,0⟩=some ⟨-1,0⟩:=by kernel_rfl
noncomputable def t23:R:=let x0:List K:=Ja;let x1:List K:=[.int .i64,.int .i64];let x2:T:=Vl (Va 1) (Vl (Va 2) .lnil);let x3:List K:=enKs;let x4:T:=.o2 .eq (.o2 (.add .i64) (.o2 (.add .i64) (.o2 (.add .i64) (.o2 (.add .i64) (Va 3) (Va 14)) (Va 28)) (Va 32)) (Va 36)) (Vn 0);let x5:List K:=[.bool,.int .i64,.int .i64,.int .i64,.int .i64,.bool,.int .i64,.int .i64];let x6:T:=Vl (Va 12) (Vl (Va 13) .lnil);let x7:T:=Vl (Va 23) (Vl (Va 24) .lnil);let x8:T:=Vl (Va 26) (Vl (Va 27) .lnil);let x9:T:=Vl (Va 30) (Vl (Va 31) .lnil);let x10:T:=Vl (Va 16) .lnil;let x11:T:=Vl (Va 39) .lnil;let x12:T:=Vl (Va 47) .lnil;let x13:T:=Vl (Va 55) .lnil;let x14:T:=Vl (Va 63) .lnil;let x15:T:=.o2 .eq (.o1 .len (Va 13)) (Vn 5);let x16:T:=Vl (Va 5) .lnil;.call none (.fn 78) [] [.agg [.int .i64,.int .i64,.slice x0]] (.join 0 [.int .i64,.int .i64,.int .i64,.slice x3,.int .i64,.int .i64,.slice x0,.int .i64,.int .i64,.int .i64,.slice x0] (.guess (.bool true) (.ite (Va 3) (.call none (.fn 80) [] [.agg x1] (.guess (.bool true) (.ite (Va 6) (.call none (.fn 79) [Vl (Va 4) x16,Vn 8] [.cell (.slice x3)] (.guess (.bool true) (.ite (Va 8) (.call none (.fn 16) [Vl (Va 0) x2,.str [49,46,53],Va 7,Vn 1,.bool true] [.agg [.int .i64,.int .i64,.slice x0],.cell (.int .i64)] (.again 0 [Va 12,Va 4,Va 5,Va 7,Va 9,Va 10,Va 11,Va 12,Va 9,Va 10,Va 11])) (.call none (.fn 16) [Vl (Va 0) x2,.str [49,46,53],Va 7,Vn 1,.bool true] [.agg [.int .i64,.int .i64,.slice x0],.cell (.int .i64)] (.again 0 [Va 12,Va 4,Va 5,Va 7,Va 9,Va 10,Va 11,Va 12,Va 9,Va 10,Va 11]))))) (.call none (.fn 79) [Vl (Va 4) x16,Vn 8] [.cell (.slice x3)] (.call none (.fn 16) [Vl (Va 0) x2,.str [49,46,53],Va 7,Vn 1,.bool true] [.agg [.int .i64,.int .i64,.slice x0],.cell (.int .i64)] (.again 0 [Va 11,Va 4,Va 5,Va 7,Va 8,Va 9,Va 10,Va 11,Va 8,Va 9,Va 10])))))) (.call none (.fn 80) [] [.agg x1] (.call none (.fn 79) [Vl (Va 4) x16,Vn 8] [.cell (.slice x3)] (.call none (.fn 16) [Vl (Va 0) x2,.str [49,46,53],Va 6,Vn 1,.bool true] [.agg [.int .i64,.int .i64,.slice x0],.cell (.int .i64)] (.again 0 [Va 10,Va 4,Va 5,Va 6,Va 7,Va 8,Va 9,Va 10,Va 7,Va 8,Va 9])))))) (.join 0 [.int .i64,.int .i64,.int .i64,.slice x3,.int .i64,.int .i64,.slice x0,.int .i64,.int .i64,.int .i64,.slice x0] (.guess (.bool true) (.ite (Va 14) (.call none (.fn 80) [] [.agg x1] (.guess (.bool true) (.ite (Va 17) (.call none (.fn 79) [Vl (Va 15) x10,Vn 5] [.cell (.slice x3)] (.guess (.bool true) (.ite (Va 19) (.call none (.fn 28) [Vl (Va 0) x2,.str [50],Va 18] [.agg [.int .i64,.int .i64,.slice x0],.cell (.int .i64)] (.again 0 [Va 23,Va 15,Va 16,Va 18,Va 20,Va 21,Va 22,Va 23,Va 20,Va 21,Va 22])) (.call none (.fn 28) [Vl (Va 0) x2,.str [50],Va 18] [.agg [.int .i64,.int .i64,.slice x0],.cell (.int .i64)] (.again 0 [Va 23,Va 15,Va 16,Va 18,Va 20,Va 21,Va 22,Va 23,Va 20,Va 21,Va 22]))))) (.call none (.fn 79) [Vl (Va 15) x10,Vn 5] [.cell (.slice x3)] (.call none (.fn 28) [Vl (Va 0) x2,.str [50],Va 18] [.agg [.int .i64,.int .i64,.slice x0],.cell (.int .i64)] (.again 0 [Va 22,Va 15,Va 16,Va 18,Va 19,Va 20,Va 21,Va 22,Va 19,Va 20,Va 21])))))) (.call none (.fn 80) [] [.agg x1] (.call none (.fn 79) [Vl (Va 15) x10,Vn 5] [.cell (.slice x3)] (.call none (.fn 28) [Vl (Va 0) x2,.str [50],Va 17] [.agg [.int .i64,.int .i64,.slice x0],.cell (.int .i64)] (.again 0 [Va 21,Va 15,Va 16,Va 17,Va 18,Va 19,Va 20,Va 21,Va 18,Va 19,Va 20])))))) (.call none (.fn 17) [Vl (Va 0) x2,.str [49],.bool true] [.agg [.int .i64,.int .i64,.slice x0],.cell (.int .i64)] (.call none (.fn 39) [Vl (Va 0) x2,.str [52]] [.agg [.int .i64,.int .i64,.slice x0],.cell (.int .i64)] (.call none (.fn 40) [Vl (Va 0) x2,.str [51]] [.agg [.int .i64,.int .i64,.slice x0],.cell (.int .i64)] (.join 0 x5 (.guess (.bool true) (.ite (Va 37) (.call none (.fn 80) [] [.agg x1] (.guess (.bool true) (.ite (Va 40) (.call none (.fn 81) [Vl (Va 11) x6,.str [50],Vl (Va 38) x11] [.agg x1,.cell .bool] (.again 0 [Va 43,Va 38,Va 39,Va 41,Va 42,Va 43,Va 41,Va 42])) (.call none (.fn 81) [Vl (Va 11) x6,.str [50],Vl (Va 38) x11] [.agg x1,.cell .bool] (.again 0 [Va 43,Va 38,Va 39,Va 41,Va 42,Va 43,Va 41,Va 42]))))) (.call none (.fn 80) [] [.agg x1] (.call none (.fn 81) [Vl (Va 11) x6,.str [50],Vl (Va 38) x11] [.agg x1,.cell .bool] (.again 0 [Va 42,Va 38,Va 39,Va 40,Va 41,Va 42,Va 40,Va 41]))))) (.join 0 x5 (.guess (.bool true) (.ite (Va 45) (.call none (.fn 80) [] [.agg x1] (.guess (.bool true) (.ite (Va 48) (.call none (.fn 81) [Vl (Va 22) x7,.str [49],Vl (Va 46) x12] [.agg x1,.cell .bool] (.again 0 [Va 51,Va 46,Va 47,Va 49,Va 50,Va 51,Va 49,Va 50])) (.call none (.fn 81) [Vl (Va 22) x7,.str [49],Vl (Va 46) x12] [.agg x1,.cell .bool] (.again 0 [Va 51,Va 46,Va 47,Va 49,Va 50,Va 51,Va 49,Va 50]))))) (.call none (.fn 80) [] [.agg x1] (.call none (.fn 81) [Vl (Va 22) x7,.str [49],Vl (Va 46) x12] [.agg x1,.cell .bool] (.again 0 [Va 50,Va 46,Va 47,Va 48,Va 49,Va 50,Va 48,Va 49]))))) (.join 0 x5 (.guess (.bool true) (.ite (Va 53) (.call none (.fn 80) [] [.agg x1] (.guess (.bool true) (.ite (Va 56) (.call none (.fn 81) [Vl (Va 25) x8,.str [50],Vl (Va 54) x13] [.agg x1,.cell .bool] (.again 0 [Va 59,Va 54,Va 55,Va 57,Va 58,Va 59,Va 57,Va 58])) (.call none (.fn 81) [Vl (Va 25) x8,.str [50],Vl (Va 54) x13] [.agg x1,.cell .bool] (.again 0 [Va 59,Va 54,Va 55,Va 57,Va 58,Va 59,Va 57,Va 58]))))) (.call none (.fn 80) [] [.agg x1] (.call none (.fn 81) [Vl (Va 25) x8,.str [50],Vl (Va 54) x13] [.agg x1,.cell .bool] (.again 0 [Va 58,Va 54,Va 55,Va 56,Va 57,Va 58,Va 56,Va 57]))))) (.join 0 x5 (.guess (.bool true) (.ite (Va 61) (.call none (.fn 80) [] [.agg x1] (.guess (.bool true) (.ite (Va 64) (.call none (.fn 81) [Vl (Va 29) x9,.str [52],Vl (Va 62) x14] [.agg x1,.cell .bool] (.again 0 [Va 67,Va 62,Va 63,Va 65,Va 66,Va 67,Va 65,Va 66])) (.call none (.fn 81) [Vl (Va 29) x9,.str [52],Vl (Va 62) x14] [.agg x1,.cell .bool] (.again 0 [Va 67,Va 62,Va 63,Va 65,Va 66,Va 67,Va 65,Va 66]))))) (.call none (.fn 80) [] [.agg x1] (.call none (.fn 81) [Vl (Va 29) x9,.str [52],Vl (Va 62) x14] [.agg x1,.cell .bool] (.again 0 [Va 66,Va 62,Va 63,Va 64,Va 65,Va 66,Va 64,Va 65]))))) (.call none (.fn 81) [Vl (Va 33) (Vl (Va 34) (Vl (Va 35) .lnil)),.str [51],Vl (Vn 1) (Vl (Vn 0) .lnil)] [.agg x1,.cell .bool] (.fact (.ite x4 (.o2 .le (.o1 .len (Va 13)) (Vn 140737488355328)) (.bool true)) (.fact (.ite (.ite x4 x15 (.bool false)) (.o2 .le (.o1 .len (Va 27)) (Vn 140737488355328)) (.bool true)) (.ret [.d (.ite (.ite (.ite (.ite (.ite (.ite (.ite (.ite (.ite (.ite (.ite (.ite x4 x15 (.bool false)) (.o2 .eq (.o1 .len (Va 27)) (Vn 3)) (.bool false)) (Va 37) (.bool false)) (Va 45) (.bool false)) (Va 53) (.bool false)) (Va 61) (.bool false)) (Va 71) (.bool false)) (.o2 .eq (Va 44) (Vn 7)) (.bool false)) (.o2 .eq (Va 52) (Vn 5)) (.bool false)) (.o2 .eq (Va 60) (Vn 7)) (.bool false)) (.o2 .eq (Va 68) (Vn 9)) (.bool false)) (.o2 .eq (Va 69) (Vn (-1))) (.bool false))])))))))))))))
theorem Zgm:fnO Tryz.prog mdJ 23 []=t23:=by kernel_rfl
theorem i1:I64 1:=⟨by decide,by decide⟩
theorem i8:I64 8:=⟨by decide,by decide⟩
theorem i5:I64 5:=⟨by decide,by decide⟩
theorem i0:I64 0:=⟨by decide,by decide⟩
theorem Zct:∀e∈[(⟨⟨1,1⟩,⟨0,8⟩⟩:Ent)],e.Ok:=by intro e he;simp at he;subst he;exact⟨⟨i1,i1⟩,i0,i8⟩
theorem Zcu:∀e∈[(⟨⟨1,1⟩,⟨0,5⟩⟩:Ent)],e.Ok:=by intro e he;simp at he;subst he;exact⟨⟨i1,i1⟩,i0,i5⟩
theorem Zc1:Z3p four [49,46,53] [⟨⟨1,1⟩,⟨0,8⟩⟩] 1 true=ra:=rfl
theorem Zc0:Z3f four [50] [⟨⟨1,1⟩,⟨0,5⟩⟩]=rb:=rfl
theorem rc_eq:Z3T four [49] true=rc19:=rfl
theorem rd_eq:Z2M four [52]=rd:=rfl
theorem ru_eq:YI four [51]=ru:=rfl
def invE (r:Lis×Int) (v:Int):Option Nat→List D→Prop:=fun c xs=>c=none∧xs=[.int .i64 r.2,.int .i64 1,.int .i64 1,.slice ([(⟨⟨1,1⟩,⟨0,v⟩⟩:Ent)].map Ent.enc),.int .i64 r.1.num,.int .i64 r.1.prio,.slice (r.1.cues.map Cue.enc),.int .i64 r.2,.int .i64 r.1.num,.int .i64 r.1.prio,.slice (r.1.cues.map Cue.enc)]
def invM (v:Int):Option Nat→List D→Prop:=fun c xs=>c=none∧xs=[.bool true,.int .i64 1,.int .i64 1,.int .i64 0,.int .i64 v,.bool true,.int .i64 0,.int .i64 v]
set_option maxHeartbeats 4000000 in
theorem Z0B:Contract Tryz.prog 23 fun args K=>args=[]∧K [.d (.bool true)]:=by
 refine .of (by kernel_rfl) Zgm ?_;rintro _ K ⟨rfl,hK⟩ hsm;refine⟨[],rfl,by trivial,?_⟩;refine Z0 Zf9 ⟨rfl,_,rfl,?_⟩;refine⟨invE ra 8,?_,?_⟩
 · rw [Jc];rintro b1 -;rcases b1 with _|_
   · refine W3 (by simp only [zz,reduceCtorEq,Lis.enc,Par.enc,Ent.enc,List.map,Val.enc]) ?_;refine Z0 JZ ⟨rfl,_,rfl,?_⟩;refine Z0 Z0v ⟨⟨1,1⟩,8,⟨i1,i1⟩,i8,by simp only [zz,reduceCtorEq,Lis.enc,Par.enc,Ent.enc,List.map],_,rfl,?_⟩;refine Z0 Z1g ⟨four,[49,46,53],[⟨⟨1,1⟩,⟨0,8⟩⟩],1,true,JG,Zct,i1,by simp only [zz,reduceCtorEq,Lis.enc,Par.enc,Ent.enc,List.map],_,rfl,?_⟩;simp only [zz,reduceCtorEq,Lis.enc,Par.enc,Ent.enc,List.map,Zc1,invE]
     all_goals first|rfl|exact⟨rfl,trivial⟩|exact⟨rfl,rfl⟩
   · refine Z4 (by simp only [zz,reduceCtorEq,Lis.enc,Par.enc,Ent.enc,List.map,Val.enc]) ?_;refine Z0 JZ ⟨rfl,_,rfl,?_⟩;rw [Jc];rintro b2 -;rcases b2 with _|_
     · refine W3 (by simp only [zz,reduceCtorEq,Lis.enc,Par.enc,Ent.enc,List.map,Val.enc]) ?_;refine Z0 Z0v ⟨⟨1,1⟩,8,⟨i1,i1⟩,i8,by simp only [zz,reduceCtorEq,Lis.enc,Par.enc,Ent.enc,List.map],_,rfl,?_⟩;refine Z0 Z1g ⟨four,[49,46,53],[⟨⟨1,1⟩,⟨0,8⟩⟩],1,true,JG,Zct,i1,by simp only [zz,reduceCtorEq,Lis.enc,Par.enc,Ent.enc,List.map],_,rfl,?_⟩;simp only [zz,reduceCtorEq,Lis.enc,Par.enc,Ent.enc,List.map,Zc1,invE]
       all_goals first|rfl|exact⟨rfl,trivial⟩|exact⟨rfl,rfl⟩
     · refine Z4 (by simp only [zz,reduceCtorEq,Lis.enc,Par.enc,Ent.enc,List.map,Val.enc]) ?_;refine Z0 Z0v ⟨⟨1,1⟩,8,⟨i1,i1⟩,i8,by simp only [zz,reduceCtorEq,Lis.enc,Par.enc,Ent.enc,List.map],_,rfl,?_⟩;rw [Jc];rintro b3 -;rcases b3 with _|_
       · refine W3 (by simp only [zz,reduceCtorEq,Lis.enc,Par.enc,Ent.enc,List.map,Val.enc]) ?_;refine Z0 Z1g ⟨four,[49,46,53],[⟨⟨1,1⟩,⟨0,8⟩⟩],1,true,JG,Zct,i1,by simp only [zz,reduceCtorEq,Lis.enc,Par.enc,Ent.enc,List.map],_,rfl,?_⟩;simp only [zz,reduceCtorEq,Lis.enc,Par.enc,Ent.enc,List.map,Zc1,invE]
         all_goals first|rfl|exact⟨rfl,trivial⟩|exact⟨rfl,rfl⟩
       · refine Z4 (by simp only [zz,reduceCtorEq,Lis.enc,Par.enc,Ent.enc,List.map,Val.enc]) ?_;refine Z0 Z1g ⟨four,[49,46,53],[⟨⟨1,1⟩,⟨0,8⟩⟩],1,true,JG,Zct,i1,by simp only [zz,reduceCtorEq,Lis.enc,Par.enc,Ent.enc,List.map],_,rfl,?_⟩;simp only [zz,reduceCtorEq,Lis.enc,Par.enc,Ent.enc,List.map,Zc1,invE]
         all_goals first|rfl|exact⟨rfl,trivial⟩|exact⟨rfl,rfl⟩
 · rintro _ _ - ⟨rfl,rfl⟩;refine⟨invE rb 5,?_,?_⟩
   · rw [Jc];rintro b1 -;rcases b1 with _|_
     · refine W3 (by simp only [zz,reduceCtorEq,Lis.enc,Par.enc,Ent.enc,List.map,Val.enc]) ?_;refine Z0 JZ ⟨rfl,_,rfl,?_⟩;refine Z0 Z0v ⟨⟨1,1⟩,5,⟨i1,i1⟩,i5,by simp only [zz,reduceCtorEq,Lis.enc,Par.enc,Ent.enc,List.map],_,rfl,?_⟩;refine Z0 Z16 ⟨four,[50],[⟨⟨1,1⟩,⟨0,5⟩⟩],JG,Zcu,by simp only [zz,reduceCtorEq,Lis.enc,Par.enc,Ent.enc,List.map],_,rfl,?_⟩;simp only [zz,reduceCtorEq,Lis.enc,Par.enc,Ent.enc,List.map,Zc0,invE]
       all_goals first|rfl|exact⟨rfl,trivial⟩|exact⟨rfl,rfl⟩
     · refine Z4 (by simp only [zz,reduceCtorEq,Lis.enc,Par.enc,Ent.enc,List.map,Val.enc]) ?_;refine Z0 JZ ⟨rfl,_,rfl,?_⟩;rw [Jc];rintro b2 -;rcases b2 with _|_
       · refine W3 (by simp only [zz,reduceCtorEq,Lis.enc,Par.enc,Ent.enc,List.map,Val.enc]) ?_;refine Z0 Z0v ⟨⟨1,1⟩,5,⟨i1,i1⟩,i5,by simp only [zz,reduceCtorEq,Lis.enc,Par.enc,Ent.enc,List.map],_,rfl,?_⟩;refine Z0 Z16 ⟨four,[50],[⟨⟨1,1⟩,⟨0,5⟩⟩],JG,Zcu,by simp only [zz,reduceCtorEq,Lis.enc,Par.enc,Ent.enc,List.map],_,rfl,?_⟩;simp only [zz,reduceCtorEq,Lis.enc,Par.enc,Ent.enc,List.map,Zc0,invE]
         all_goals first|rfl|exact⟨rfl,trivial⟩|exact⟨rfl,rfl⟩
       · refine Z4 (by simp only [zz,reduceCtorEq,Lis.enc,Par.enc,Ent.enc,List.map,Val.enc]) ?_;refine Z0 Z0v ⟨⟨1,1⟩,5,⟨i1,i1⟩,i5,by simp only [zz,reduceCtorEq,Lis.enc,Par.enc,Ent.enc,List.map],_,rfl,?_⟩;rw [Jc];rintro b3 -;rcases b3 with _|_
         · refine W3 (by simp only [zz,reduceCtorEq,Lis.enc,Par.enc,Ent.enc,List.map,Val.enc]) ?_;refine Z0 Z16 ⟨four,[50],[⟨⟨1,1⟩,⟨0,5⟩⟩],JG,Zcu,by simp only [zz,reduceCtorEq,Lis.enc,Par.enc,Ent.enc,List.map],_,rfl,?_⟩;simp only [zz,reduceCtorEq,Lis.enc,Par.enc,Ent.enc,List.map,Zc0,invE]
           all_goals first|rfl|exact⟨rfl,trivial⟩|exact⟨rfl,rfl⟩
         · refine Z4 (by simp only [zz,reduceCtorEq,Lis.enc,Par.enc,Ent.enc,List.map,Val.enc]) ?_;refine Z0 Z16 ⟨four,[50],[⟨⟨1,1⟩,⟨0,5⟩⟩],JG,Zcu,by simp only [zz,reduceCtorEq,Lis.enc,Par.enc,Ent.enc,List.map],_,rfl,?_⟩;simp only [zz,reduceCtorEq,Lis.enc,Par.enc,Ent.enc,List.map,Zc0,invE]
           all_goals first|rfl|exact⟨rfl,trivial⟩|exact⟨rfl,rfl⟩
   · rintro _ _ - ⟨rfl,rfl⟩;refine Z0 Z9z ⟨four,[49],true,JG,by simp only [zz,reduceCtorEq,Lis.enc],_,rfl,?_⟩;refine Z0 Z8F ⟨four,[52],JG,by simp only [zz,reduceCtorEq,Lis.enc],_,rfl,?_⟩;refine Z0 Z4w ⟨four,[51],JG,by simp only [zz,reduceCtorEq,Lis.enc],_,rfl,?_⟩;rw [rc_eq,rd_eq,ru_eq];refine⟨invM 7,?_,?_⟩
     · rw [Jc];rintro b1 -;rcases b1 with _|_
       · refine W3 (by simp only [zz,reduceCtorEq,Lis.enc,Par.enc,Ent.enc,List.map,Val.enc]) ?_;refine Z0 JZ ⟨rfl,_,rfl,?_⟩;refine Z0 Wg ⟨ra.1,[50],⟨1,1⟩,Yx Zaz,⟨W9 (by rfl),W9 (by rfl)⟩,by simp only [zz,reduceCtorEq,Lis.enc,Par.enc],_,rfl,?_⟩;simp only [zz,reduceCtorEq,Lis.enc,Par.enc,Ent.enc,List.map,Val.enc,Zax,Option.getD_some,Option.isSome_some,invM]
         all_goals first|rfl|exact⟨rfl,trivial⟩|exact⟨rfl,rfl⟩
       · refine Z4 (by simp only [zz,reduceCtorEq,Lis.enc,Par.enc,Ent.enc,List.map,Val.enc]) ?_;refine Z0 JZ ⟨rfl,_,rfl,?_⟩;rw [Jc];rintro b2 -;rcases b2 with _|_
         · refine W3 (by simp only [zz,reduceCtorEq,Lis.enc,Par.enc,Ent.enc,List.map,Val.enc]) ?_;refine Z0 Wg ⟨ra.1,[50],⟨1,1⟩,Yx Zaz,⟨W9 (by rfl),W9 (by rfl)⟩,by simp only [zz,reduceCtorEq,Lis.enc,Par.enc],_,rfl,?_⟩;simp only [zz,reduceCtorEq,Lis.enc,Par.enc,Ent.enc,List.map,Val.enc,Zax,Option.getD_some,Option.isSome_some,invM]
           all_goals first|rfl|exact⟨rfl,trivial⟩|exact⟨rfl,rfl⟩
         · refine Z4 (by simp only [zz,reduceCtorEq,Lis.enc,Par.enc,Ent.enc,List.map,Val.enc]) ?_;refine Z0 Wg ⟨ra.1,[50],⟨1,1⟩,Yx Zaz,⟨W9 (by rfl),W9 (by rfl)⟩,by simp only [zz,reduceCtorEq,Lis.enc,Par.enc],_,rfl,?_⟩;simp only [zz,reduceCtorEq,Lis.enc,Par.enc,Ent.enc,List.map,Val.enc,Zax,Option.getD_some,Option.isSome_some,invM]
           all_goals first|rfl|exact⟨rfl,trivial⟩|exact⟨rfl,rfl⟩
     · rintro _ _ - ⟨rfl,rfl⟩;refine⟨invM 5,?_,?_⟩
       · rw [Jc];rintro b1 -;rcases b1 with _|_
         · refine W3 (by simp only [zz,reduceCtorEq,Lis.enc,Par.enc,Ent.enc,List.map,Val.enc]) ?_;refine Z0 JZ ⟨rfl,_,rfl,?_⟩;refine Z0 Wg ⟨rb.1,[49],⟨1,1⟩,Yx Zaw,⟨W9 (by rfl),W9 (by rfl)⟩,by simp only [zz,reduceCtorEq,Lis.enc,Par.enc],_,rfl,?_⟩;simp only [zz,reduceCtorEq,Lis.enc,Par.enc,Ent.enc,List.map,Val.enc,Zav,Option.getD_some,Option.isSome_some,invM]
           all_goals first|rfl|exact⟨rfl,trivial⟩|exact⟨rfl,rfl⟩
         · refine Z4 (by simp only [zz,reduceCtorEq,Lis.enc,Par.enc,Ent.enc,List.map,Val.enc]) ?_;refine Z0 JZ ⟨rfl,_,rfl,?_⟩;rw [Jc];rintro b2 -;rcases b2 with _|_
           · refine W3 (by simp only [zz,reduceCtorEq,Lis.enc,Par.enc,Ent.enc,List.map,Val.enc]) ?_;refine Z0 Wg ⟨rb.1,[49],⟨1,1⟩,Yx Zaw,⟨W9 (by rfl),W9 (by rfl)⟩,by simp only [zz,reduceCtorEq,Lis.enc,Par.enc],_,rfl,?_⟩;simp only [zz,reduceCtorEq,Lis.enc,Par.enc,Ent.enc,List.map,Val.enc,Zav,Option.getD_some,Option.isSome_some,invM]
             all_goals first|rfl|exact⟨rfl,trivial⟩|exact⟨rfl,rfl⟩
           · refine Z4 (by simp only [zz,reduceCtorEq,Lis.enc,Par.enc,Ent.enc,List.map,Val.enc]) ?_;refine Z0 Wg ⟨rb.1,[49],⟨1,1⟩,Yx Zaw,⟨W9 (by rfl),W9 (by rfl)⟩,by simp only [zz,reduceCtorEq,Lis.enc,Par.enc],_,rfl,?_⟩;simp only [zz,reduceCtorEq,Lis.enc,Par.enc,Ent.enc,List.map,Val.enc,Zav,Option.getD_some,Option.isSome_some,invM]
             all_goals first|rfl|exact⟨rfl,trivial⟩|exact⟨rfl,rfl⟩
       · rintro _ _ - ⟨rfl,rfl⟩;refine⟨invM 7,?_,?_⟩
         · rw [Jc];rintro b1 -;rcases b1 with _|_
           · refine W3 (by simp only [zz,reduceCtorEq,Lis.enc,Par.enc,Ent.enc,List.map,Val.enc]) ?_;refine Z0 JZ ⟨rfl,_,rfl,?_⟩;refine Z0 Wg ⟨rc19.1,[50],⟨1,1⟩,Yx Zau,⟨W9 (by rfl),W9 (by rfl)⟩,by simp only [zz,reduceCtorEq,Lis.enc,Par.enc],_,rfl,?_⟩;simp only [zz,reduceCtorEq,Lis.enc,Par.enc,Ent.enc,List.map,Val.enc,Zaq,Option.getD_some,Option.isSome_some,invM]
             all_goals first|rfl|exact⟨rfl,trivial⟩|exact⟨rfl,rfl⟩
           · refine Z4 (by simp only [zz,reduceCtorEq,Lis.enc,Par.enc,Ent.enc,List.map,Val.enc]) ?_;refine Z0 JZ ⟨rfl,_,rfl,?_⟩;rw [Jc];rintro b2 -;rcases b2 with _|_
             · refine W3 (by simp only [zz,reduceCtorEq,Lis.enc,Par.enc,Ent.enc,List.map,Val.enc]) ?_;refine Z0 Wg ⟨rc19.1,[50],⟨1,1⟩,Yx Zau,⟨W9 (by rfl),W9 (by rfl)⟩,by simp only [zz,reduceCtorEq,Lis.enc,Par.enc],_,rfl,?_⟩;simp only [zz,reduceCtorEq,Lis.enc,Par.enc,Ent.enc,List.map,Val.enc,Zaq,Option.getD_some,Option.isSome_some,invM]
               all_goals first|rfl|exact⟨rfl,trivial⟩|exact⟨rfl,rfl⟩
             · refine Z4 (by simp only [zz,reduceCtorEq,Lis.enc,Par.enc,Ent.enc,List.map,Val.enc]) ?_;refine Z0 Wg ⟨rc19.1,[50],⟨1,1⟩,Yx Zau,⟨W9 (by rfl),W9 (by rfl)⟩,by simp only [zz,reduceCtorEq,Lis.enc,Par.enc],_,rfl,?_⟩;simp only [zz,reduceCtorEq,Lis.enc,Par.enc,Ent.enc,List.map,Val.enc,Zaq,Option.getD_some,Option.isSome_some,invM]
               all_goals first|rfl|exact⟨rfl,trivial⟩|exact⟨rfl,rfl⟩
         · rintro _ _ - ⟨rfl,rfl⟩;refine⟨invM 9,?_,?_⟩
           · rw [Jc];rintro b1 -;rcases b1 with _|_
             · refine W3 (by simp only [zz,reduceCtorEq,Lis.enc,Par.enc,Ent.enc,List.map,Val.enc]) ?_;refine Z0 JZ ⟨rfl,_,rfl,?_⟩;refine Z0 Wg ⟨rd.1,[52],⟨1,1⟩,Yx Zam,⟨W9 (by rfl),W9 (by rfl)⟩,by simp only [zz,reduceCtorEq,Lis.enc,Par.enc],_,rfl,?_⟩;simp only [zz,reduceCtorEq,Lis.enc,Par.enc,Ent.enc,List.map,Val.enc,Zal,Option.getD_some,Option.isSome_some,invM]
               all_goals first|rfl|exact⟨rfl,trivial⟩|exact⟨rfl,rfl⟩
             · refine Z4 (by simp only [zz,reduceCtorEq,Lis.enc,Par.enc,Ent.enc,List.map,Val.enc]) ?_;refine Z0 JZ ⟨rfl,_,rfl,?_⟩;rw [Jc];rintro b2 -;rcases b2 with _|_
               · refine W3 (by simp only [zz,reduceCtorEq,Lis.enc,Par.enc,Ent.enc,List.map,Val.enc]) ?_;refine Z0 Wg ⟨rd.1,[52],⟨1,1⟩,Yx Zam,⟨W9 (by rfl),W9 (by rfl)⟩,by simp only [zz,reduceCtorEq,Lis.enc,Par.enc],_,rfl,?_⟩;simp only [zz,reduceCtorEq,Lis.enc,Par.enc,Ent.enc,List.map,Val.enc,Zal,Option.getD_some,Option.isSome_some,invM]
                 all_goals first|rfl|exact⟨rfl,trivial⟩|exact⟨rfl,rfl⟩
               · refine Z4 (by simp only [zz,reduceCtorEq,Lis.enc,Par.enc,Ent.enc,List.map,Val.enc]) ?_;refine Z0 Wg ⟨rd.1,[52],⟨1,1⟩,Yx Zam,⟨W9 (by rfl),W9 (by rfl)⟩,by simp only [zz,reduceCtorEq,Lis.enc,Par.enc],_,rfl,?_⟩;simp only [zz,reduceCtorEq,Lis.enc,Par.enc,Ent.enc,List.map,Val.enc,Zal,Option.getD_some,Option.isSome_some,invM]
                 all_goals first|rfl|exact⟨rfl,trivial⟩|exact⟨rfl,rfl⟩
           · rintro _ _ - ⟨rfl,rfl⟩;refine Z0 Wg ⟨ru.1,[51],⟨1,0⟩,Yx Zgw,⟨W9 (by rfl),W9 (by rfl)⟩,by simp only [zz,reduceCtorEq,Lis.enc,Par.enc],_,rfl,?_⟩;simp only [zz,reduceCtorEq,Val.enc,Lis.enc,Zgv,Option.getD_some,Option.isSome_some,ZgM,ZgE,ZgB,Zgy,Zgx,List.length_map,ZgI,Zgz];intro _ _;simpa [show wr64 0=0 from Z1 ⟨by decide,by decide⟩]using hK
noncomputable def t4:R:=let x0:List K:=liKs;let x1:T:=Vl (Va 1) (Vl (Va 2) .lnil);let x2:T:=.o2 .eq (Va 11) (Va 15);.call none (.fn 22) [Vl (Va 0) x1,Va 4] [.cell .bool] (.ite (.o1 .not (Va 7)) (.call none (.fn 23) [] [.cell .bool] (.ret [.d (Va 8)])) (.call none (.fn 16) [Vl (Va 0) x1,Va 3,Va 4,Va 5,Va 6] [.agg x0,.cell (.int .i64)] (.call none (.fn 24) [Vl (Va 0) x1,Va 3,Va 4,Va 5,Va 6] [.agg x0,.cell (.int .i64)] (.call none (.fn 25) [Vl (Va 8) (Vl (Va 9) (Vl (Va 10) .lnil)),Vl (Va 12) (Vl (Va 13) (Vl (Va 14) .lnil))] [.cell .bool] (.call (some (.ite (Va 16) x2 (.bool false))) (.fn 23) [] [.cell .bool] (.ret [.d (.ite (.ite (Va 16) x2 (.bool false)) (Va 17) (.bool false))]))))))
theorem c4:J2 Tryz.prog 4=true:=by kernel_rfl
structure Note where
 s:List UInt8
 es:List Ent
 part:Int
 only:Bool
structure Note.Ok (n:Note):Prop where
 es:∀e∈n.es,e.Ok
 part:I64 n.part
noncomputable def t5:R:=let x0:List K:=liKs;let x1:T:=Vl (Va 1) (Vl (Va 2) .lnil);let x2:T:=.o2 .eq (Va 9) (Va 13);.call none (.fn 22) [Vl (Va 0) x1,.nils] [.cell .bool] (.ite (.o1 .not (Va 5)) (.call none (.fn 23) [] [.cell .bool] (.ret [.d (Va 6)])) (.call none (.fn 17) [Vl (Va 0) x1,Va 3,Va 4] [.agg x0,.cell (.int .i64)] (.call none (.fn 26) [Vl (Va 0) x1,Va 3,Va 4] [.agg x0,.cell (.int .i64)] (.call none (.fn 25) [Vl (Va 6) (Vl (Va 7) (Vl (Va 8) .lnil)),Vl (Va 10) (Vl (Va 11) (Vl (Va 12) .lnil))] [.cell .bool] (.call (some (.ite (Va 14) x2 (.bool false))) (.fn 23) [] [.cell .bool] (.ret [.d (.ite (.ite (Va 14) x2 (.bool false)) (Va 15) (.bool false))]))))))
theorem c5:J2 Tryz.prog 5=true:=by kernel_rfl
end Go.Sx.La
