/- AuditConfigs: the verdict about a store's dump under any configuration is that of the reference. -/
import Derived.Test.YtmgodadmafcliaaZSrI
import Derived.Test.YtmgodadmafcliaaZAuH
set_option linter.unusedSimpArgs false
set_option linter.unusedVariables false
namespace Go.Proofs.Ytmgodadmafcliaa
open Go.RowKit Go.Avm Go.ChangeShapes Go.WideShapes Go.ChangeAt
theorem dump_ok {s:Sr} (h:SrB 13 s):DmOk (dumpR s):=
 ⟨by have:=h.hc;simp only [dumpR];omega,by have:=h.ho;simp only [dumpR];omega,by have:=h.hb;simp only [dumpR];omega,by have:=h.hp;simp only [dumpR];omega,by have:=h.hg;simp only [dumpR];omega,
  fun q hq=>by have:=(h.hd q hq).1;omega,fun o ho=>⟨by have:=(h.hv o ho).1;omega,fun v hv=>by have:=(h.hv o ho).2 v hv;omega⟩⟩
set_option maxRecDepth 100000 in set_option maxHeartbeats 6400000 in
theorem auditConfigs_calls {l:List Int} {n:Int} {c:Cf}:ACalls Try.prog 4 [.sl 1 (l.map rowI), .sc (.int .i64 n), .agg (dCf c)] (.sc (.bool true)) []:=by
 have hst:=rstore_calls (l:=l)
 have hdm:=dump_ok (storeR_ok l)
 have hdu:ACalls Try.prog 11 [.agg (dSr (storeR l))] (.agg (dDm (dumpR (storeR l)))) []:=rdump_calls
 have hcf:=cfgk_calls (n:=n%65536) (by omega) (by omega)
 have hkn:=known21_calls
 generalize dumpR (storeR l)=DD at *
 generalize storeR l=S at *
 generalize cfgK (n%65536)=CK at *
 have k1:=check_calls (c:=CK) hdm
 have k2:=rcheck_calls (c:=CK) hdm
 have k3:=check_calls (c:=c) hdm
 have k4:=rcheck_calls (c:=c) hdm
 generalize checkE CK DD=E1 at *
 generalize checkE c DD=E2 at *
 obtain ⟨com,os,bs,ps,pg⟩:=DD
 obtain ⟨a1,a2,a3,a4,a5,a6,a7⟩:=CK
 obtain ⟨b1,b2,b3,b4,b5,b6,b7⟩:=c
 simp only [dCf,dDm,dSr] at hst hdu hcf k1 k2 k3 k4 ⊢
 refine of_tri [] [5,7,8,10,11,14,17,20,25,28,32] Try.func4 rfl call4 rfl (by decide) (by decide) rfl rfl Try.ntmps4 (by simp (disch:=omega) only [seval,go_sem,cnd,intV,shV,convV,strV,List.replicate,l_2,l_1];rfl) (by simp (disch:=omega) only [seval,go_sem,cnd,intV,shV,convV,strV,l_2,l_1];rfl) ?_
 ((repeat' (first|((with_reducible refine isTriD ?_);((with_reducible refine isCallD ?_);((with_reducible refine LVcall (st:=[29,32]) ?_);simp only [seval,go_sem,beq_self_eq_true];first|(refine CallL.c (hst) ?_)|(refine CallL.c (hdu) ?_)|(refine CallL.c (hcf) ?_))))|(with_reducible refine ListD.nil ?_)|((with_reducible refine isListD ?_);first|(with_reducible refine ListD.step (by simp only [seval,go_sem,beq_self_eq_true];rfl) ?_)|((with_reducible refine isCallV ?_);((with_reducible (refine ListD.dE (by simp only [seval,go_sem,beq_self_eq_true];rfl) (by simp only [seval,go_sem,beq_self_eq_true];rfl) ?_));first|refine CallW.c (k1) (by simp only [seval,go_sem,beq_self_eq_true];rfl) ?_|refine CallW.c (k2) (by simp only [seval,go_sem,beq_self_eq_true];rfl) ?_|refine CallW.c (k3) (by simp only [seval,go_sem,beq_self_eq_true];rfl) ?_|refine CallW.c (k4) (by simp only [seval,go_sem,beq_self_eq_true];rfl) ?_|refine CallW.c (hkn) (by simp only [seval,go_sem,beq_self_eq_true];rfl) ?_))|(with_reducible refine ListD.step (by simp (disch:=omega) only [seval,go_sem,cnd,intV,shV,convV,strV,beq_self_eq_true];rfl) ?_))|(with_reducible refine isDrawn ?_;refine Tri.drawnD mix (by kernel_rfl) (by simp only [l_3,l_4];rfl) ?_)|(with_reducible refine isRet ?_;refine RetV (rs:=[.tmp 6]) (by with_unfolding_all rfl) rfl ?_<;>simp only [seval,go_sem]<;>(repeat' (with_reducible apply And.intro))<;>(try rfl))|(with_reducible (refine TVq (st:=[29,32]) ?_))|simp only [seval,go_sem,beq_self_eq_true]|(with_reducible refine oV_st (by simp (disch:=omega) only [seval,go_sem,cnd,intV,shV,convV,strV,beq_self_eq_true];rfl) ?_)))<;>(try (fail)))
theorem conv_cf (row:List D) (h:Rok [.int .i64, .int .i64, .int .i64, .int .i64, .int .i64, .int .i64, .int .i64] row): ∃ c:Cf,row=dCf c∧True:=by
 simp only [Rok,Cok] at h
 obtain ⟨_,_,rfl,⟨a,rfl,_⟩,_,_,rfl,⟨b,rfl,_⟩,_,_,rfl,⟨c,rfl,_⟩,_,_,rfl,⟨d,rfl,_⟩,_,_,rfl,⟨e,rfl,_⟩,_,_,rfl,⟨f,rfl,_⟩,_,_,rfl,⟨g,rfl,_⟩,rfl⟩:=h
 exact ⟨⟨a,b,c,d,e,f,g⟩,rfl,trivial⟩
theorem auditConfigs_own:ownKnob Try.prog.godebug=none:=by kernel_rfl
theorem auditConfigs_laid:laidOutB Try.prog=true:=by kernel_rfl
set_option maxRecDepth 100000 in
theorem auditConfigs_lifted (os:Os) (started:os.Started) (H:Type) (enc:TypeId×Value→H):
  ReturnsInHanded {} Try.checked os 4 .any (Rows.auditConfigsSpec.pre6 enc Try.prog Try.f4 Rows.auditConfigsRow.domain false) (Rows.auditConfigsSpec.post enc Try.prog Try.f4 false true false false):=by
 refine returnsInHanded_of_change (C:=Try.checked) auditConfigs_own started (by kernel_rfl) Try.func4
  (ChangeSpec.witness6 (enc:=enc) (C:=Try.checked) false ⟨#[], #[.slice none 0 0, .int .i64 0, .agg #[.int .i64 0, .int .i64 0, .int .i64 0, .int .i64 0, .int .i64 0, .int .i64 0, .int .i64 0]],[]⟩ 8 (by kernel_rfl) (by kernel_rfl) (by kernel_rfl) (by kernel_rfl)) ?_
 intro W base args ds gs before hval0 hW hcnd _
 have hval: ∀ (j:Nat) t v,Try.f4.params[j]? = some t→args[j]? = some v→Value.okWide Try.prog W .any base t v:=hval0
 have hW':=hW
 obtain ⟨p,q,hA0,hV,rfl,hfz,hnd⟩:=hW
 have hA:DataW.TrodAll enc Try.prog W 0 (fun _=>true) true Try.f4.params.toList args.toList ds p:=hA0
 rw [Try.params4] at hA hval
 obtain ⟨v0,vs0,d0,ds0,p0,q0,hargs,rfl,rfl,h0,r0⟩:=trodAll_cons hA
 obtain ⟨v1,vs1,d1,ds1,p1,q1,rfl,rfl,rfl,h1,r1⟩:=trodAll_cons r0
 obtain ⟨v2,vs2,d2,ds2,p2,q2,rfl,rfl,rfl,h2,r2⟩:=trodAll_cons r1
 obtain ⟨rfl,rfl,rfl⟩:=trodAll_nil r2
 obtain rfl:args = #[v0,v1,v2]:=by cases args;simp_all
 obtain ⟨a0,x0,w0,l0⟩:=arg_ints Try.underlying22 Try.underlying3 (by kernel_rfl) (hval 0 22 v0 rfl rfl) h0
 obtain ⟨a1,x1,w1⟩:=arg_int Try.underlying3 (hval 1 3 v1 rfl rfl) h1
 obtain ⟨A2,x2,k2⟩:=arg_agg (base:=base) (n:=8) (r:=[.int .i64,.int .i64,.int .i64,.int .i64,.int .i64,.int .i64,.int .i64]) (by kernel_rfl) Try.underlying24 (hval 2 24 v2 rfl rfl) h2
 obtain ⟨a2,rfl,w2⟩:=conv_cf _ k2
 exact law_step (xs:=[.sl 1 (a0.map fun z=>[.sc (.int .i64 z)]),.sc (.int .i64 a1),.agg (dCf a2)]) hW' rfl auditConfigs_laid (by kernel_rfl) (fun gs' h=>by subst h;rfl) rfl Try.underlying4 (by simp only [RL];exact ⟨_,_,rfl,x0,⟨_,_,rfl,x1,⟨_,_,rfl,x2,rfl⟩⟩⟩) (auditConfigs_calls)
theorem auditConfigs_over:Rows.auditConfigsRow.holds Try.pinned (OpenSpec.ofChange Rows.auditConfigsSpec):=
 OpenClaim.holds_of_wide 4 Try.f4 rfl rfl rfl rfl rfl rfl rfl ⟨rfl,rfl,rfl,rfl,rfl⟩ rfl rfl rfl rfl rfl (by kernel_rfl) Try.func4 (by kernel_rfl)
  (of_decide_eq_true (by kernel_rfl)) (by unfold Func.isWrapper;first|(rw [if_pos (by decide +kernel)];kernel_rfl)|(rw [if_neg (by decide +kernel)];exact ⟨rfl,rfl⟩))
  (fun os started H enc _=>auditConfigs_lifted os started H enc)
theorem auditConfigs_holds:Rows.AuditConfigsSaid:=auditConfigs_over

end Go.Proofs.Ytmgodadmafcliaa
