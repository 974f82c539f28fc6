/- CollectorExact: the results of all functions for the dumps of stores are those of the reference. -/
import Derived.Test.YtmgodadmafcliaaGreatZSrI
set_option linter.unusedSimpArgs false
set_option linter.unusedVariables false
namespace Go.Proofs.YtmgodadmafcliaaGreat
open Go.RowKit Go.Avm Go.ChangeShapes Go.WideShapes Go.ChangeAt
set_option maxRecDepth 100000 in set_option maxHeartbeats 12800000 in
theorem collectorExact_calls {l:List Int} {n:Int}:ACalls Tryz.prog 3 [.sl 1 (l.map rowI), .sc (.int .i64 n)] (.sc (.bool true)) []:=by
 have hst:=rstore_calls (l:=l)
 have hso:=store_ok l
 have hdu:ACalls Tryz.prog 4 [.agg (dSr (storeR l))] (.agg (dDm (dumpR (storeR l)))) []:=rdump_calls
 have hkn:=known20_calls
 generalize storeR l=S at *
 obtain ⟨⟨a1,a2,a3,a4,a5,a6,a7⟩,com,last,os,bs,ps,⟨cap,pg⟩⟩:=S
 have hol:os.length≤13:=hso.sb.ho
 have hpl:ps.length≤13:=hso.sb.hp
 have hec:(os.flatMap vnsO).length≤12:=hso.ec
 have s1:=same20_calls (com:=com) (c:=n/128%8) (os:=os) (ps:=ps) (bd:=bs.map rowBd) (pg:=pg.map rowPg) (p:=⟨n%8,n/8%16⟩) (by omega) (by omega) (by omega) hso.pages (by omega) hso.froms
 have s2:=same20_calls (com:=com) (c:=100) (os:=os) (ps:=ps) (bd:=bs.map rowBd) (pg:=pg.map rowPg) (p:=⟨0,0⟩) (by omega) (by omega) (by omega) hso.pages (by omega) hso.froms
 simp only [dSr,dDm,dumpR] at hst hdu
 simp only [rowVc] at s1 s2
 refine of_tri [] [5,7,8,19,23,26] Tryz.func3 rfl call3 rfl (by decide) (by decide) rfl rfl Tryz.ntmps3 (by simp (disch:=omega) only [seval,go_sem,cnd,intV,shV,convV,strV,List.replicate,l_2,l_1];rfl) (by simp (disch:=omega) only [seval,go_sem,cnd,intV,shV,convV,strV,l_2,l_1];rfl) ?_
 ((repeat' (first|((with_reducible refine isTriD ?_);((with_reducible refine isCallD ?_);((with_reducible refine LVcall (st:=[23,26]) ?_);simp only [seval,go_sem];first|(refine CallL.c (hst) ?_)|(refine CallL.c (hdu) ?_)|(refine CallL.c (s1) ?_)|(refine CallL.c (s2) ?_)|(refine CallL.c (hkn) ?_))))|(with_reducible refine isRet ?_;refine RetV (rs:=[.tmp 4]) (by with_unfolding_all rfl) rfl ?_<;>simp only [seval,go_sem]<;>(repeat' (with_reducible apply And.intro))<;>(try rfl))|(with_reducible (refine TVq (st:=[23,26]) ?_))|simp only [seval,go_sem]|(with_reducible refine oV_st (by simp (disch:=omega) only [seval,go_sem,cnd,intV,shV,convV,strV];rfl) ?_)))<;>(try (fail)))
theorem collectorExact_own:ownKnob Tryz.prog.godebug=none:=by kernel_rfl
theorem collectorExact_laid:laidOutB Tryz.prog=true:=by kernel_rfl
set_option maxRecDepth 100000 in
theorem collectorExact_lifted (os:Os) (started:os.Started) (H:Type) (enc:TypeId×Value→H):
  ReturnsInHanded {} Tryz.checked os 3 .any (Rows.collectorExactSpec.pre6 enc Tryz.prog Tryz.f3 Rows.collectorExactRow.domain false) (Rows.collectorExactSpec.post enc Tryz.prog Tryz.f3 false true false false):=by
 refine returnsInHanded_of_change (C:=Tryz.checked) collectorExact_own started (by kernel_rfl) Tryz.func3
  (ChangeSpec.witness6 (enc:=enc) (C:=Tryz.checked) false ⟨#[], #[.slice none 0 0, .int .i64 0],[]⟩ 8 (by kernel_rfl) (by kernel_rfl) (by kernel_rfl) (by kernel_rfl)) ?_
 intro W base args ds gs before hval0 hW hcnd _
 have hval: ∀ (j:Nat) t v,Tryz.f3.params[j]? = some t→args[j]? = some v→Value.okWide Tryz.prog W .any base t v:=hval0
 have hW':=hW
 obtain ⟨p,q,hA0,hV,rfl,hfz,hnd⟩:=hW
 have hA:DataW.TrodAll enc Tryz.prog W 0 (fun _=>true) true Tryz.f3.params.toList args.toList ds p:=hA0
 rw [Tryz.params3] at hA hval
 obtain ⟨v0,vs0,d0,ds0,p0,q0,hargs,rfl,rfl,h0,r0⟩:=trodAll_cons hA
 obtain ⟨v1,vs1,d1,ds1,p1,q1,rfl,rfl,rfl,h1,r1⟩:=trodAll_cons r0
 obtain ⟨rfl,rfl,rfl⟩:=trodAll_nil r1
 obtain rfl:args = #[v0,v1]:=by cases args;simp_all
 obtain ⟨a0,x0,w0,l0⟩:=arg_ints Tryz.underlying22 Tryz.underlying3 (by kernel_rfl) (hval 0 22 v0 rfl rfl) h0
 obtain ⟨a1,x1,w1⟩:=arg_int Tryz.underlying3 (hval 1 3 v1 rfl rfl) h1
 exact law_step (xs:=[.sl 1 (a0.map fun z=>[.sc (.int .i64 z)]), .sc (.int .i64 a1)]) hW' rfl collectorExact_laid (by kernel_rfl) (fun gs' h=>by subst h;rfl) rfl Tryz.underlying4 (by simp only [RL];exact ⟨_,_,rfl,x0,⟨_,_,rfl,x1,rfl⟩⟩) (collectorExact_calls)
theorem collectorExact_over:Rows.collectorExactRow.holds Tryz.pinned (OpenSpec.ofChange Rows.collectorExactSpec):=
 OpenClaim.holds_of_wide 3 Tryz.f3 rfl rfl rfl rfl rfl rfl rfl ⟨rfl,rfl,rfl,rfl,rfl⟩ rfl rfl rfl rfl rfl (by kernel_rfl) Tryz.func3 (by kernel_rfl)
  (of_decide_eq_true (by kernel_rfl)) (by unfold Func.isWrapper;first|(rw [if_pos (by decide +kernel)];kernel_rfl)|(rw [if_neg (by decide +kernel)];exact ⟨rfl,rfl⟩))
  (fun os started H enc _=>collectorExact_lifted os started H enc)
theorem collectorExact_holds:Rows.CollectorExactSaid:=collectorExact_over

end Go.Proofs.YtmgodadmafcliaaGreat
