/- CollectorPins: a further pin never makes a version garbage, and protects those whose span it lies in. -/
import Derived.Test.YtmgodadmafcliaaZSrI
set_option linter.unusedSimpArgs false
set_option linter.unusedVariables false
namespace Go.Proofs.Ytmgodadmafcliaa
open Go.RowKit Go.Avm Go.ChangeShapes Go.WideShapes Go.ChangeAt
set_option maxRecDepth 100000 in set_option maxHeartbeats 12800000 in
theorem collectorPins_calls {l:List Int} {n:Int}:ACalls Try.prog 7 [.sl 1 (l.map rowI), .sc (.int .i64 n)] (.sc (.bool true)) []:=by
 have hst:=rstore_calls (l:=l)
 have hso:=store_ok l
 have hdu:ACalls Try.prog 11 [.agg (dSr (storeR l))] (.agg (dDm (dumpR (storeR l)))) []:=rdump_calls
 have hkn:=known20_calls
 generalize storeR l=S at *
 obtain ⟨⟨a1,a2,a3,a4,a5,a6,a7⟩,com,last,os,bs,ps,⟨cap,pg⟩⟩:=S
 have hol:os.length≤13:=hso.sb.ho
 have hpl:ps.length≤13:=hso.sb.hp
 have hec:(os.flatMap vnsO).length≤12:=hso.ec
 have hev:versR os []=os.flatMap vnsO:=hso.ev
 have hpw:(os.flatMap vnsO).Pairwise LtV:=ents_asc hso.si
 have g1:=garbage_calls (com:=com) (os:=os) (ps:=ps) (bd:=bs.map rowBd) (pg:=pg.map rowPg) (by omega) (by omega) (by omega)
 have g2:=garbage_calls (com:=com) (os:=os) (ps:=ps++[⟨n%16,1⟩]) (bd:=bs.map rowBd) (pg:=pg.map rowPg) (by omega) (by omega) (by simp only [List.length_append,List.length_cons,List.length_nil];omega)
 have hen:=fun v=>end_calls (com:=com) (os:=os) (pn:=ps.map rowP) (bd:=bs.map rowBd) (pg:=pg.map rowPg) (v:=v) (by omega) (by omega)
 have hea:=fun x (h:x∈os.flatMap vnsO)=>endE_at (x:=x) hpw h
 rw [hev] at g1 g2
 have hgl: ∀ (p:List Pn) (l:List Vn),(garbR p l).length≤l.length:=by
  intro p l
  induction l with
  | nil=>exact Nat.le_refl _
  | cons x l ih=>rw [garbR];split<;>simp only [List.length_cons]<;>omega
 have l1:=hgl ps (os.flatMap vnsO)
 have l2:=hgl (ps++[⟨n%16,1⟩]) (os.flatMap vnsO)
 generalize hA:garbR ps (os.flatMap vnsO)=A at g1 l1
 generalize hB:garbR (ps++[⟨n%16,1⟩]) (os.flatMap vnsO)=B at g2 l2
 generalize os.flatMap vnsO=E at *
 simp only [dSr,dDm,dumpR] at hst hdu
 simp only [List.map_append,l_3,l_4,rowP] at g2
 refine of_tri [] [5,6,15,16,22,25,26,29,31,61,81] Try.func7 rfl call7 rfl (by decide) (by decide) rfl rfl Try.ntmps7 (by simp (disch:=omega) only [seval,go_sem,cnd,intV,shV,convV,strV,List.replicate,l_2,l_1];rfl) (by simp (disch:=omega) only [seval,go_sem,cnd,intV,shV,convV,strV,l_2,l_1];rfl) ?_
 ((repeat' (first|((with_reducible refine isTriD ?_);((with_reducible refine isCallD ?_);((with_reducible refine LVcall (st:=[51,73,81]) ?_);simp only [seval,go_sem];first|(refine CallL.c (hst) ?_;simp only [seval,go_sem];(fail_if_success (with_reducible refine isResV ?_)))|(refine CallL.c (hdu) ?_;simp only [seval,go_sem];(fail_if_success (with_reducible refine isResV ?_))))))|(with_reducible refine ListD.nil ?_)|((with_reducible refine isListD ?_);first|(with_reducible refine ListD.step (by simp only [seval,go_sem];rfl) ?_)|((with_reducible refine isCallV ?_);((with_reducible (refine ListD.dE (by simp only [seval,go_sem];rfl) (by simp only [seval,go_sem];rfl) ?_));first|refine CallW.c (g1) (by simp only [seval,go_sem];rfl) ?_|refine CallW.c (g2) (by simp only [seval,go_sem];rfl) ?_)))|(with_reducible refine isDrawn ?_;refine Tri.frz 26 (by simp only [seval,go_sem];rfl) (by simp only [seval,go_sem];rfl) ?_;refine Tri.drawnD mix (by kernel_rfl) (by simp only [l_3,l_4];rfl) ?_)|(with_reducible (refine TVq (st:=[51,73,81]) ?_))|simp only [seval,go_sem]|(with_reducible refine oV_st (by simp (disch:=omega) only [seval,go_sem,cnd,intV,shV,convV,strV];rfl) ?_)))<;>(try (fail)))
 all_goals (with_reducible refine Tri.loopU (fun (t:Nat×Nat)=>[(11,.sc (.int .i64 t.1)),(10,.sc (.int .i64 t.2)),(4,.any),(12,.any),(13,.any),(32,.any),(33,.any),(34,.any),(35,.any),(36,.any),(37,.any),(38,.any),(39,.any),(40,.any),(41,.any),(42,.any),(43,.any),(44,.any),(45,.any),(46,.any),(47,.any),(48,.any),(49,.any),(50,.any),(51,.any),(52,.any),(53,.any),(54,.any),(55,.any),(56,.any),(57,.any),(58,.any),(59,.any),(60,.any),(61,.any),(62,.any),(63,.any),(64,.any),(65,.any),(66,.any),(67,.any),(68,.any),(69,.any),(70,.any),(71,.any),(72,.any),(73,.any),(74,.any),(75,.any)]) (fun (t:Nat×Nat)=>[(61,.dead)]) (fun (t:Nat×Nat)=>t.1≤A.length∧t.2≤B.length∧ ∃ R,(∃ L,E=L++R)∧A.drop t.1=garbR ps R∧B.drop t.2=garbR (ps++[⟨n%16,1⟩]) R) (fun (t:Nat×Nat)=>A.length-t.1) ((0,0)) (⟨Nat.zero_le _,Nat.zero_le _,E,⟨[],rfl⟩,by simpa only [List.drop_zero] using hA.symm,by simpa only [List.drop_zero] using hB.symm⟩) (by intro _;simp (disch:=omega) only [seval,go_sem,cnd,intV,shV,convV,strV];rfl) (by intro _;simp (disch:=omega) only [seval,go_sem,cnd,intV,shV,convV,strV];rfl) (by (refine leQL_spec ?_);(try simp only [seval,go_sem]);done) (by (refine leQH_spec ?_);(try simp only [seval,go_sem]);done) (fun t hI=>?_))
 all_goals
  obtain ⟨i,k⟩:=t
  obtain ⟨hi,hk,R,⟨L,hE⟩,hfa,hfb⟩:=hI
  simp only at hi hk hfa hfb
  by_cases hlt:i<A.length
  ·obtain ⟨x,hx⟩:=get_lt hlt
   obtain ⟨y,R',hy,ex,⟨L2,hR⟩,hfa2,hc⟩:=pins_round (by rw [hE] at hpw;exact (List.pairwise_append.1 hpw).2.1) hfa hfb hx
   subst ex
   have hxa:=get_map rowVc hx
   have hey:=hen (vcOf y)
   rw [hea y (by rw [hE];simp [hy])] at hey
   have hE2: ∃ L,E=L++R':=⟨L++L2,by rw [hE,hR,List.append_assoc]⟩
   simp only [rowVc,vcOf] at hxa hey
   rcases hc with ⟨hb1,hb2,hno⟩|⟨hb2,hq1,hq2,hb3⟩
   ·have hxb:=get_map rowVc hb1
    simp only [rowVc,vcOf] at hxb
    have hkl:k<B.length:=(List.getElem?_eq_some_iff.1 hb1).1
    by_cases hq1:y.v.from_≤n%16
    ·have hq2: ¬ n%16<y.v.to:=fun h=>hno ⟨hq1,h⟩
     (all_goals (try have hZ:=(And.intro hxa hxb));(repeat' (first|((with_reducible refine isTriD ?_);((with_reducible first|refine TriD.step (by simp (disch:=omega) only [seval,go_sem,cnd,intV,shV,convV,strV,hZ];rfl) ?_);refine LVs (st:=[51,73,81]) ?_))|(with_reducible refine ListD.nil ?_)|((with_reducible refine isListD ?_);first|(with_reducible refine ListD.step (by simp only [seval,go_sem,hZ];rfl) ?_)|((with_reducible refine isCallV ?_);((with_reducible (refine ListD.dE (by simp only [seval,go_sem,hZ];rfl) (by simp only [seval,go_sem,hZ];rfl) ?_));refine CallW.c (hey) (by simp only [seval,go_sem,hZ];rfl) ?_))|(with_reducible refine ListD.step (by simp (disch:=omega) only [seval,go_sem,cnd,intV,shV,convV,strV,hZ];rfl) ?_))|(with_reducible refine isDrawn ?_;refine Tri.drawnD mix (by kernel_rfl) (by simp only [l_3,l_4];rfl) ?_)|(with_reducible (refine TVq (st:=[51,73,81]) ?_))|simp only [seval,go_sem,hZ]|(with_reducible refine oV_st (by simp (disch:=omega) only [seval,go_sem,cnd,intV,shV,convV,strV,hZ];rfl) ?_)))<;>(try (fail));all_goals (try clear hZ))
     all_goals (try (refine isNextM ((i+1,k+1)) (by (refine leQL_spec ?_);(try simp only [seval,go_sem]);first|((repeat' (with_reducible apply And.intro))<;>first|rfl);done) (by (refine leQH_spec ?_);(try simp only [seval,go_sem]);done) ?_ ?_<;>(try (omega))))
     all_goals (try exact ⟨by simp only;omega,by simp only;omega,R',hE2,hfa2,hb2⟩)
    ·(all_goals (try have hZ:=(And.intro hxa hxb));(repeat' (first|((with_reducible refine isTriD ?_);((with_reducible first|refine TriD.step (by simp only [seval,go_sem,hZ];rfl) ?_);refine LVs (st:=[51,73,81]) ?_))|(with_reducible refine ListD.nil ?_)|((with_reducible refine isListD ?_);first|(with_reducible refine ListD.step (by simp only [seval,go_sem,hZ];rfl) ?_)|((with_reducible refine isCallV ?_);((with_reducible (refine ListD.dE (by simp only [seval,go_sem,hZ];rfl) (by simp only [seval,go_sem,hZ];rfl) ?_));refine CallW.c (hey) (by simp only [seval,go_sem,hZ];rfl) ?_))|(with_reducible refine ListD.step (by simp (disch:=omega) only [seval,go_sem,cnd,intV,shV,convV,strV,hZ];rfl) ?_))|(with_reducible refine isDrawn ?_;refine Tri.drawnD mix (by kernel_rfl) (by simp only [l_3,l_4];rfl) ?_)|(with_reducible (refine TVq (st:=[51,73,81]) ?_))|simp only [seval,go_sem,hZ]|(with_reducible refine oV_st (by simp (disch:=omega) only [seval,go_sem,cnd,intV,shV,convV,strV,hZ];rfl) ?_)))<;>(try (fail));all_goals (try clear hZ))
     all_goals (try (refine isNextM ((i+1,k+1)) (by (refine leQL_spec ?_);(try simp only [seval,go_sem]);first|((repeat' (with_reducible apply And.intro))<;>first|rfl);done) (by (refine leQH_spec ?_);(try simp only [seval,go_sem]);done) ?_ ?_<;>(try (omega))))
     all_goals (try exact ⟨by simp only;omega,by simp only;omega,R',hE2,hfa2,hb2⟩)
   ·rcases hb3 with hb3|⟨⟨w1,w2⟩,hw,hkl,hne⟩
    ·((repeat' (first|((with_reducible refine isTriD ?_);((with_reducible first|refine TriD.step (by simp (disch:=omega) only [seval,go_sem,cnd,intV,shV,convV,strV,hxa];rfl) ?_);refine LVs (st:=[51,73,81]) ?_))|(with_reducible refine ListD.nil ?_)|((with_reducible refine isListD ?_);first|(with_reducible refine ListD.step (by simp only [seval,go_sem,hxa];rfl) ?_)|((with_reducible refine isCallV ?_);((with_reducible (refine ListD.dE (by simp only [seval,go_sem,hxa];rfl) (by simp only [seval,go_sem,hxa];rfl) ?_));refine CallW.c (hey) (by simp only [seval,go_sem,hxa];rfl) ?_))|(with_reducible refine ListD.step (by simp (disch:=omega) only [seval,go_sem,cnd,intV,shV,convV,strV,hxa];rfl) ?_))|(with_reducible refine isDrawn ?_;refine Tri.drawnD mix (by kernel_rfl) (by simp only [l_3,l_4];rfl) ?_)|(with_reducible (refine TVq (st:=[51,73,81]) ?_))|simp only [seval,go_sem,hxa]|(with_reducible refine oV_st (by simp (disch:=omega) only [seval,go_sem,cnd,intV,shV,convV,strV,hxa];rfl) ?_)))<;>(try (fail)))
     all_goals (try (refine isNextM ((i+1,k)) (by (refine leQL_spec ?_);(try simp only [seval,go_sem]);first|((repeat' (with_reducible apply And.intro))<;>first|rfl);done) (by (refine leQH_spec ?_);(try simp only [seval,go_sem]);done) ?_ ?_<;>(try (omega))))
     all_goals (try exact ⟨by simp only;omega,by simp only;omega,R',hE2,hfa2,hb2⟩)
    ·have hxb:=get_map rowVc hw
     simp only [rowVc] at hxb
     simp only at hne
     rcases hne with hne|⟨hn1,hne⟩
     ·(all_goals (try have hZ:=(And.intro hxa (And.intro hxb hne)));(repeat' (first|((with_reducible refine isTriD ?_);((with_reducible first|refine TriD.step (by simp (disch:=omega) only [seval,go_sem,cnd,intV,shV,convV,strV,hZ];rfl) ?_);refine LVs (st:=[51,73,81]) ?_))|(with_reducible refine ListD.nil ?_)|((with_reducible refine isListD ?_);first|(with_reducible refine ListD.step (by simp only [seval,go_sem,hZ];rfl) ?_)|((with_reducible refine isCallV ?_);((with_reducible (refine ListD.dE (by simp only [seval,go_sem,hZ];rfl) (by simp only [seval,go_sem,hZ];rfl) ?_));refine CallW.c (hey) (by simp only [seval,go_sem,hZ];rfl) ?_))|(with_reducible refine ListD.step (by simp (disch:=omega) only [seval,go_sem,cnd,intV,shV,convV,strV,hZ];rfl) ?_))|(with_reducible refine isDrawn ?_;refine Tri.drawnD mix (by kernel_rfl) (by simp only [l_3,l_4];rfl) ?_)|(with_reducible (refine TVq (st:=[51,73,81]) ?_))|simp only [seval,go_sem,hZ]|(with_reducible refine oV_st (by simp (disch:=omega) only [seval,go_sem,cnd,intV,shV,convV,strV,hZ];rfl) ?_)))<;>(try (fail));all_goals (try clear hZ))
      all_goals (try (refine isNextM ((i+1,k)) (by (refine leQL_spec ?_);(try simp only [seval,go_sem]);first|((repeat' (with_reducible apply And.intro))<;>first|rfl);done) (by (refine leQH_spec ?_);(try simp only [seval,go_sem]);done) ?_ ?_<;>(try (omega))))
      all_goals (try exact ⟨by simp only;omega,by simp only;omega,R',hE2,hfa2,hb2⟩)
     ·(all_goals (try have hZ:=(And.intro hxa (And.intro hxb (And.intro hn1 hne))));(repeat' (first|((with_reducible refine isTriD ?_);((with_reducible first|refine TriD.step (by simp (disch:=omega) only [seval,go_sem,cnd,intV,shV,convV,strV,hZ];rfl) ?_);refine LVs (st:=[51,73,81]) ?_))|(with_reducible refine ListD.nil ?_)|((with_reducible refine isListD ?_);first|(with_reducible refine ListD.step (by simp only [seval,go_sem,hZ];rfl) ?_)|((with_reducible refine isCallV ?_);((with_reducible (refine ListD.dE (by simp only [seval,go_sem,hZ];rfl) (by simp only [seval,go_sem,hZ];rfl) ?_));refine CallW.c (hey) (by simp only [seval,go_sem,hZ];rfl) ?_))|(with_reducible refine ListD.step (by simp (disch:=omega) only [seval,go_sem,cnd,intV,shV,convV,strV,hZ];rfl) ?_))|(with_reducible refine isDrawn ?_;refine Tri.drawnD mix (by kernel_rfl) (by simp only [l_3,l_4];rfl) ?_)|(with_reducible (refine TVq (st:=[51,73,81]) ?_))|simp only [seval,go_sem,hZ]|(with_reducible refine oV_st (by simp (disch:=omega) only [seval,go_sem,cnd,intV,shV,convV,strV,hZ];rfl) ?_)))<;>(try (fail));all_goals (try clear hZ))
      all_goals (try (refine isNextM ((i+1,k)) (by (refine leQL_spec ?_);(try simp only [seval,go_sem]);first|((repeat' (with_reducible apply And.intro))<;>first|rfl);done) (by (refine leQH_spec ?_);(try simp only [seval,go_sem]);done) ?_ ?_<;>(try (omega))))
      all_goals (try exact ⟨by simp only;omega,by simp only;omega,R',hE2,hfa2,hb2⟩)
  ·have hke:k=B.length:=by
    rw [List.drop_eq_nil_of_le (by omega)] at hfa
    have h1:garbR (ps++[⟨n%16,1⟩]) R=[]:=garbR_none fun z hz=>by
     have:=garbR_nil hfa.symm z hz
     cases hq:garbV (ps++[⟨n%16,1⟩]) z.v with
     | false=>rfl
     | true=>rw [(garb_more ps (n%16) z.v).1 hq |>.1] at this;cases this
    rw [h1] at hfb
    have:=congrArg List.length hfb
    simp only [List.length_drop,List.length_nil] at this
    omega
   ((repeat' (first|((with_reducible refine isTriD ?_);((with_reducible refine isCallD ?_);((with_reducible refine LVcall (st:=[51,73,81]) ?_);simp only [seval,go_sem,hke];(refine CallL.c (hkn) ?_))))|(with_reducible refine isRet ?_;refine RetV (rs:=[.tmp 4]) (by with_unfolding_all rfl) rfl ?_<;>simp only [seval,go_sem]<;>(repeat' (with_reducible apply And.intro))<;>(try rfl))|(with_reducible (refine TVq (st:=[51,73,81]) ?_))|simp only [seval,go_sem,hke]|(with_reducible refine oV_st (by simp (disch:=omega) only [seval,go_sem,cnd,intV,shV,convV,strV,hke];rfl) ?_)))<;>(try (fail)))
theorem collectorPins_own:ownKnob Try.prog.godebug=none:=by kernel_rfl
theorem collectorPins_laid:laidOutB Try.prog=true:=by kernel_rfl
set_option maxRecDepth 100000 in
theorem collectorPins_lifted (os:Os) (started:os.Started) (H:Type) (enc:TypeId×Value→H):
  ReturnsInHanded {} Try.checked os 7 .any (Rows.collectorPinsSpec.pre6 enc Try.prog Try.f7 Rows.collectorPinsRow.domain false) (Rows.collectorPinsSpec.post enc Try.prog Try.f7 false true false false):=by
 refine returnsInHanded_of_change (C:=Try.checked) collectorPins_own started (by kernel_rfl) Try.func7
  (ChangeSpec.witness6 (enc:=enc) (C:=Try.checked) false ⟨#[], #[.slice none 0 0, .int .i64 0],[]⟩ 8 (by kernel_rfl) (by kernel_rfl) (by kernel_rfl) (by kernel_rfl)) ?_
 intro W base args ds gs before hval0 hW hcnd _
 have hval: ∀ (j:Nat) t v,Try.f7.params[j]? = some t→args[j]? = some v→Value.okWide Try.prog W .any base t v:=hval0
 have hW':=hW
 obtain ⟨p,q,hA0,hV,rfl,hfz,hnd⟩:=hW
 have hA:DataW.TrodAll enc Try.prog W 0 (fun _=>true) true Try.f7.params.toList args.toList ds p:=hA0
 rw [Try.params7] at hA hval
 obtain ⟨v0,vs0,d0,ds0,p0,q0,hargs,rfl,rfl,h0,r0⟩:=trodAll_cons hA
 obtain ⟨v1,vs1,d1,ds1,p1,q1,rfl,rfl,rfl,h1,r1⟩:=trodAll_cons r0
 obtain ⟨rfl,rfl,rfl⟩:=trodAll_nil r1
 obtain rfl:args = #[v0,v1]:=by cases args;simp_all
 obtain ⟨a0,x0,w0,l0⟩:=arg_ints Try.underlying22 Try.underlying3 (by kernel_rfl) (hval 0 22 v0 rfl rfl) h0
 obtain ⟨a1,x1,w1⟩:=arg_int Try.underlying3 (hval 1 3 v1 rfl rfl) h1
 exact law_step (xs:=[.sl 1 (a0.map fun z=>[.sc (.int .i64 z)]), .sc (.int .i64 a1)]) hW' rfl collectorPins_laid (by kernel_rfl) (fun gs' h=>by subst h;rfl) rfl Try.underlying4 (by simp only [RL];exact ⟨_,_,rfl,x0,⟨_,_,rfl,x1,rfl⟩⟩) (collectorPins_calls)
theorem collectorPins_over:Rows.collectorPinsRow.holds Try.pinned (OpenSpec.ofChange Rows.collectorPinsSpec):=
 OpenClaim.holds_of_wide 7 Try.f7 rfl rfl rfl rfl rfl rfl rfl ⟨rfl,rfl,rfl,rfl,rfl⟩ rfl rfl rfl rfl rfl (by kernel_rfl) Try.func7 (by kernel_rfl)
  (of_decide_eq_true (by kernel_rfl)) (by unfold Func.isWrapper;first|(rw [if_pos (by decide +kernel)];kernel_rfl)|(rw [if_neg (by decide +kernel)];exact ⟨rfl,rfl⟩))
  (fun os started H enc _=>collectorPins_lifted os started H enc)
theorem collectorPins_holds:Rows.CollectorPinsSaid:=collectorPins_over

end Go.Proofs.Ytmgodadmafcliaa
