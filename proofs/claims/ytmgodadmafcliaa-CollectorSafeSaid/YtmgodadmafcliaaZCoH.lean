/- CollectorSafe: after removing all garbage the stored pages are exactly the reachable ones. -/
import Derived.Test.YtmgodadmafcliaaZSrI
set_option linter.unusedSimpArgs false
set_option linter.unusedVariables false
namespace Go.Proofs.Ytmgodadmafcliaa
open Go.RowKit Go.Avm Go.ChangeShapes Go.WideShapes Go.ChangeAt
set_option maxRecDepth 100000 in set_option maxHeartbeats 12800000 in
theorem collectorSafe_calls {l:List Int}:ACalls Try.prog 6 [.sl 1 (l.map rowI)] (.sc (.bool true)) []:=by
 have hst:=rstore_calls (l:=l)
 have hso:=store_ok l
 have hdu:ACalls Try.prog 11 [.agg (dSr (storeR l))] (.agg (dDm (dumpR (storeR l)))) []:=rdump_calls
 have hkn:=known20_calls
 generalize storeR l=S at *
 obtain ⟨⟨a1,a2,a3,a4,a5,a6,a7⟩,com,last,os,bs,ps,⟨cap,pg⟩⟩:=S
 have hol:os.length≤13:=hso.sb.ho
 have hpl:ps.length≤13:=hso.sb.hp
 have hec:(os.flatMap vnsO).length≤12:=hso.ec
 have hev:versR os []=os.flatMap vnsO:=hso.ev
 have g1:=garbage_calls (com:=com) (os:=os) (ps:=ps) (bd:=bs.map rowBd) (pg:=pg.map rowPg) (by omega) (by omega) (by omega)
 have g2:=reach_calls (com:=com) (os:=os) (ps:=ps) (bd:=bs.map rowBd) (pg:=pg.map rowPg) (by omega) (by omega) (by omega) hso.pages
 rw [hev] at g1 g2
 have hgl: ∀ (p:List Pn) (l:List Vn),(garbR p l).length≤l.length:=by
  intro p l
  induction l with
  | nil=>exact Nat.le_refl _
  | cons x l ih=>rw [garbR];split<;>simp only [List.length_cons]<;>omega
 have l1:=hgl ps (os.flatMap vnsO)
 have hse:entsS ⟨⟨a1,a2,a3,a4,a5,a6,a7⟩,com,last,os,bs,ps,⟨cap,pg⟩⟩=os.flatMap vnsO:=rfl
 rw [← hse] at g1 g2 l1
 generalize hA:garbR ps (entsS ⟨⟨a1,a2,a3,a4,a5,a6,a7⟩,com,last,os,bs,ps,⟨cap,pg⟩⟩)=A at g1 l1
 unfold reachR at g2
 generalize hL:livePgs ps (entsS ⟨⟨a1,a2,a3,a4,a5,a6,a7⟩,com,last,os,bs,ps,⟨cap,pg⟩⟩)=L0 at g2
 have hAl:A.length≤12:=Nat.le_trans l1 hec
 generalize hW:insAll [] L0=W at g2
 have hsi:=hso.si
 have hsb:=hso.sb
 simp only [dSr,dDm,dumpR] at hst hdu
 refine of_tri [] [3,7,11,13,14,16,17,36,67] Try.func6 rfl call6 rfl (by decide) (by decide) rfl rfl Try.ntmps6 (by simp (disch:=omega) only [seval,go_sem,cnd,intV,shV,convV,strV,List.replicate,l_2,l_1];rfl) (by simp (disch:=omega) only [seval,go_sem,cnd,intV,shV,convV,strV,l_2,l_1];rfl) ?_
 ((repeat' (first|((with_reducible refine isTriD ?_);((with_reducible refine isCallD ?_);((with_reducible refine LVcall (st:=[]) ?_);simp only [seval,go_sem];first|(refine CallL.c (hst) ?_)|(refine CallL.c (hdu) ?_)|(refine CallL.c (g1) ?_)|(refine CallL.c (g2) ?_))))|(with_reducible (refine TVq (st:=[]) ?_))|simp only [seval,go_sem]))<;>(try (fail)))
 all_goals (with_reducible refine Tri.loopU (fun (t:Nat×Sr)=>[(6,.sc (.int .i64 t.1)),(2,.any),(7,.any),(8,.any),(18,.any),(19,.any),(20,.any),(21,.any),(22,.any),(23,.any),(24,.any),(25,.any),(26,.any),(27,.any),(28,.any),(29,.any),(30,.any),(31,.any),(32,.any),(33,.any),(34,.any),(35,.any),(36,.any),(37,.any),(38,.any),(39,.any),(40,.any),(41,.any)]) (fun (t:Nat×Sr)=>[(3,.box [.sc (.int .i64 t.2.c.ses),.sc (.int .i64 t.2.c.nam),.sc (.int .i64 t.2.c.pag),.sc (.int .i64 t.2.c.psz),.sc (.int .i64 t.2.c.pin),.sc (.int .i64 t.2.c.com),.sc (.int .i64 t.2.c.chk),.sc (.int .i64 t.2.commit),.sc (.int .i64 t.2.last),.sl 2 (t.2.objs.map rowOb),.sl 4 (t.2.binds.map rowBd),.sl 2 (t.2.pins.map rowP),.sc (.int .i64 t.2.ar.cap),.sl 3 (t.2.ar.pages.map rowPg)]),(7,.dead),(36,.dead)]) (fun (t:Nat×Sr)=>t.1≤A.length∧SrI t.2∧SrB 13 t.2∧t.2.pins=ps∧garbR ps (entsS t.2)=A.drop t.1∧livePgs ps (entsS t.2)=L0) (fun (t:Nat×Sr)=>A.length-t.1) ((0,⟨⟨a1,a2,a3,a4,a5,a6,a7⟩,com,last,os,bs,ps,⟨cap,pg⟩⟩)) (⟨Nat.zero_le _,hsi,hsb,rfl,by simpa only [List.drop_zero] using hA,hL⟩) (by intro _;simp (disch:=omega) only [seval,go_sem,cnd,intV,shV,convV,strV];rfl) (by intro _;simp (disch:=omega) only [seval,go_sem,cnd,intV,shV,convV,strV];rfl) (by (refine leQL_spec ?_);(try simp only [seval,go_sem]);done) (by (refine leQH_spec ?_);(try simp only [seval,go_sem]);done) (fun t hI=>?_))
 all_goals
  obtain ⟨i,⟨⟨b1,b2,b3,b4,b5,b6,b7⟩,com2,last2,os2,bs2,ps2,⟨cap2,pg2⟩⟩⟩:=t
  obtain ⟨hi,hi2,hb2,hp2,hga,hla⟩:=hI
  simp only at hi hi2 hb2 hp2 hga hla
  subst hp2
  by_cases hlt:i<A.length
  ·obtain ⟨x,hx⟩:=get_lt hlt
   rw [drop_get hx] at hga
   obtain ⟨S',e1,e2,e3,e4,e5,e6⟩:=remove_head hi2 hb2 (by omega) hga
   obtain ⟨x1,x2⟩:=x
   simp only at e1
   have hx':=get_map rowVc hx
   simp only [rowVc] at hx'
   have hov:=hb2.hv
   have hrm:=remove_calls (a1:=b1) (a2:=b2) (a3:=b3) (a4:=b4) (a5:=b5) (a6:=b6) (a7:=b7) (com:=com2) (last:=last2) (cap:=cap2) (os:=os2) (bs:=bs2) (ps:=ps2) (pg:=pg2) (id:=x1) (frm:=x2) (by have:=hb2.ho;simp only at this;omega) (fun o h=>by have:=(hov o h).1;omega) (fun o h v hv=>by have:=((hov o h).2 v hv).1;omega) (by omega) (by have:=hb2.hg;simp only at this;omega)
   rw [e1] at hrm
   simp only [dSr] at hrm
   ((repeat' (first|((with_reducible refine isTriD ?_);first|((with_reducible refine isCallD ?_);((with_reducible refine LVcall (st:=[]) ?_);simp only [seval,go_sem,hx'];(refine CallL.c (hrm) ?_)))|((with_reducible first|refine TriD.step (by simp only [seval,go_sem,hx'];rfl) ?_);refine LVs (st:=[]) ?_))|(with_reducible refine isDrawnN 7 ?_;refine Tri.mixedP 7 mix 18 rfl (.f 1 <| .f 2 <| .f 3 <| .f 4 <| .f 6 <| .f 7 <| .f 8 <| .f 9 <| .r 5 <| .r 10 <| .a <| .b 0 (.a <| .b 11 (.f 12 <| .f 13 <| .f 14 <| .a <| .b 15 (.a <| .b 16 (.f 17 <| .d) .e) .e) <| .b 15 (.a <| .b 11 (.f 12 <| .f 13 <| .f 14 <| .a <| .b 16 (.f 17 <| .d) .e) .e) .e) <| .b 15 (.a <| .b 0 (.a <| .b 11 (.f 12 <| .f 13 <| .f 14 <| .a <| .b 16 (.f 17 <| .d) .e) .e) .e) .e) (by kernel_rfl) ?_)|(with_reducible refine isAnyP ?_;first|refine AnyP.D ?_|refine AnyP.F (by simp only [seval,go_sem,l_7,l_6];rfl) (by first|(simp only [seval,go_sem,hx'];done)) (by first|(simp only [seval,go_sem,hx'];with_reducible rfl)|(simp (disch:=omega) only [seval,go_sem,cnd,intV,shV,convV,strV,hx'];with_reducible rfl)) ?_|refine AnyP.R (by simp only [seval,go_sem,l_7,l_6];rfl) (by first|(refine .inl ?_;simp only [seval,go_sem,hx'];done)) (by first|(simp only [seval,go_sem,hx'];with_reducible rfl)) ?_|refine AnyP.A ?_)|(with_reducible first|exact NextsP.E|refine NextsP.B (by simp only [seval,go_sem,l_7,l_6];rfl) ?_ ?_)|(with_reducible (refine TVq (st:=[]) ?_))|simp only [seval,go_sem,hx']|(with_reducible refine oV_st (by simp (disch:=omega) only [seval,go_sem,cnd,intV,shV,convV,strV,hx'];rfl) ?_)))<;>(try (fail)))
   all_goals (try (refine isNextM ((i+1,S')) (by (refine leQL_spec ?_);(try simp only [seval,go_sem]);first|((repeat' (with_reducible apply And.intro))<;>first|rfl);done) (by (refine leQH_spec ?_);(try simp only [seval,go_sem]);done) ?_ ?_<;>(try (omega))))
   all_goals (try exact ⟨by simp only;omega,e2,e3,e4,e5,e6.trans hla⟩)
  ·rw [List.drop_eq_nil_of_le (by omega)] at hga
   have hpe:=pages_live hi2 hga
   simp only at hpe
   rw [hla,hW] at hpe
   subst hpe
   have hwl:(pg2.map (·.num)).length=pg2.length:=List.length_map _
   have hgl2:=hb2.hg
   simp only at hgl2
   ((repeat' (first|(with_reducible (refine TVq (st:=[]) ?_))|simp only [seval,go_sem,hwl]|(with_reducible refine oV_st (by simp (disch:=omega) only [seval,go_sem,cnd,intV,shV,convV,strV,hwl];rfl) ?_)))<;>(try (fail)))
   all_goals (refine Tri.bx 3 (by simp only [seval,go_sem];rfl) (by simp only [seval,go_sem];first|done|rfl) (by simp only [seval,go_sem];rfl) ?_)
   all_goals (with_reducible refine Tri.loopU (fun (k:Nat)=>[(9,.sc (.int .i64 k)),(2,.any),(49,.any),(50,.any),(51,.any),(52,.any),(53,.any),(54,.any),(55,.any),(56,.any),(57,.any),(58,.any),(59,.any),(60,.any),(61,.any),(62,.any),(63,.any),(64,.any),(65,.any),(66,.any)]) (fun (k:Nat)=>[]) (fun (k:Nat)=>k≤pg2.length) (fun (k:Nat)=>pg2.length-k) (0) (Nat.zero_le _) (by intro _;simp (disch:=omega) only [seval,go_sem,cnd,intV,shV,convV,strV];rfl) (by intro _;simp (disch:=omega) only [seval,go_sem,cnd,intV,shV,convV,strV];rfl) (by (refine leQL_spec ?_);(try simp only [seval,go_sem]);done) (by (refine leQH_spec ?_);(try simp only [seval,go_sem]);done) (fun k hI=>?_))
   all_goals by_cases hlk:k<pg2.length
   ·obtain ⟨p,hp⟩:=get_lt hlk
    have hp':=get_map rowPg hp
    have hw':=get_map rowI (get_map (·.num) hp)
    (all_goals (try have hZ:=(And.intro hp' (And.intro hw' hwl)));(repeat' (first|(with_reducible refine ListD.nil ?_)|((with_reducible refine isListD ?_);(with_reducible first|refine ListD.step (by simp only [seval,go_sem,rowPg,rowI,hZ];rfl) ?_|refine ListD.step (by simp (disch:=omega) only [seval,go_sem,cnd,intV,shV,convV,strV,rowPg,rowI,hZ];rfl) ?_))|(with_reducible refine isDrawn ?_;refine Tri.drawnD mix (by kernel_rfl) (by simp only [l_3,l_4];rfl) ?_)|(with_reducible (refine TVq (st:=[]) ?_))|simp only [seval,go_sem,rowPg,rowI,hZ]|(with_reducible refine oV_st (by simp (disch:=omega) only [seval,go_sem,cnd,intV,shV,convV,strV,rowPg,rowI,hZ];rfl) ?_)))<;>(try (fail));all_goals (try clear hZ))
    all_goals (try (refine isNextM (k+1) (by (refine leQL_spec ?_);(try simp only [seval,go_sem]);first|((repeat' (with_reducible apply And.intro))<;>first|rfl);done) (by (refine leQH_spec ?_);(try simp only [seval,go_sem]);done) ?_ ?_<;>(try (omega))))
    all_goals (try omega)
   ·((repeat' (first|((with_reducible refine isTriD ?_);((with_reducible refine isCallD ?_);((with_reducible refine LVcall (st:=[]) ?_);simp only [seval,go_sem,hwl];(refine CallL.c (hkn) ?_))))|(with_reducible refine isRet ?_;refine RetV (rs:=[.tmp 2]) (by with_unfolding_all rfl) rfl ?_<;>simp only [seval,go_sem]<;>(repeat' (with_reducible apply And.intro))<;>(try rfl))|(with_reducible (refine TVq (st:=[]) ?_))|simp only [seval,go_sem,hwl]|(with_reducible refine oV_st (by simp (disch:=omega) only [seval,go_sem,cnd,intV,shV,convV,strV,hwl];rfl) ?_)))<;>(try (fail)))
theorem collectorSafe_own:ownKnob Try.prog.godebug=none:=by kernel_rfl
theorem collectorSafe_laid:laidOutB Try.prog=true:=by kernel_rfl
set_option maxRecDepth 100000 in
theorem collectorSafe_lifted (os:Os) (started:os.Started) (H:Type) (enc:TypeId×Value→H):
  ReturnsInHanded {} Try.checked os 6 .any (Rows.collectorSafeSpec.pre6 enc Try.prog Try.f6 Rows.collectorSafeRow.domain false) (Rows.collectorSafeSpec.post enc Try.prog Try.f6 false true false false):=by
 refine returnsInHanded_of_change (C:=Try.checked) collectorSafe_own started (by kernel_rfl) Try.func6
  (ChangeSpec.witness6 (enc:=enc) (C:=Try.checked) false ⟨#[], #[.slice none 0 0],[]⟩ 8 (by kernel_rfl) (by kernel_rfl) (by kernel_rfl) (by kernel_rfl)) ?_
 intro W base args ds gs before hval0 hW hcnd _
 have hval: ∀ (j:Nat) t v,Try.f6.params[j]? = some t→args[j]? = some v→Value.okWide Try.prog W .any base t v:=hval0
 have hW':=hW
 obtain ⟨p,q,hA0,hV,rfl,hfz,hnd⟩:=hW
 have hA:DataW.TrodAll enc Try.prog W 0 (fun _=>true) true Try.f6.params.toList args.toList ds p:=hA0
 rw [Try.params6] at hA hval
 obtain ⟨v0,vs0,d0,ds0,p0,q0,hargs,rfl,rfl,h0,r0⟩:=trodAll_cons hA
 obtain ⟨rfl,rfl,rfl⟩:=trodAll_nil r0
 obtain rfl:args = #[v0]:=by cases args;simp_all
 obtain ⟨a0,x0,w0,l0⟩:=arg_ints Try.underlying22 Try.underlying3 (by kernel_rfl) (hval 0 22 v0 rfl rfl) h0
 exact law_step (xs:=[.sl 1 (a0.map fun z=>[.sc (.int .i64 z)])]) hW' rfl collectorSafe_laid (by kernel_rfl) (fun gs' h=>by subst h;rfl) rfl Try.underlying4 (by simp only [RL];exact ⟨_,_,rfl,x0,rfl⟩) (collectorSafe_calls)
theorem collectorSafe_over:Rows.collectorSafeRow.holds Try.pinned (OpenSpec.ofChange Rows.collectorSafeSpec):=
 OpenClaim.holds_of_wide 6 Try.f6 rfl rfl rfl rfl rfl rfl rfl ⟨rfl,rfl,rfl,rfl,rfl⟩ rfl rfl rfl rfl rfl (by kernel_rfl) Try.func6 (by kernel_rfl)
  (of_decide_eq_true (by kernel_rfl)) (by unfold Func.isWrapper;first|(rw [if_pos (by decide +kernel)];kernel_rfl)|(rw [if_neg (by decide +kernel)];exact ⟨rfl,rfl⟩))
  (fun os started H enc _=>collectorSafe_lifted os started H enc)
theorem collectorSafe_holds:Rows.CollectorSafeSaid:=collectorSafe_over

end Go.Proofs.Ytmgodadmafcliaa
