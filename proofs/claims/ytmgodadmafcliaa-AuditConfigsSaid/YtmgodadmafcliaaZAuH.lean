/- Audit: Check of the program and of the reference give the same verdict. -/
import Derived.Test.YtmgodadmafcliaaZAuG
import Derived.Test.YtmgodadmafcliaaZAuD
import Derived.Test.YtmgodadmafcliaaZBase
import Derived.Test.YtmgodadmafcliaaZAvmT
import Derived.Test.YtmgodadmafcliaaZAuQ
set_option linter.unusedSimpArgs false
set_option linter.unusedVariables false
namespace Go.Proofs.Ytmgodadmafcliaa
open Go.RowKit Go.Avm
/-- A dump that the checks can read. -/
structure DmOk (d:Dm):Prop where
 com:d.commit≤9223372036854775807
 ol:d.objs.length≤1000
 bl:d.binds.length≤1000
 pl:d.pins.length≤1000
 gl:d.pages.length≤1000
 data: ∀ q∈d.pages,q.data.length≤9223372036854775807
 vers: ∀ o∈d.objs,o.vers.length≤1000∧ ∀ v∈o.vers,v.size≤9223372036854775807∧v.pages.length≤9223372036854775807
theorem cfOk_rng {c:Cf} (h:cfOk c=true):8≤c.psz∧c.psz≤1024∧1≤c.pin∧c.pin≤1024:=by
 simp only [cfOk,inR,Bool.and_eq_true,decide_eq_true_eq] at h
 omega
/-- How a check ends. -/
theorem checkE_cases (c:Cf) (d:Dm):(cfOk c=false∧checkE c d=5)∨(cfOk c=true∧((inR d.commit 0 c.com=false∧checkE c d=5)∨(inR d.commit 0 c.com=true∧((pinsE c d.commit d.pins≠0∧checkE c d=pinsE c d.commit d.pins)∨(pinsE c d.commit d.pins=0∧
  ((bindsE c d.commit d.binds≠0∧checkE c d=bindsE c d.commit d.binds)∨(bindsE c d.commit d.binds=0∧((objsE c.psz d.commit none d.objs≠0∧checkE c d=objsE c.psz d.commit none d.objs)∨(objsE c.psz d.commit none d.objs=0∧
    ((pagesE c d.pages≠0∧checkE c d=pagesE c d.pages)∨(pagesE c d.pages=0∧((dataE d.pages d.objs≠0∧checkE c d=dataE d.pages d.objs)∨(dataE d.pages d.objs=0∧checkE c d=if (refsOk d&&nameOne d&&nameCur d&&keptOk d)=true then 0 else 20))))))))))))):=by
 unfold checkE
 cases h1:cfOk c with
 | false=>exact .inl ⟨rfl,rfl⟩
 | true=>
   refine .inr ⟨rfl,?_⟩
   cases h2:inR d.commit 0 c.com with
   | false=>exact .inl ⟨rfl,rfl⟩
   | true=>
     refine .inr ⟨rfl,?_⟩
     rw [if_neg (by decide),if_neg (by decide)]
     by_cases h3:pinsE c d.commit d.pins≠0
     ·exact .inl ⟨h3,if_pos h3⟩
     rw [if_neg h3]
     refine .inr ⟨by simpa using h3,?_⟩
     by_cases h4:bindsE c d.commit d.binds≠0
     ·exact .inl ⟨h4,if_pos h4⟩
     rw [if_neg h4]
     refine .inr ⟨by simpa using h4,?_⟩
     by_cases h5:objsE c.psz d.commit none d.objs≠0
     ·exact .inl ⟨h5,if_pos h5⟩
     rw [if_neg h5]
     refine .inr ⟨by simpa using h5,?_⟩
     by_cases h6:pagesE c d.pages≠0
     ·exact .inl ⟨h6,if_pos h6⟩
     rw [if_neg h6]
     refine .inr ⟨by simpa using h6,?_⟩
     by_cases h7:dataE d.pages d.objs≠0
     ·exact .inl ⟨h7,if_pos h7⟩
     rw [if_neg h7]
     exact .inr ⟨by simpa using h7,rfl⟩
set_option maxRecDepth 100000 in set_option maxHeartbeats 25600000 in
theorem rcheck_calls {c:Cf} {d:Dm} (hd:DmOk d):ACalls Try.prog 14 [.agg (dCf c), .agg (dDm d)] (.sc (.int .i64 (checkE c d))) []:=by
 obtain ⟨com,os,bs,ps,pg⟩:=d
 obtain ⟨d1,d2,d3,d4,d5,d6,d7⟩:=hd
 obtain ⟨a1,a2,a3,a4,a5,a6,a7⟩:=c
 have hcc:=rcfg_calls (a:=a1) (b:=a2) (c:=a3) (d:=a4) (e:=a5) (f:=a6) (g:=a7)
 have hpp:=rckpins_calls (a:=a1) (b:=a2) (c:=a3) (e:=a4) (p:=a5) (f:=a6) (g:=a7) (com:=com) (ob:=os.map rowOb) (bd:=bs.map rowBd) (pg:=pg.map rowPg) (l:=ps) d4
 have hbb:=rckbinds_calls (a:=a1) (b:=a2) (c:=a3) (e:=a4) (p:=a5) (f:=a6) (g:=a7) (com:=com) (ob:=os.map rowOb) (pn:=ps.map rowP) (pg:=pg.map rowPg) (l:=bs) d3
 have key:=checkE_cases ⟨a1,a2,a3,a4,a5,a6,a7⟩ ⟨com,os,bs,ps,pg⟩
 generalize checkE ⟨a1,a2,a3,a4,a5,a6,a7⟩ ⟨com,os,bs,ps,pg⟩=E at *
 simp only [dCf,dDm]
 simp only at key
 rcases key with ⟨k1,k2⟩|⟨k1,⟨k2,k3⟩|⟨k2,⟨k3,k4⟩|⟨k3,⟨k4,k5⟩|⟨k4,key⟩⟩⟩⟩
 ·rw [k1] at hcc
  rw [k2]
  refine of_tri [] [2,3,11,19,23,29,35,41,46] Try.func14 rfl call14 rfl (by decide) (by decide) rfl rfl Try.ntmps14 (by simp (disch:=omega) only [seval,go_sem,cnd,intV,shV,convV,strV,List.replicate,l_2,l_1];rfl) (by simp (disch:=omega) only [seval,go_sem,cnd,intV,shV,convV,strV,l_2,l_1];rfl) ?_
  ((repeat' (first|((with_reducible refine isTriD ?_);((with_reducible refine isCallD ?_);((with_reducible refine LVcall (st:=[]) ?_);simp only [seval,go_sem];(refine CallL.c (hcc) ?_))))|(with_reducible refine isRet ?_;refine RetV (rs:=[.tmp 4]) (by with_unfolding_all rfl) rfl ?_<;>simp only [seval,go_sem]<;>(repeat' (with_reducible apply And.intro))<;>(try rfl))|(with_reducible (refine TVq (st:=[]) ?_))|simp only [seval,go_sem]|(with_reducible refine oV_st (by simp (disch:=omega) only [seval,go_sem,cnd,intV,shV,convV,strV];rfl) ?_)))<;>(try (fail)))
 ·rw [k1] at hcc
  rw [k3]
  refine of_tri [] [2,3,11,19,23,29,35,41,46] Try.func14 rfl call14 rfl (by decide) (by decide) rfl rfl Try.ntmps14 (by simp (disch:=omega) only [seval,go_sem,cnd,intV,shV,convV,strV,List.replicate,l_2,l_1];rfl) (by simp (disch:=omega) only [seval,go_sem,cnd,intV,shV,convV,strV,l_2,l_1];rfl) ?_
  ((repeat' (first|((with_reducible refine isTriD ?_);((with_reducible refine isCallD ?_);((with_reducible refine LVcall (st:=[]) ?_);simp only [seval,go_sem,k2];first|(refine CallL.c (hcc) ?_)|(refine CallL.c (rwithin_calls) ?_))))|(with_reducible refine isRet ?_;refine RetV (rs:=[.tmp 4]) (by with_unfolding_all rfl) rfl ?_<;>simp only [seval,go_sem]<;>(repeat' (with_reducible apply And.intro))<;>(try rfl))|(with_reducible (refine TVq (st:=[]) ?_))|simp only [seval,go_sem,k2]|(with_reducible refine oV_st (by simp (disch:=omega) only [seval,go_sem,cnd,intV,shV,convV,strV,k2];rfl) ?_)))<;>(try (fail)))
 ·rw [k1] at hcc
  rw [k4]
  refine of_tri [] [2,3,11,19,23,29,35,41,46] Try.func14 rfl call14 rfl (by decide) (by decide) rfl rfl Try.ntmps14 (by simp (disch:=omega) only [seval,go_sem,cnd,intV,shV,convV,strV,List.replicate,l_2,l_1];rfl) (by simp (disch:=omega) only [seval,go_sem,cnd,intV,shV,convV,strV,l_2,l_1];rfl) ?_
  ((repeat' (first|((with_reducible refine isTriD ?_);((with_reducible refine isCallD ?_);((with_reducible refine LVcall (st:=[]) ?_);simp only [seval,go_sem,k2];first|(refine CallL.c (hcc) ?_)|(refine CallL.c (hpp) ?_)|(refine CallL.c (rwithin_calls) ?_))))|(with_reducible refine isRet ?_;refine RetV (rs:=[.tmp 4]) (by with_unfolding_all rfl) rfl ?_<;>simp only [seval,go_sem]<;>(repeat' (with_reducible apply And.intro))<;>(try rfl))|(with_reducible (refine TVq (st:=[]) ?_))|simp only [seval,go_sem,k2]|(with_reducible refine oV_st (by simp (disch:=omega) only [seval,go_sem,cnd,intV,shV,convV,strV,k2];rfl) ?_)))<;>(try (fail)))
 ·rw [k1] at hcc
  rw [k5]
  rw [k3] at hpp
  refine of_tri [] [2,3,11,19,23,29,35,41,46] Try.func14 rfl call14 rfl (by decide) (by decide) rfl rfl Try.ntmps14 (by simp (disch:=omega) only [seval,go_sem,cnd,intV,shV,convV,strV,List.replicate,l_2,l_1];rfl) (by simp (disch:=omega) only [seval,go_sem,cnd,intV,shV,convV,strV,l_2,l_1];rfl) ?_
  ((repeat' (first|((with_reducible refine isTriD ?_);((with_reducible refine isCallD ?_);((with_reducible refine LVcall (st:=[]) ?_);simp only [seval,go_sem,k2];first|(refine CallL.c (hcc) ?_)|(refine CallL.c (hpp) ?_)|(refine CallL.c (hbb) ?_)|(refine CallL.c (rwithin_calls) ?_))))|(with_reducible refine isRet ?_;refine RetV (rs:=[.tmp 4]) (by with_unfolding_all rfl) rfl ?_<;>simp only [seval,go_sem]<;>(repeat' (with_reducible apply And.intro))<;>(try rfl))|(with_reducible (refine TVq (st:=[]) ?_))|simp only [seval,go_sem,k2]|(with_reducible refine oV_st (by simp (disch:=omega) only [seval,go_sem,cnd,intV,shV,convV,strV,k2];rfl) ?_)))<;>(try (fail)))
 ·rw [k1] at hcc
  rw [k3] at hpp
  rw [k4] at hbb
  obtain ⟨r1,r2,_,_⟩:=cfOk_rng k1
  have hoo:=rckobjs_calls (a:=a1) (b:=a2) (c:=a3) (e:=a4) (p:=a5) (f:=a6) (g:=a7) (com:=com) (bd:=bs.map rowBd) (pn:=ps.map rowP) (pg:=pg.map rowPg) (l:=os) d2 d7 ⟨r1,r2⟩ d1
  have hgg:=rckpages_calls (a:=a1) (b:=a2) (c:=a3) (e:=a4) (p:=a5) (f:=a6) (g:=a7) (com:=com) (bd:=bs.map rowBd) (pn:=ps.map rowP) (l:=pg) (os:=os) d5 d2 d6 d7
  rcases key with ⟨k5,k6⟩|⟨k5,key⟩
  ·rw [k6]
   refine of_tri [] [2,3,11,19,23,29,35,41,46] Try.func14 rfl call14 rfl (by decide) (by decide) rfl rfl Try.ntmps14 (by simp (disch:=omega) only [seval,go_sem,cnd,intV,shV,convV,strV,List.replicate,l_2,l_1];rfl) (by simp (disch:=omega) only [seval,go_sem,cnd,intV,shV,convV,strV,l_2,l_1];rfl) ?_
   ((repeat' (first|((with_reducible refine isTriD ?_);((with_reducible refine isCallD ?_);((with_reducible refine LVcall (st:=[]) ?_);simp only [seval,go_sem,k2];first|(refine CallL.c (hcc) ?_)|(refine CallL.c (hpp) ?_)|(refine CallL.c (hbb) ?_)|(refine CallL.c (hoo) ?_)|(refine CallL.c (rwithin_calls) ?_))))|(with_reducible refine isRet ?_;refine RetV (rs:=[.tmp 4]) (by with_unfolding_all rfl) rfl ?_<;>simp only [seval,go_sem]<;>(repeat' (with_reducible apply And.intro))<;>(try rfl))|(with_reducible (refine TVq (st:=[]) ?_))|simp only [seval,go_sem,k2]|(with_reducible refine oV_st (by simp (disch:=omega) only [seval,go_sem,cnd,intV,shV,convV,strV,k2];rfl) ?_)))<;>(try (fail)))
  ·rw [k5] at hoo
   have has:=objsE_asc os none k5
   have hkk:=rcons_calls (com:=com) (os:=os) (bs:=bs) (ps:=ps) (pg:=pg) d2 d3 d4 d5 (fun o ho=>⟨(d7 o ho).1,(has.1 o ho).1,fun v hv=>((d7 o ho).2 v hv).2⟩)
   rw [conR_eq] at hkk
   rcases key with ⟨k6,k7⟩|⟨k6,⟨k7,k8⟩|⟨k7,k8⟩⟩
   ·rw [k7]
    rw [rpagesE,if_pos k6] at hgg
    refine of_tri [] [2,3,11,19,23,29,35,41,46] Try.func14 rfl call14 rfl (by decide) (by decide) rfl rfl Try.ntmps14 (by simp (disch:=omega) only [seval,go_sem,cnd,intV,shV,convV,strV,List.replicate,l_2,l_1];rfl) (by simp (disch:=omega) only [seval,go_sem,cnd,intV,shV,convV,strV,l_2,l_1];rfl) ?_
    ((repeat' (first|((with_reducible refine isTriD ?_);((with_reducible refine isCallD ?_);((with_reducible refine LVcall (st:=[]) ?_);simp only [seval,go_sem,k2];first|(refine CallL.c (hcc) ?_)|(refine CallL.c (hpp) ?_)|(refine CallL.c (hbb) ?_)|(refine CallL.c (hoo) ?_)|(refine CallL.c (hgg) ?_)|(refine CallL.c (rwithin_calls) ?_))))|(with_reducible refine isRet ?_;refine RetV (rs:=[.tmp 4]) (by with_unfolding_all rfl) rfl ?_<;>simp only [seval,go_sem]<;>(repeat' (with_reducible apply And.intro))<;>(try rfl))|(with_reducible (refine TVq (st:=[]) ?_))|simp only [seval,go_sem,k2]|(with_reducible refine oV_st (by simp (disch:=omega) only [seval,go_sem,cnd,intV,shV,convV,strV,k2];rfl) ?_)))<;>(try (fail)))
   ·rw [k8]
    rw [rpagesE,if_neg (by simp [k6])] at hgg
    refine of_tri [] [2,3,11,19,23,29,35,41,46] Try.func14 rfl call14 rfl (by decide) (by decide) rfl rfl Try.ntmps14 (by simp (disch:=omega) only [seval,go_sem,cnd,intV,shV,convV,strV,List.replicate,l_2,l_1];rfl) (by simp (disch:=omega) only [seval,go_sem,cnd,intV,shV,convV,strV,l_2,l_1];rfl) ?_
    ((repeat' (first|((with_reducible refine isTriD ?_);((with_reducible refine isCallD ?_);((with_reducible refine LVcall (st:=[]) ?_);simp only [seval,go_sem,k2];first|(refine CallL.c (hcc) ?_)|(refine CallL.c (hpp) ?_)|(refine CallL.c (hbb) ?_)|(refine CallL.c (hoo) ?_)|(refine CallL.c (hgg) ?_)|(refine CallL.c (rwithin_calls) ?_))))|(with_reducible refine isRet ?_;refine RetV (rs:=[.tmp 4]) (by with_unfolding_all rfl) rfl ?_<;>simp only [seval,go_sem]<;>(repeat' (with_reducible apply And.intro))<;>(try rfl))|(with_reducible (refine TVq (st:=[]) ?_))|simp only [seval,go_sem,k2]|(with_reducible refine oV_st (by simp (disch:=omega) only [seval,go_sem,cnd,intV,shV,convV,strV,k2];rfl) ?_)))<;>(try (fail)))
   ·rw [k8]
    rw [rpagesE,if_neg (by simp [k6]),k7] at hgg
    generalize (refsOk (⟨com,os,bs,ps,pg⟩:Dm)&&nameOne ⟨com,os,bs,ps,pg⟩&&nameCur ⟨com,os,bs,ps,pg⟩&&keptOk ⟨com,os,bs,ps,pg⟩)=B at *
    cases B with
    | true=>
      rw [if_pos rfl]
      refine of_tri [] [2,3,11,19,23,29,35,41,46] Try.func14 rfl call14 rfl (by decide) (by decide) rfl rfl Try.ntmps14 (by simp (disch:=omega) only [seval,go_sem,cnd,intV,shV,convV,strV,List.replicate,l_2,l_1];rfl) (by simp (disch:=omega) only [seval,go_sem,cnd,intV,shV,convV,strV,l_2,l_1];rfl) ?_
      ((repeat' (first|((with_reducible refine isTriD ?_);((with_reducible refine isCallD ?_);((with_reducible refine LVcall (st:=[]) ?_);simp only [seval,go_sem,k2];first|(refine CallL.c (hcc) ?_)|(refine CallL.c (hpp) ?_)|(refine CallL.c (hbb) ?_)|(refine CallL.c (hoo) ?_)|(refine CallL.c (hgg) ?_)|(refine CallL.c (hkk) ?_)|(refine CallL.c (rwithin_calls) ?_))))|(with_reducible refine isRet ?_;refine RetV (rs:=[.tmp 4]) (by with_unfolding_all rfl) rfl ?_<;>simp only [seval,go_sem]<;>(repeat' (with_reducible apply And.intro))<;>(try rfl))|(with_reducible (refine TVq (st:=[]) ?_))|simp only [seval,go_sem,k2]|(with_reducible refine oV_st (by simp (disch:=omega) only [seval,go_sem,cnd,intV,shV,convV,strV,k2];rfl) ?_)))<;>(try (fail)))
    | false=>
      rw [if_neg (by decide)]
      refine of_tri [] [2,3,11,19,23,29,35,41,46] Try.func14 rfl call14 rfl (by decide) (by decide) rfl rfl Try.ntmps14 (by simp (disch:=omega) only [seval,go_sem,cnd,intV,shV,convV,strV,List.replicate,l_2,l_1];rfl) (by simp (disch:=omega) only [seval,go_sem,cnd,intV,shV,convV,strV,l_2,l_1];rfl) ?_
      ((repeat' (first|((with_reducible refine isTriD ?_);((with_reducible refine isCallD ?_);((with_reducible refine LVcall (st:=[]) ?_);simp only [seval,go_sem,k2];first|(refine CallL.c (hcc) ?_)|(refine CallL.c (hpp) ?_)|(refine CallL.c (hbb) ?_)|(refine CallL.c (hoo) ?_)|(refine CallL.c (hgg) ?_)|(refine CallL.c (hkk) ?_)|(refine CallL.c (rwithin_calls) ?_))))|(with_reducible refine isRet ?_;refine RetV (rs:=[.tmp 4]) (by with_unfolding_all rfl) rfl ?_<;>simp only [seval,go_sem]<;>(repeat' (with_reducible apply And.intro))<;>(try rfl))|(with_reducible (refine TVq (st:=[]) ?_))|simp only [seval,go_sem,k2]|(with_reducible refine oV_st (by simp (disch:=omega) only [seval,go_sem,cnd,intV,shV,convV,strV,k2];rfl) ?_)))<;>(try (fail)))
theorem checkE_ok {c:Cf} {d:Dm} (h1:cfOk c=true) (h2:inR d.commit 0 c.com=true):(pinsE c d.commit d.pins≠0→checkE c d=pinsE c d.commit d.pins)∧(pinsE c d.commit d.pins=0→bindsE c d.commit d.binds≠0→checkE c d=bindsE c d.commit d.binds)∧
  (pinsE c d.commit d.pins=0→bindsE c d.commit d.binds=0→objsE c.psz d.commit none d.objs≠0→checkE c d=objsE c.psz d.commit none d.objs)∧(pinsE c d.commit d.pins=0→bindsE c d.commit d.binds=0→objsE c.psz d.commit none d.objs=0→pagesE c d.pages≠0→checkE c d=pagesE c d.pages)∧
  (pinsE c d.commit d.pins=0→bindsE c d.commit d.binds=0→objsE c.psz d.commit none d.objs=0→pagesE c d.pages=0→dataE d.pages d.objs≠0→checkE c d=dataE d.pages d.objs)∧
  (pinsE c d.commit d.pins=0→bindsE c d.commit d.binds=0→objsE c.psz d.commit none d.objs=0→pagesE c d.pages=0→dataE d.pages d.objs=0→checkE c d=if (refsOk d&&nameOne d&&nameCur d&&keptOk d)=true then 0 else 20):=by
 unfold checkE
 rw [h1,h2,if_neg (by decide),if_neg (by decide)]
 refine ⟨fun a=>if_pos a,fun a b=>?_,fun a b e=>?_,fun a b e f=>?_,fun a b e f g=>?_,fun a b e f g=>?_⟩
 ·rw [if_neg (by simp [a]),if_pos b]
 ·rw [if_neg (by simp [a]),if_neg (by simp [b]),if_pos e]
 ·rw [if_neg (by simp [a]),if_neg (by simp [b]),if_neg (by simp [e]),if_pos f]
 ·rw [if_neg (by simp [a]),if_neg (by simp [b]),if_neg (by simp [e]),if_neg (by simp [f]),if_pos g]
 ·rw [if_neg (by simp [a]),if_neg (by simp [b]),if_neg (by simp [e]),if_neg (by simp [f]),if_neg (by simp [g])]
set_option maxRecDepth 100000 in set_option maxHeartbeats 25600000 in
theorem check_calls {c:Cf} {d:Dm} (hd:DmOk d):ACalls Try.prog 13 [.agg (dCf c), .agg (dDm d)] (.sc (.int .i64 (checkE c d))) []:=by
 obtain ⟨com,os,bs,ps,pg⟩:=d
 obtain ⟨d1,d2,d3,d4,d5,d6,d7⟩:=hd
 obtain ⟨a1,a2,a3,a4,a5,a6,a7⟩:=c
 have hcc:=cfg_calls (a:=a1) (b:=a2) (c:=a3) (d:=a4) (e:=a5) (f:=a6) (g:=a7)
 cases k1:cfOk ⟨a1,a2,a3,a4,a5,a6,a7⟩ with
 | false=>
   rw [k1] at hcc
   have e:checkE ⟨a1,a2,a3,a4,a5,a6,a7⟩ ⟨com,os,bs,ps,pg⟩=5:=by unfold checkE;rw [k1,if_pos rfl]
   rw [e]
   simp only [dCf,dDm]
   refine of_tri [] [2,3,10,18,19,28,34,38,43] Try.func13 rfl call13 rfl (by decide) (by decide) rfl rfl Try.ntmps13 (by simp (disch:=omega) only [seval,go_sem,cnd,intV,shV,convV,strV,List.replicate,l_2,l_1];rfl) (by simp (disch:=omega) only [seval,go_sem,cnd,intV,shV,convV,strV,l_2,l_1];rfl) ?_
   ((repeat' (first|((with_reducible refine isTriD ?_);((with_reducible refine isCallD ?_);((with_reducible refine LVcall (st:=[]) ?_);simp only [seval,go_sem];(refine CallL.c (hcc) ?_))))|(with_reducible (refine TVq (st:=[]) ?_))|simp only [seval,go_sem]|(with_reducible refine oV_st (by simp (disch:=omega) only [seval,go_sem,cnd,intV,shV,convV,strV];rfl) ?_)))<;>(try (fail)))
   all_goals (with_reducible refine isRet ?_;refine RetV (rs:=[.tmp 4]) (by with_unfolding_all rfl) rfl ?_<;>simp only [seval,go_sem]<;>(repeat' (with_reducible apply And.intro))<;>(try rfl))
 | true=>
   rw [k1] at hcc
   cases k2:inR com 0 a6 with
   | false=>
     have e:checkE ⟨a1,a2,a3,a4,a5,a6,a7⟩ ⟨com,os,bs,ps,pg⟩=5:=by unfold checkE;rw [k1,if_neg (by decide)];exact if_pos k2
     rw [e]
     simp only [dCf,dDm]
     refine of_tri [] [2,3,10,18,19,28,34,38,43] Try.func13 rfl call13 rfl (by decide) (by decide) rfl rfl Try.ntmps13 (by simp (disch:=omega) only [seval,go_sem,cnd,intV,shV,convV,strV,List.replicate,l_2,l_1];rfl) (by simp (disch:=omega) only [seval,go_sem,cnd,intV,shV,convV,strV,l_2,l_1];rfl) ?_
     ((repeat' (first|((with_reducible refine isTriD ?_);((with_reducible refine isCallD ?_);((with_reducible refine LVcall (st:=[]) ?_);simp only [seval,go_sem,k2];first|(refine CallL.c (hcc) ?_)|(refine CallL.c (outside_calls) ?_))))|(with_reducible (refine TVq (st:=[]) ?_))|simp only [seval,go_sem,k2]|(with_reducible refine oV_st (by simp (disch:=omega) only [seval,go_sem,cnd,intV,shV,convV,strV,k2];rfl) ?_)))<;>(try (fail)))
     all_goals (with_reducible refine isRet ?_;refine RetV (rs:=[.tmp 4]) (by with_unfolding_all rfl) rfl ?_<;>simp only [seval,go_sem]<;>(repeat' (with_reducible apply And.intro))<;>(try rfl))
   | true=>
     obtain ⟨r1,r2,r3,r4⟩:=cfOk_rng k1
     simp only at r1 r2 r3 r4
     have hpp:=ckpins_calls (a:=a1) (b:=a2) (c:=a3) (e:=a4) (p:=a5) (f:=a6) (g:=a7) (com:=com) (ob:=os.map rowOb) (bd:=bs.map rowBd) (pg:=pg.map rowPg) (l:=ps) d4 r3 r4 d1
     have hbb:=ckbinds_calls (a:=a1) (b:=a2) (c:=a3) (e:=a4) (p:=a5) (f:=a6) (g:=a7) (com:=com) (ob:=os.map rowOb) (pn:=ps.map rowP) (pg:=pg.map rowPg) (l:=bs) d3 d1
     have hoo:=ckobjs_calls (a:=a1) (b:=a2) (c:=a3) (e:=a4) (p:=a5) (f:=a6) (g:=a7) (com:=com) (bd:=bs.map rowBd) (pn:=ps.map rowP) (pg:=pg.map rowPg) (l:=os) d2 d7 ⟨r1,r2⟩ d1
     have hgg:=ckpages_calls (a:=a1) (b:=a2) (c:=a3) (e:=a4) (p:=a5) (f:=a6) (g:=a7) (com:=com) (ob:=os.map rowOb) (bd:=bs.map rowBd) (pn:=ps.map rowP) (l:=pg) d5 d6
     have hdd:pagesE ⟨a1,a2,a3,a4,a5,a6,a7⟩ pg=0→_:=fun h=>ckdata_calls (a:=a1) (b:=a2) (c:=a3) (e:=a4) (p:=a5) (f:=a6) (g:=a7) (com:=com) (bd:=bs.map rowBd) (pn:=ps.map rowP) (l:=os) (ps:=pg) d2 d5 (by
      rcases pagesE_cases ⟨a1,a2,a3,a4,a5,a6,a7⟩ pg with ⟨q1,q2⟩|⟨q1,_⟩
      ·exact absurd (q2.symm.trans h) q1
      ·exact (pgsE_asc pg none q1).2) d7
     have hct:=counted_calls (com:=com) (l:=os) (ps:=pg) (bd:=bs.map rowBd) (pn:=ps.map rowP) d2 d5 d7
     have hnm:objsE a4 com none os=0→_:=fun h=>named_calls (com:=com) (l:=os) (bs:=bs) (pn:=ps.map rowP) (pg:=pg.map rowPg) d2 d3 (objsE_asc os none h).2 (fun o ho=>⟨(d7 o ho).1,((objsE_asc os none h).1 o ho).1⟩)
     have hkp:objsE a4 com none os=0→_:=fun h=>kept_calls (com:=com) (l:=os) (bs:=bs) (ps:=ps) (pg:=pg.map rowPg) d2 d3 d4 (objsE_asc os none h).2 (fun o ho=>(d7 o ho).1)
     have hne:objsE a4 com none os=0→nmGo os ((opens bs).foldl bump [])=(nameOne ⟨com,os,bs,ps,pg⟩&&nameCur ⟨com,os,bs,ps,pg⟩):=fun h=>named_eq (d:=⟨com,os,bs,ps,pg⟩) (objsE_asc os none h).2 d3
     have hke:ps.all (keptP os bs)=keptOk ⟨com,os,bs,ps,pg⟩:=kept_eq ⟨com,os,bs,ps,pg⟩
     have hre:(pg.all fun q=>q.refs==cntW q.num (pgsO os) 0)=refsOk ⟨com,os,bs,ps,pg⟩:=rfl
     rw [hre] at hct
     rw [hke] at hkp
     obtain ⟨e1,e2,e3,e4,e5,e6⟩:=checkE_ok (c:=⟨a1,a2,a3,a4,a5,a6,a7⟩) (d:=⟨com,os,bs,ps,pg⟩) k1 k2
     generalize checkE ⟨a1,a2,a3,a4,a5,a6,a7⟩ ⟨com,os,bs,ps,pg⟩=E at *
     simp only at e1 e2 e3 e4 e5 e6
     generalize pinsE ⟨a1,a2,a3,a4,a5,a6,a7⟩ com ps=eP at *
     generalize bindsE ⟨a1,a2,a3,a4,a5,a6,a7⟩ com bs=eB at *
     generalize objsE a4 com none os=eO at *
     generalize pagesE ⟨a1,a2,a3,a4,a5,a6,a7⟩ pg=eG at *
     generalize dataE pg os=eD at *
     generalize refsOk (⟨com,os,bs,ps,pg⟩:Dm)=bR at *
     generalize nameOne (⟨com,os,bs,ps,pg⟩:Dm)=bN at *
     generalize nameCur (⟨com,os,bs,ps,pg⟩:Dm)=bC at *
     generalize keptOk (⟨com,os,bs,ps,pg⟩:Dm)=bK at *
     simp only [dCf,dDm]
     refine of_tri [] [2,3,10,18,19,28,34,38,43] Try.func13 rfl call13 rfl (by decide) (by decide) rfl rfl Try.ntmps13 (by simp (disch:=omega) only [seval,go_sem,cnd,intV,shV,convV,strV,List.replicate,l_2,l_1];rfl) (by simp (disch:=omega) only [seval,go_sem,cnd,intV,shV,convV,strV,l_2,l_1];rfl) ?_
     ((repeat' (first|((with_reducible refine isTriD ?_);((with_reducible refine isCallD ?_);((with_reducible refine LVcall (st:=[]) ?_);simp only [seval,go_sem,k2];first|(refine CallL.c (hcc) ?_;simp only [seval,go_sem,k2];(fail_if_success (with_reducible refine isResV ?_)))|(refine CallL.c (outside_calls) ?_;simp only [seval,go_sem,k2];(fail_if_success (with_reducible refine isResV ?_))))))|(with_reducible (refine TVq (st:=[]) ?_))|simp only [seval,go_sem,k2]|(with_reducible refine oV_st (by simp (disch:=omega) only [seval,go_sem,cnd,intV,shV,convV,strV,k2];rfl) ?_)))<;>(try (fail)))
     all_goals (refine Tri.bx 2 (by simp only [seval,go_sem];rfl) (by simp only [seval,go_sem];first|done|rfl) (by simp only [seval,go_sem];rfl) ?_)
     all_goals (refine Tri.bx 3 (by simp only [seval,go_sem];rfl) (by simp only [seval,go_sem];first|done|rfl) (by simp only [seval,go_sem];rfl) ?_)
     all_goals (with_reducible refine Tri.loopU (fun (k:Nat)=>[(21,.sc (.int .i64 k)),(4,.any),(7,.any),(8,.any),(22,.any),(23,.any),(24,.any),(25,.any),(26,.any),(27,.any),(28,.any),(29,.any),(30,.any),(31,.any),(32,.any)]) (fun (k:Nat)=>[(28,.dead)]) (fun (k:Nat)=>k≤5∧(1≤k→eP=0)∧(2≤k→eB=0)∧(3≤k→eO=0)∧(4≤k→eG=0)∧(5≤k→eD=0)) (fun (k:Nat)=>5-k) (0) (⟨by omega,by omega,by omega,by omega,by omega,by omega⟩) (by intro _;simp (disch:=omega) only [seval,go_sem,cnd,intV,shV,convV,strV];rfl) (by intro _;simp (disch:=omega) only [seval,go_sem,cnd,intV,shV,convV,strV];rfl) (by (refine leQL_spec ?_);(try simp only [seval,go_sem]);done) (by (refine leQH_spec ?_);(try simp only [seval,go_sem]);done) (fun k hI=>?_))
     all_goals
      obtain ⟨hk,i1,i2,i3,i4,i5⟩:=hI
      have hk6:k=0∨k=1∨k=2∨k=3∨k=4∨k=5:=by omega
      rcases hk6 with rfl|rfl|rfl|rfl|rfl|rfl
      ·by_cases hz:eP=0
       ·rw [hz] at hpp
        ((repeat' (first|((with_reducible refine isTriD ?_);((with_reducible refine isCallD ?_);((with_reducible refine LVcall (st:=[]) ?_);simp only [seval,go_sem];(refine CallL.c (hpp) ?_))))|(with_reducible (refine TVq (st:=[]) ?_))|simp only [seval,go_sem]|(with_reducible refine oV_st (by simp (disch:=omega) only [seval,go_sem,cnd,intV,shV,convV,strV];rfl) ?_)))<;>(try (fail)))
        all_goals (refine isNextM (1) (by (refine leQL_spec ?_);(try simp only [seval,go_sem]);done) (by (refine leQH_spec ?_);(try simp only [seval,go_sem]);done) ?_ ?_<;>(try (omega)))
        all_goals (try exact ⟨by omega,fun _=>hz,by omega,by omega,by omega,by omega⟩)
       ·rw [e1 hz]
        ((repeat' (first|((with_reducible refine isTriD ?_);((with_reducible refine isCallD ?_);((with_reducible refine LVcall (st:=[]) ?_);simp only [seval,go_sem];(refine CallL.c (hpp) ?_))))|(with_reducible refine isRet ?_;refine RetV (rs:=[.tmp 4]) (by with_unfolding_all rfl) rfl ?_<;>simp only [seval,go_sem]<;>(repeat' (with_reducible apply And.intro))<;>(try rfl))|(with_reducible (refine TVq (st:=[]) ?_))|simp only [seval,go_sem]|(with_reducible refine oV_st (by simp (disch:=omega) only [seval,go_sem,cnd,intV,shV,convV,strV];rfl) ?_)))<;>(try (fail)))
      ·have z1:=i1 (by omega)
       by_cases hz:eB=0
       ·rw [hz] at hbb
        ((repeat' (first|((with_reducible refine isTriD ?_);((with_reducible refine isCallD ?_);((with_reducible refine LVcall (st:=[]) ?_);simp only [seval,go_sem];(refine CallL.c (hbb) ?_))))|(with_reducible (refine TVq (st:=[]) ?_))|simp only [seval,go_sem]|(with_reducible refine oV_st (by simp (disch:=omega) only [seval,go_sem,cnd,intV,shV,convV,strV];rfl) ?_)))<;>(try (fail)))
        all_goals (refine isNextM (2) (by (refine leQL_spec ?_);(try simp only [seval,go_sem]);done) (by (refine leQH_spec ?_);(try simp only [seval,go_sem]);done) ?_ ?_<;>(try (omega)))
        all_goals (try exact ⟨by omega,fun _=>z1,fun _=>hz,by omega,by omega,by omega⟩)
       ·rw [e2 z1 hz]
        ((repeat' (first|((with_reducible refine isTriD ?_);((with_reducible refine isCallD ?_);((with_reducible refine LVcall (st:=[]) ?_);simp only [seval,go_sem];(refine CallL.c (hbb) ?_))))|(with_reducible refine isRet ?_;refine RetV (rs:=[.tmp 4]) (by with_unfolding_all rfl) rfl ?_<;>simp only [seval,go_sem]<;>(repeat' (with_reducible apply And.intro))<;>(try rfl))|(with_reducible (refine TVq (st:=[]) ?_))|simp only [seval,go_sem]|(with_reducible refine oV_st (by simp (disch:=omega) only [seval,go_sem,cnd,intV,shV,convV,strV];rfl) ?_)))<;>(try (fail)))
      ·have z1:=i1 (by omega)
       have z2:=i2 (by omega)
       by_cases hz:eO=0
       ·rw [hz] at hoo
        ((repeat' (first|((with_reducible refine isTriD ?_);((with_reducible refine isCallD ?_);((with_reducible refine LVcall (st:=[]) ?_);simp only [seval,go_sem];(refine CallL.c (hoo) ?_))))|(with_reducible (refine TVq (st:=[]) ?_))|simp only [seval,go_sem]|(with_reducible refine oV_st (by simp (disch:=omega) only [seval,go_sem,cnd,intV,shV,convV,strV];rfl) ?_)))<;>(try (fail)))
        all_goals (refine isNextM (3) (by (refine leQL_spec ?_);(try simp only [seval,go_sem]);done) (by (refine leQH_spec ?_);(try simp only [seval,go_sem]);done) ?_ ?_<;>(try (omega)))
        all_goals (try exact ⟨by omega,fun _=>z1,fun _=>z2,fun _=>hz,by omega,by omega⟩)
       ·rw [e3 z1 z2 hz]
        ((repeat' (first|((with_reducible refine isTriD ?_);((with_reducible refine isCallD ?_);((with_reducible refine LVcall (st:=[]) ?_);simp only [seval,go_sem];(refine CallL.c (hoo) ?_))))|(with_reducible refine isRet ?_;refine RetV (rs:=[.tmp 4]) (by with_unfolding_all rfl) rfl ?_<;>simp only [seval,go_sem]<;>(repeat' (with_reducible apply And.intro))<;>(try rfl))|(with_reducible (refine TVq (st:=[]) ?_))|simp only [seval,go_sem]|(with_reducible refine oV_st (by simp (disch:=omega) only [seval,go_sem,cnd,intV,shV,convV,strV];rfl) ?_)))<;>(try (fail)))
      ·have z1:=i1 (by omega)
       have z2:=i2 (by omega)
       have z3:=i3 (by omega)
       by_cases hz:eG=0
       ·rw [hz] at hgg
        ((repeat' (first|((with_reducible refine isTriD ?_);((with_reducible refine isCallD ?_);((with_reducible refine LVcall (st:=[]) ?_);simp only [seval,go_sem];(refine CallL.c (hgg) ?_))))|(with_reducible (refine TVq (st:=[]) ?_))|simp only [seval,go_sem]|(with_reducible refine oV_st (by simp (disch:=omega) only [seval,go_sem,cnd,intV,shV,convV,strV];rfl) ?_)))<;>(try (fail)))
        all_goals (refine isNextM (4) (by (refine leQL_spec ?_);(try simp only [seval,go_sem]);done) (by (refine leQH_spec ?_);(try simp only [seval,go_sem]);done) ?_ ?_<;>(try (omega)))
        all_goals (try exact ⟨by omega,fun _=>z1,fun _=>z2,fun _=>z3,fun _=>hz,by omega⟩)
       ·rw [e4 z1 z2 z3 hz]
        ((repeat' (first|((with_reducible refine isTriD ?_);((with_reducible refine isCallD ?_);((with_reducible refine LVcall (st:=[]) ?_);simp only [seval,go_sem];(refine CallL.c (hgg) ?_))))|(with_reducible refine isRet ?_;refine RetV (rs:=[.tmp 4]) (by with_unfolding_all rfl) rfl ?_<;>simp only [seval,go_sem]<;>(repeat' (with_reducible apply And.intro))<;>(try rfl))|(with_reducible (refine TVq (st:=[]) ?_))|simp only [seval,go_sem]|(with_reducible refine oV_st (by simp (disch:=omega) only [seval,go_sem,cnd,intV,shV,convV,strV];rfl) ?_)))<;>(try (fail)))
      ·have z1:=i1 (by omega)
       have z2:=i2 (by omega)
       have z3:=i3 (by omega)
       have z4:=i4 (by omega)
       have hd2:=hdd z4
       by_cases hz:eD=0
       ·rw [hz] at hd2
        ((repeat' (first|((with_reducible refine isTriD ?_);((with_reducible refine isCallD ?_);((with_reducible refine LVcall (st:=[]) ?_);simp only [seval,go_sem];(refine CallL.c (hd2) ?_))))|(with_reducible (refine TVq (st:=[]) ?_))|simp only [seval,go_sem]|(with_reducible refine oV_st (by simp (disch:=omega) only [seval,go_sem,cnd,intV,shV,convV,strV];rfl) ?_)))<;>(try (fail)))
        all_goals (refine isNextM (5) (by (refine leQL_spec ?_);(try simp only [seval,go_sem]);done) (by (refine leQH_spec ?_);(try simp only [seval,go_sem]);done) ?_ ?_<;>(try (omega)))
        all_goals (try exact ⟨by omega,fun _=>z1,fun _=>z2,fun _=>z3,fun _=>z4,fun _=>hz⟩)
       ·rw [e5 z1 z2 z3 z4 hz]
        ((repeat' (first|((with_reducible refine isTriD ?_);((with_reducible refine isCallD ?_);((with_reducible refine LVcall (st:=[]) ?_);simp only [seval,go_sem];(refine CallL.c (hd2) ?_))))|(with_reducible refine isRet ?_;refine RetV (rs:=[.tmp 4]) (by with_unfolding_all rfl) rfl ?_<;>simp only [seval,go_sem]<;>(repeat' (with_reducible apply And.intro))<;>(try rfl))|(with_reducible (refine TVq (st:=[]) ?_))|simp only [seval,go_sem]|(with_reducible refine oV_st (by simp (disch:=omega) only [seval,go_sem,cnd,intV,shV,convV,strV];rfl) ?_)))<;>(try (fail)))
      ·have hE:=e6 (i1 (by omega)) (i2 (by omega)) (i3 (by omega)) (i4 (by omega)) (i5 (by omega))
       have hn2:=hnm (i3 (by omega))
       rw [hne (i3 (by omega))] at hn2
       have hk2:=hkp (i3 (by omega))
       rw [hE]
       cases bR with
       | false=>
         simp only [Bool.false_and,Bool.false_eq_true,if_false]
         ((repeat' (first|((with_reducible refine isTriD ?_);((with_reducible refine isCallD ?_);((with_reducible refine LVcall (st:=[]) ?_);simp only [seval,go_sem];(refine CallL.c (hct) ?_))))|(with_reducible refine isRet ?_;refine RetV (rs:=[.tmp 4]) (by with_unfolding_all rfl) rfl ?_<;>simp only [seval,go_sem]<;>(repeat' (with_reducible apply And.intro))<;>(try rfl))|(with_reducible (refine TVq (st:=[]) ?_))|simp only [seval,go_sem]|(with_reducible refine oV_st (by simp (disch:=omega) only [seval,go_sem,cnd,intV,shV,convV,strV];rfl) ?_)))<;>(try (fail)))
       | true=>
         simp only [Bool.true_and]
         cases hbn:(bN&&bC) with
         | false=>
           rw [hbn] at hn2
           simp only [Bool.false_and,Bool.false_eq_true,if_false]
           ((repeat' (first|((with_reducible refine isTriD ?_);((with_reducible refine isCallD ?_);((with_reducible refine LVcall (st:=[]) ?_);simp only [seval,go_sem];first|(refine CallL.c (hct) ?_)|(refine CallL.c (hn2) ?_))))|(with_reducible refine isRet ?_;refine RetV (rs:=[.tmp 4]) (by with_unfolding_all rfl) rfl ?_<;>simp only [seval,go_sem]<;>(repeat' (with_reducible apply And.intro))<;>(try rfl))|(with_reducible (refine TVq (st:=[]) ?_))|simp only [seval,go_sem]|(with_reducible refine oV_st (by simp (disch:=omega) only [seval,go_sem,cnd,intV,shV,convV,strV];rfl) ?_)))<;>(try (fail)))
         | true=>
           rw [hbn] at hn2
           cases bK with
           | false=>
             simp only [Bool.true_and,Bool.false_eq_true,if_false]
             ((repeat' (first|((with_reducible refine isTriD ?_);((with_reducible refine isCallD ?_);((with_reducible refine LVcall (st:=[]) ?_);simp only [seval,go_sem];first|(refine CallL.c (hct) ?_)|(refine CallL.c (hn2) ?_)|(refine CallL.c (hk2) ?_))))|(with_reducible refine isRet ?_;refine RetV (rs:=[.tmp 4]) (by with_unfolding_all rfl) rfl ?_<;>simp only [seval,go_sem]<;>(repeat' (with_reducible apply And.intro))<;>(try rfl))|(with_reducible (refine TVq (st:=[]) ?_))|simp only [seval,go_sem]|(with_reducible refine oV_st (by simp (disch:=omega) only [seval,go_sem,cnd,intV,shV,convV,strV];rfl) ?_)))<;>(try (fail)))
           | true=>
             simp only [Bool.true_and,if_true]
             ((repeat' (first|((with_reducible refine isTriD ?_);((with_reducible refine isCallD ?_);((with_reducible refine LVcall (st:=[]) ?_);simp only [seval,go_sem];first|(refine CallL.c (hct) ?_)|(refine CallL.c (hn2) ?_)|(refine CallL.c (hk2) ?_))))|(with_reducible refine isRet ?_;refine RetV (rs:=[.tmp 4]) (by with_unfolding_all rfl) rfl ?_<;>simp only [seval,go_sem]<;>(repeat' (with_reducible apply And.intro))<;>(try rfl))|(with_reducible (refine TVq (st:=[]) ?_))|simp only [seval,go_sem]|(with_reducible refine oV_st (by simp (disch:=omega) only [seval,go_sem,cnd,intV,shV,convV,strV];rfl) ?_)))<;>(try (fail)))
end Go.Proofs.Ytmgodadmafcliaa
/- A struct as an argument. -/
set_option linter.unusedSimpArgs false
set_option linter.unusedVariables false
namespace Go.Proofs.Ytmgodadmafcliaa
open Go.RowKit Go.Avm Go.ChangeShapes Go.WideShapes Go.ChangeAt
theorem arg_agg {H:Type} {enc:TypeId×Value→H} {P:Program} {w W:World} {base:Nat} {t:TypeId} {n:Nat} {r:List C} {v:Value} {d:DataW H} {ps:List MemPlace} {fs:Array Field} (hc:cTys P n t=some r) (ht:P.underlying t=some (.struct fs)) (hv:Value.okWide P W .any base t v) (h:DataW.Trod enc P w 0 (fun _=>true) true t v d ps):
  ∃ ds,R w (fun g=>g<w.heap.size) (fun _=>none) (.agg ds) v∧Rok r ds:=by
 obtain ⟨fuel,hf⟩:=h
 obtain ⟨ds,h1,h2,_⟩:=open_any n t r hc fuel _ _ hf
 obtain ⟨cs,rfl,_⟩:=Go.WideShapes.okWide_struct ht hv
 exact ⟨ds,by simp only [R];exact ⟨cs,rfl,h1⟩,h2⟩
end Go.Proofs.Ytmgodadmafcliaa
/- AuditRaw: the verdict of the program about any dump is that of the reference. -/
set_option linter.unusedSimpArgs false
set_option linter.unusedVariables false
namespace Go.Proofs.Ytmgodadmafcliaa
open Go.RowKit Go.Avm Go.ChangeShapes Go.WideShapes Go.ChangeAt
def lightD (d:Dm):Bool:=decide (d.objs.length≤6)&&decide (d.pins.length≤20)&&decide (d.binds.length≤20)&&decide (d.pages.length≤20)&&d.objs.all fun o=>decide (o.vers.length≤6)
/-- What any argument is. -/
structure DmWf (d:Dm):Prop where
 com:d.commit≤9223372036854775807
 ol:d.objs.length≤9223372036854775807
 bl:d.binds.length≤9223372036854775807
 pl:d.pins.length≤9223372036854775807
 gl:d.pages.length≤9223372036854775807
 data: ∀ q∈d.pages,q.data.length≤9223372036854775807
 vers: ∀ o∈d.objs,o.vers.length≤9223372036854775807∧ ∀ v∈o.vers,v.size≤9223372036854775807∧v.pages.length≤9223372036854775807
theorem weak2 {f:FuncId} {x r:D} {ds ds':List D} (h:ACalls Try.prog f [x, .agg ds] r []) (hw: ∀ (w:World) (st:Nat→Prop) (ρ:Nat→Option (Option Nat)) (vs:List Value),RL w st ρ ds' vs→RL w st ρ ds vs):ACalls Try.prog f [x, .agg ds'] r []:=by
 obtain ⟨h1,h2⟩:=h
 refine ⟨h1,fun w st ρ vs hst hin hargs=>h2 w st ρ vs hst hin ?_⟩
 simp only [RL] at hargs ⊢
 obtain ⟨a,l,rfl,ha,b,l2,rfl,hb,rfl⟩:=hargs
 simp only [R] at hb
 obtain ⟨cs,rfl,hc⟩:=hb
 exact ⟨a,_,rfl,ha,_,_,rfl,by simp only [R];exact ⟨cs,rfl,hw w st ρ _ hc⟩,rfl⟩
theorem nilR {w:World} {st:Nat→Prop} {ρ:Nat→Option (Option Nat)} {k:Nat} {v:Value} (h:R w st ρ (.sc (.slice none 0 0)) v):R w st ρ (.sl k []) v:=by
 simp only [R] at h ⊢
 exact ⟨none,0,h,Nat.le_refl _,Nat.zero_le _, .inl trivial⟩
theorem dm0_weak (w:World) (st:Nat→Prop) (ρ:Nat→Option (Option Nat)) (vs:List Value) (h:RL w st ρ [.sc (.int .i64 0), .sc (.slice none 0 0), .sc (.slice none 0 0), .sc (.slice none 0 0), .sc (.slice none 0 0)] vs):RL w st ρ (dDm ⟨0,[],[],[],[]⟩) vs:=by
 simp only [dDm,l_4,RL] at h ⊢
 obtain ⟨a,_,rfl,ha,b,_,rfl,hb,c,_,rfl,hc,d,_,rfl,hd,e,_,rfl,he,rfl⟩:=h
 exact ⟨a,_,rfl,ha,b,_,rfl,nilR hb,c,_,rfl,nilR hc,d,_,rfl,nilR hd,e,_,rfl,nilR he,rfl⟩
theorem dm1_weak (w:World) (st:Nat→Prop) (ρ:Nat→Option (Option Nat)) (vs:List Value) (h:RL w st ρ [.sc (.int .i64 0),.sc (.slice none 0 0),.sc (.slice none 0 0),.sc (.slice none 0 0),.sl 3 [[.sc (.int .i64 1),.sc (.int .i64 1),.sc (.slice none 0 0)]]] vs):RL w st ρ (dDm ⟨0,[],[],[],[⟨1,1,[]⟩]⟩) vs:=by
 simp only [dDm,l_4,l_3,rowPg,RL] at h ⊢
 obtain ⟨a,_,rfl,ha,b,_,rfl,hb,c,_,rfl,hc,d,_,rfl,hd,e,_,rfl,he,rfl⟩:=h
 refine ⟨a,_,rfl,ha,b,_,rfl,nilR hb,c,_,rfl,nilR hc,d,_,rfl,nilR hd,e,_,rfl,?_,rfl⟩
 simp only [R] at he ⊢
 obtain ⟨A,cp,e1,e2,e3,e4⟩:=he
 refine ⟨A,cp,e1,e2,e3,?_⟩
 rcases e4 with e4|⟨g,off,q1,q2,q3⟩
 ·cases e4
 ·refine .inr ⟨g,off,q1,q2,?_⟩
  simp only [RR,RC] at q3 ⊢
  obtain ⟨r1,⟨x1,x2,⟨v,x3,x4,x5⟩,_⟩,_⟩:=q3
  exact ⟨rfl,⟨x1,x2,⟨v,x3,x4,nilR x5⟩,trivial⟩,trivial⟩
theorem kc_1:checkE (cfgK 0) ⟨0,[],[],[],[]⟩=0:=by decide +kernel
theorem kc_2:checkE (cfgK 0) ⟨0,[],[],[],[⟨1,1,[]⟩]⟩=20:=by decide +kernel
theorem kc_3:checkE ⟨0,0,0,0,0,0,0⟩ ⟨0,[],[],[],[]⟩=5:=by decide +kernel
theorem kc_0:dCf (cfgK 0)=[.sc (.int .i64 2), .sc (.int .i64 2), .sc (.int .i64 60), .sc (.int .i64 8), .sc (.int .i64 8), .sc (.int .i64 100), .sc (.int .i64 1)]:=by simp [cfgK,dCf]
theorem dmOk0:DmOk ⟨0,[],[],[],[]⟩:=⟨by decide,by simp,by simp,by simp,by simp,by simp,by simp⟩
theorem dmOk1:DmOk ⟨0,[],[],[],[⟨1,1,[]⟩]⟩:=⟨by decide,by simp,by simp,by simp,by simp,by simp,by simp⟩
set_option maxRecDepth 100000 in set_option maxHeartbeats 6400000 in
theorem known21_calls:ACalls Try.prog 15 [] (.sc (.bool true)) []:=by
 have c0:=cfgk_calls (n:=0) (by omega) (by omega)
 have c1:=weak2 (check_calls (c:=cfgK 0) dmOk0) dm0_weak
 have c2:=weak2 (check_calls (c:=cfgK 0) dmOk1) dm1_weak
 have c3:=weak2 (check_calls (c:=⟨0,0,0,0,0,0,0⟩) dmOk0) dm0_weak
 rw [kc_0] at c0 c1 c2
 rw [kc_1] at c1
 rw [kc_2] at c2
 rw [kc_3] at c3
 simp only [dCf] at c3
 refine of_tri [] [1,2,5,10,12,18] Try.func15 rfl call15 rfl (by decide) (by decide) rfl rfl Try.ntmps15 (by simp (disch:=omega) only [seval,go_sem,cnd,intV,shV,convV,strV,List.replicate,l_2,l_1];rfl) (by simp (disch:=omega) only [seval,go_sem,cnd,intV,shV,convV,strV,l_2,l_1];rfl) ?_
 ((repeat' (first|((with_reducible refine isTriD ?_);first|(with_reducible refine TriD.frz 10 (by simp only [seval,go_sem];rfl) (by simp only [seval,go_sem];rfl) ?_;refine LVs (st:=[13,19]) ?_)|((with_reducible refine isCallD ?_);((with_reducible refine LVcall (st:=[13,19]) ?_);simp only [seval,go_sem];first|(refine CallL.c (c0) ?_;simp only [seval,go_sem];(fail_if_success (with_reducible refine isResV ?_)))|(refine CallL.c (c1) ?_;simp only [seval,go_sem];(fail_if_success (with_reducible refine isResV ?_)))|(refine CallL.c (c2) ?_;simp only [seval,go_sem];(fail_if_success (with_reducible refine isResV ?_)))|(refine CallL.c (c3) ?_;simp only [seval,go_sem];(fail_if_success (with_reducible refine isResV ?_)))))|((with_reducible first|refine TriD.step (by simp (disch:=omega) only [seval,go_sem,cnd,intV,shV,convV,strV];rfl) ?_);refine LVs (st:=[13,19]) ?_))|(with_reducible refine isRet ?_;refine RetV (rs:=[.tmp 0]) (by with_unfolding_all rfl) rfl ?_<;>simp only [seval,go_sem]<;>(repeat' (with_reducible apply And.intro))<;>(try rfl))|(with_reducible (refine TVq (st:=[13,19]) ?_))|simp only [seval,go_sem]|(with_reducible refine oV_st (by simp (disch:=omega) only [seval,go_sem,cnd,intV,shV,convV,strV];rfl) ?_)))<;>(try (fail)))
end Go.Proofs.Ytmgodadmafcliaa
