/- The reference's look at what must fit together: its walk. -/
import Derived.Test.YtmgodadmafcliaaZAuF
import Derived.Test.YtmgodadmafcliaaZAuE
set_option linter.unusedSimpArgs false
set_option linter.unusedVariables false
namespace Go.Proofs.Ytmgodadmafcliaa
open Go.RowKit Go.Avm
theorem versR_len: ∀ (l:List Ob) (a:List Vn),(∀ o∈l,o.vers.length≤1000)→(versR l a).length≤a.length+1000*l.length
 | [],a,_=>by simp [versR]
 | o::l,a,h=>by
   have h1:=h o (by simp)
   have h2:=versR_len l (versO o.id o.vers a) (fun o' ho'=>h o' (by simp [ho']))
   rw [versO_len] at h2
   rw [versR,List.length_cons];omega
theorem mem_versR {l:List Ob} {x:Vn} (h:x∈versR l []): ∃ o∈l,x.v∈o.vers∧x.id=o.id:=by
 have:=(by simpa using versR_perm l []:(versR l []).Perm (l.flatMap vnsO)).mem_iff.1 h
 obtain ⟨o,ho,hx⟩:=List.mem_flatMap.1 this
 obtain ⟨v,hv,rfl⟩:=List.mem_map.1 hx
 exact ⟨o,ho,hv,rfl⟩
theorem pgsN_get {l:List Vn} {k:Nat} {x:Vn} (hx:l[k]? = some x):pgsN (l.drop k)=x.v.pages++pgsN (l.drop (k+1)):=by rw [drop_get hx];rfl
theorem curO_last {o:Ob} {v:Ver} (h:o.vers[o.vers.length-1]? = some v):curO o=(v.to==0):=by simp [curO,h]
def bindB1 (os:List Ob) (b:Bd):Bool:= !(b.to==0)||(!decide (objAt b.obj os 0<0)&&((os[(objAt b.obj os 0).toNat]?).map curO).getD false)
def pinB1 (os:List Ob) (b:Bd) (p:Pn):Bool:= !holdsB b.frm b.to p.commit||(findN p.commit (versAt b.obj os) 0).2
theorem conR_cases (com:Int) (os:List Ob) (bs:List Bd) (ps:List Pn) (pg:List Pg):conR ⟨com,os,bs,ps,pg⟩=((pg.all fun p=>cntW p.num (pgsN (versR os [])) 0==p.refs)&&(os.all fun o=> !curO o||openO o.id bs==1)&&bs.all fun b=>bindB1 os b&&ps.all (pinB1 os b)):=rfl
theorem versAt_some {os:List Ob} {n:Int} {j:Nat} {o:Ob} (h:objAt n os 0=(j:Int)) (ho:os[j]? = some o):versAt n os=o.vers:=by
 unfold versAt
 rw [h,if_neg (by omega)]
 simp [ho]
set_option maxRecDepth 100000 in set_option maxHeartbeats 25600000 in
theorem rcons_calls {com:Int} {os:List Ob} {bs:List Bd} {ps:List Pn} {pg:List Pg} (hol:os.length≤1000) (hbl:bs.length≤1000) (hpl:ps.length≤1000) (hgl:pg.length≤1000) (hv: ∀ o∈os,o.vers.length≤1000∧o.vers.length≠0∧ ∀ v∈o.vers,v.pages.length≤9223372036854775807):ACalls Try.prog 51 [.agg [.sc (.int .i64 com),.sl 2 (os.map rowOb),.sl 4 (bs.map rowBd),.sl 2 (ps.map rowP),.sl 3 (pg.map rowPg)]] (.sc (.bool (conR ⟨com,os,bs,ps,pg⟩))) []:=by
 rw [conR_cases]
 have hVl:=versR_len os [] (fun o ho=>(hv o ho).1)
 have hvc:=versr_calls (com:=com) (l:=os) (bd:=bs.map rowBd) (pn:=ps.map rowP) (pg:=pg.map rowPg) hol (fun o ho=>(hv o ho).1)
 have hVm: ∀ x∈versR os [],x.v.pages.length≤9223372036854775807:=fun x hx=>by
  obtain ⟨o,ho,h1,_⟩:=mem_versR hx
  exact (hv o ho).2.2 _ h1
 generalize versR os []=VS at hVl hvc hVm ⊢
 simp only [List.length_nil,Nat.zero_add] at hVl
 generalize hRA:(pg.all fun p=>cntW p.num (pgsN VS) 0==p.refs)=RA
 generalize hRB:(os.all fun o=> !curO o||openO o.id bs==1)=RB
 generalize hRC:(bs.all fun b=>bindB1 os b&&ps.all (pinB1 os b))=RC
 refine of_tri [] [1,11,24,97,116,161,178] Try.func51 rfl call51 rfl (by decide) (by decide) rfl rfl Try.ntmps51 (by simp (disch:=omega) only [seval,go_sem,cnd,intV,shV,convV,strV,List.replicate,l_2,l_1];rfl) (by simp (disch:=omega) only [seval,go_sem,cnd,intV,shV,convV,strV,l_2,l_1];rfl) ?_
 ((repeat' (first|(with_reducible (refine TVq (st:=[]) ?_))|simp only [seval,go_sem]))<;>(try (fail)))
 all_goals (refine Tri.bx 1 (by simp only [seval,go_sem];rfl) (by simp only [seval,go_sem];first|done|rfl) (by simp only [seval,go_sem];rfl) ?_)
 all_goals (with_reducible refine Tri.loopU (fun (k:Nat)=>[(3,.sc (.int .i64 k)),(2,.any),(4,.any),(5,.any),(6,.any),(7,.any),(16,.any),(17,.any),(18,.any),(19,.any),(20,.any),(21,.any),(22,.any),(23,.any),(24,.any),(25,.any),(26,.any),(27,.any),(28,.any),(29,.any),(30,.any),(31,.any),(32,.any),(33,.any),(34,.any),(35,.any),(36,.any),(37,.any),(38,.any),(39,.any),(40,.any),(41,.any),(42,.any),(43,.any),(44,.any),(45,.any),(46,.any),(47,.any),(48,.any),(49,.any),(50,.any),(51,.any),(52,.any),(53,.any),(54,.any),(55,.any),(56,.any),(57,.any),(58,.any),(59,.any),(60,.any),(61,.any),(62,.any),(63,.any),(64,.any),(65,.any),(66,.any),(67,.any)]) (fun (k:Nat)=>[(24,.dead)]) (fun (k:Nat)=>k≤pg.length∧((pg.drop k).all fun p=>cntW p.num (pgsN VS) 0==p.refs)=RA) (fun (k:Nat)=>pg.length-k) (0) (⟨Nat.zero_le _,by simpa only [List.drop_zero] using hRA⟩) (by intro _;simp (disch:=omega) only [seval,go_sem,cnd,intV,shV,convV,strV];rfl) (by intro _;simp (disch:=omega) only [seval,go_sem,cnd,intV,shV,convV,strV];rfl) (by (refine leQL_spec ?_);(try simp only [seval,go_sem]);done) (by (refine leQH_spec ?_);(try simp only [seval,go_sem]);done) (fun k hI=>?_))
 all_goals obtain ⟨hk,hf⟩:=hI
 by_cases hlt:k<pg.length
 ·obtain ⟨q,hq⟩:=get_lt hlt
  have hq':=get_map rowPg hq
  obtain ⟨g1,g2⟩:=all_step hq (hf.trans hRA.symm)
  rw [hRA] at g1 g2
  generalize hC:cntW q.num (pgsN VS) 0=C at g1 g2
  ((repeat' (first|((with_reducible refine isTriD ?_);((with_reducible refine isCallD ?_);((with_reducible refine LVcall (st:=[]) ?_);simp only [seval,go_sem];(refine CallL.c (hvc) ?_))))|(with_reducible (refine TVq (st:=[]) ?_))|simp only [seval,go_sem]|(with_reducible refine oV_st (by simp (disch:=omega) only [seval,go_sem,cnd,intV,shV,convV,strV];rfl) ?_)))<;>(try (fail)))
  all_goals (with_reducible refine Tri.loopU (fun (t:Nat×Int)=>[(6,.sc (.int .i64 t.1)),(4,.sc (.int .i64 t.2)),(7,.any),(25,.any),(26,.any),(27,.any),(28,.any),(29,.any),(30,.any),(31,.any),(32,.any),(33,.any),(34,.any),(35,.any),(36,.any),(37,.any),(38,.any),(39,.any),(40,.any),(41,.any),(42,.any),(43,.any),(44,.any),(45,.any),(46,.any),(47,.any),(48,.any),(49,.any),(50,.any),(51,.any),(52,.any),(53,.any),(54,.any),(55,.any),(56,.any),(57,.any),(58,.any),(59,.any)]) (fun (t:Nat×Int)=>[]) (fun (t:Nat×Int)=>t.1≤VS.length∧cntW q.num (pgsN (VS.drop t.1)) t.2=C) (fun (t:Nat×Int)=>VS.length-t.1) ((0,0)) (⟨Nat.zero_le _,by simpa using hC⟩) (by intro _;simp (disch:=omega) only [seval,go_sem,cnd,intV,shV,convV,strV];rfl) (by intro _;simp (disch:=omega) only [seval,go_sem,cnd,intV,shV,convV,strV];rfl) (by (refine leQL_spec ?_);(try simp only [seval,go_sem]);done) (by (refine leQH_spec ?_);(try simp only [seval,go_sem]);done) (fun t hI=>?_))
  all_goals
   obtain ⟨i,n⟩:=t
   obtain ⟨hi,hf2⟩:=hI
   simp only at hi hf2
   by_cases hlt2:i<VS.length
   ·obtain ⟨x,hx⟩:=get_lt hlt2
    have hx':=get_map rowVn hx
    have hxl:=hVm x (List.mem_of_getElem? hx)
    rw [pgsN_get hx,cntW_app] at hf2
    generalize hC2:cntW q.num x.v.pages n=C2 at hf2
    ((repeat' (first|(with_reducible (refine TVq (st:=[]) ?_))|simp only [seval,go_sem]|(with_reducible refine oV_st (by simp (disch:=omega) only [seval,go_sem,cnd,intV,shV,convV,strV];rfl) ?_)))<;>(try (fail)))
    all_goals (with_reducible refine Tri.loopU (fun (t:Nat×Int)=>[(7,.sc (.int .i64 t.1)),(4,.sc (.int .i64 t.2)),(31,.any),(32,.any),(33,.any),(34,.any),(35,.any),(36,.any),(37,.any),(38,.any),(39,.any),(40,.any),(41,.any),(42,.any),(43,.any),(44,.any),(45,.any),(46,.any),(47,.any),(48,.any),(49,.any),(50,.any),(51,.any),(52,.any),(53,.any),(54,.any),(55,.any),(56,.any),(57,.any),(58,.any),(59,.any)]) (fun (t:Nat×Int)=>[]) (fun (t:Nat×Int)=>t.1≤x.v.pages.length∧cntW q.num (x.v.pages.drop t.1) t.2=C2) (fun (t:Nat×Int)=>x.v.pages.length-t.1) ((0,n)) (⟨Nat.zero_le _,by simpa using hC2⟩) (by intro _;simp (disch:=omega) only [seval,go_sem,cnd,intV,shV,convV,strV];rfl) (by intro _;simp (disch:=omega) only [seval,go_sem,cnd,intV,shV,convV,strV];rfl) (by (refine leQL_spec ?_);(try simp only [seval,go_sem]);done) (by (refine leQH_spec ?_);(try simp only [seval,go_sem]);done) (fun t hI=>?_))
    all_goals
     obtain ⟨j,m⟩:=t
     obtain ⟨hj,hf3⟩:=hI
     simp only at hj hf3
     by_cases hlt3:j<x.v.pages.length
     ·obtain ⟨z,hz⟩:=get_lt hlt3
      have hz':=get_map rowI hz
      rw [drop_get hz,cntW] at hf3
      by_cases hc:z=q.num
      ·rw [if_pos hc] at hf3
       (all_goals (try have hZ:=(And.intro hx' (And.intro hz' hq')));(repeat' (first|(with_reducible refine ListD.nil ?_)|((with_reducible refine isListD ?_);(with_reducible first|refine ListD.step (by simp only [seval,go_sem,rowVn,rowI,rowPg,wr_def,hZ];rfl) ?_|refine ListD.step (by simp (disch:=omega) only [seval,go_sem,cnd,intV,shV,convV,strV,rowVn,rowI,rowPg,wr_def,hZ];rfl) ?_))|(with_reducible refine isDrawn ?_;refine Tri.drawnD mix (by kernel_rfl) (by simp only [l_3,l_4];rfl) ?_)|(with_reducible (refine TVq (st:=[]) ?_))|simp only [seval,go_sem,rowVn,rowI,rowPg,wr_def,hZ]|(with_reducible refine oV_st (by simp (disch:=omega) only [seval,go_sem,cnd,intV,shV,convV,strV,rowVn,rowI,rowPg,wr_def,hZ];rfl) ?_)))<;>(try (fail));all_goals (try clear hZ))
       all_goals (try (refine isNextM ((j+1,wr (m+1))) (by (refine leQL_spec ?_);(try simp only [seval,go_sem]);first|((repeat' (with_reducible apply And.intro))<;>first|rfl);done) (by (refine leQH_spec ?_);(try simp only [seval,go_sem]);done) ?_ ?_<;>(try (first|omega|(simp;omega)))))
       all_goals (try exact ⟨by simp only;omega,hf3⟩)
      ·rw [if_neg hc] at hf3
       (all_goals (try have hZ:=(And.intro hx' (And.intro hz' hq')));(repeat' (first|(with_reducible refine ListD.nil ?_)|((with_reducible refine isListD ?_);(with_reducible first|refine ListD.step (by simp only [seval,go_sem,rowVn,rowI,rowPg,hZ];rfl) ?_|refine ListD.step (by simp (disch:=omega) only [seval,go_sem,cnd,intV,shV,convV,strV,rowVn,rowI,rowPg,hZ];rfl) ?_))|(with_reducible refine isDrawn ?_;refine Tri.drawnD mix (by kernel_rfl) (by simp only [l_3,l_4];rfl) ?_)|(with_reducible (refine TVq (st:=[]) ?_))|simp only [seval,go_sem,rowVn,rowI,rowPg,hZ]|(with_reducible refine oV_st (by simp (disch:=omega) only [seval,go_sem,cnd,intV,shV,convV,strV,rowVn,rowI,rowPg,hZ];rfl) ?_)))<;>(try (fail));all_goals (try clear hZ))
       all_goals (try (refine isNextM ((j+1,m)) (by (refine leQL_spec ?_);(try simp only [seval,go_sem]);first|((repeat' (with_reducible apply And.intro))<;>first|rfl);done) (by (refine leQH_spec ?_);(try simp only [seval,go_sem]);done) ?_ ?_<;>(try (first|omega|(simp;omega)))))
       all_goals (try exact ⟨by simp only;omega,hf3⟩)
     ·rw [List.drop_eq_nil_of_le (by omega),cntW] at hf3
      subst hf3
      ((repeat' (first|(with_reducible (refine TVq (st:=[]) ?_))|simp only [seval,go_sem,hx',rowVn]|(with_reducible refine oV_st (by simp (disch:=omega) only [seval,go_sem,cnd,intV,shV,convV,strV,hx',rowVn];rfl) ?_)))<;>(try (fail)))
      all_goals (try (refine isNextM ((i+1,m)) (by (refine leQL_spec ?_);(try simp only [seval,go_sem]);first|((repeat' (with_reducible apply And.intro))<;>first|rfl);done) (by (refine leQH_spec ?_);(try simp only [seval,go_sem]);done) ?_ ?_<;>(try (first|omega|(simp;omega)))))
      all_goals (try exact ⟨by simp only;omega,hf2⟩)
   ·rw [List.drop_eq_nil_of_le (by omega)] at hf2
    have h3:n=C:=hf2
    subst h3
    by_cases hc:n=q.refs
    ·have h4:=g2 (by simp [hc])
     ((repeat' (first|(with_reducible (refine TVq (st:=[]) ?_))|simp only [seval,go_sem,hq',rowPg]|(with_reducible refine oV_st (by simp (disch:=omega) only [seval,go_sem,cnd,intV,shV,convV,strV,hq',rowPg];rfl) ?_)))<;>(try (fail)))
     all_goals (try (refine isNextM (k+1) (by (refine leQL_spec ?_);(try simp only [seval,go_sem]);first|((repeat' (with_reducible apply And.intro))<;>first|rfl);done) (by (refine leQH_spec ?_);(try simp only [seval,go_sem]);done) ?_ ?_<;>(try (omega))))
     all_goals (try exact ⟨by omega,h4⟩)
    ·rw [g1 (by simp [hc]),Bool.false_and,Bool.false_and]
     ((repeat' (first|(with_reducible refine isRet ?_;refine RetV (rs:=[.tmp 2]) (by with_unfolding_all rfl) rfl ?_<;>simp only [seval,go_sem]<;>(repeat' (with_reducible apply And.intro))<;>(try rfl))|(with_reducible (refine TVq (st:=[]) ?_))|simp only [seval,go_sem,hq',rowPg]|(with_reducible refine oV_st (by simp (disch:=omega) only [seval,go_sem,cnd,intV,shV,convV,strV,hq',rowPg];rfl) ?_)))<;>(try (fail)))
 ·rw [List.drop_eq_nil_of_le (by omega)] at hf
  have hT:RA=true:=hf.symm
  rw [hT,Bool.true_and]
  ((repeat' (first|(with_reducible (refine TVq (st:=[]) ?_))|simp only [seval,go_sem]|(with_reducible refine oV_st (by simp (disch:=omega) only [seval,go_sem,cnd,intV,shV,convV,strV];rfl) ?_)))<;>(try (fail)))
  all_goals (with_reducible refine Tri.loopU (fun (i:Nat)=>[(8,.sc (.int .i64 i)),(2,.any),(9,.any),(68,.any),(69,.any),(70,.any),(71,.any),(72,.any),(73,.any),(74,.any),(75,.any),(76,.any),(77,.any),(78,.any),(79,.any),(80,.any),(81,.any),(82,.any),(83,.any),(84,.any),(85,.any),(86,.any),(87,.any),(88,.any),(89,.any),(90,.any),(91,.any),(92,.any),(93,.any),(94,.any),(95,.any),(96,.any),(97,.any),(98,.any),(99,.any)]) (fun (i:Nat)=>[(97,.dead)]) (fun (i:Nat)=>i≤os.length∧((os.drop i).all fun o=> !curO o||openO o.id bs==1)=RB) (fun (i:Nat)=>os.length-i) (0) (⟨Nat.zero_le _,by simpa only [List.drop_zero] using hRB⟩) (by intro _;simp (disch:=omega) only [seval,go_sem,cnd,intV,shV,convV,strV];rfl) (by intro _;simp (disch:=omega) only [seval,go_sem,cnd,intV,shV,convV,strV];rfl) (by (refine leQL_spec ?_);(try simp only [seval,go_sem]);done) (by (refine leQH_spec ?_);(try simp only [seval,go_sem]);done) (fun i hI=>?_))
  all_goals
   obtain ⟨hi,hf2⟩:=hI
   by_cases hlt2:i<os.length
   ·obtain ⟨o,ho⟩:=get_lt hlt2
    have ho':=get_map rowOb ho
    obtain ⟨hvl,hv0,hvs⟩:=hv o (List.mem_of_getElem? ho)
    obtain ⟨lv,hlv⟩:=get_lt (show o.vers.length-1<o.vers.length by omega)
    have hlv':=get_map rowV hlv
    obtain ⟨g1,g2⟩:=all_step ho (hf2.trans hRB.symm)
    rw [hRB] at g1 g2
    rw [curO_last hlv] at g1 g2
    have hnc:=rnamed_calls (com:=com) (n:=o.id) (l:=bs) (ob:=os.map rowOb) (pn:=ps.map rowP) (pg:=pg.map rowPg) (by omega)
    by_cases hc:lv.to=0
    ·by_cases hc2:openO o.id bs=1
     ·have h4:=g2 (by simp [hc2])
      rw [hc2] at hnc
      (all_goals (try have hZ:=(And.intro ho' (And.intro hlv' hc)));(repeat' (first|(with_reducible refine ListD.nil ?_)|((with_reducible refine isListD ?_);first|(with_reducible refine ListD.step (by simp only [seval,go_sem,rowOb,rowV,hZ];rfl) ?_)|((with_reducible refine isCallV ?_);((with_reducible (refine ListD.dE (by simp only [seval,go_sem,rowOb,rowV,hZ];rfl) (by simp only [seval,go_sem,rowOb,rowV,hZ];rfl) ?_));refine CallW.c (hnc) (by simp only [seval,go_sem,rowOb,rowV,hZ];rfl) ?_))|(with_reducible refine ListD.step (by simp (disch:=omega) only [seval,go_sem,cnd,intV,shV,convV,strV,rowOb,rowV,hZ];rfl) ?_))|(with_reducible refine isDrawn ?_;refine Tri.drawnD mix (by kernel_rfl) (by simp only [l_3,l_4];rfl) ?_)|(with_reducible (refine TVq (st:=[]) ?_))|simp only [seval,go_sem,rowOb,rowV,hZ]|(with_reducible refine oV_st (by simp (disch:=omega) only [seval,go_sem,cnd,intV,shV,convV,strV,rowOb,rowV,hZ];rfl) ?_)))<;>(try (fail));all_goals (try clear hZ))
      all_goals (try (refine isNextM (i+1) (by (refine leQL_spec ?_);(try simp only [seval,go_sem]);first|((repeat' (with_reducible apply And.intro))<;>first|rfl);done) (by (refine leQH_spec ?_);(try simp only [seval,go_sem]);done) ?_ ?_<;>(try (omega))))
      all_goals (try exact ⟨by omega,h4⟩)
     ·rw [g1 (by simp [hc,hc2]),Bool.false_and]
      (all_goals (try have hZ:=(And.intro ho' (And.intro hlv' hc)));(repeat' (first|(with_reducible refine ListD.nil ?_)|((with_reducible refine isListD ?_);first|(with_reducible refine ListD.step (by simp only [seval,go_sem,rowOb,rowV,hZ];rfl) ?_)|((with_reducible refine isCallV ?_);((with_reducible (refine ListD.dE (by simp only [seval,go_sem,rowOb,rowV,hZ];rfl) (by simp only [seval,go_sem,rowOb,rowV,hZ];rfl) ?_));refine CallW.c (hnc) (by simp only [seval,go_sem,rowOb,rowV,hZ];rfl) ?_))|(with_reducible refine ListD.step (by simp (disch:=omega) only [seval,go_sem,cnd,intV,shV,convV,strV,rowOb,rowV,hZ];rfl) ?_))|(with_reducible refine isDrawn ?_;refine Tri.drawnD mix (by kernel_rfl) (by simp only [l_3,l_4];rfl) ?_)|(with_reducible refine isRet ?_;refine RetV (rs:=[.tmp 2]) (by with_unfolding_all rfl) rfl ?_<;>simp only [seval,go_sem]<;>(repeat' (with_reducible apply And.intro))<;>(try rfl))|(with_reducible (refine TVq (st:=[]) ?_))|simp only [seval,go_sem,rowOb,rowV,hZ]|(with_reducible refine oV_st (by simp (disch:=omega) only [seval,go_sem,cnd,intV,shV,convV,strV,rowOb,rowV,hZ];rfl) ?_)))<;>(try (fail));all_goals (try clear hZ))
    ·have h4:=g2 (by simp [hc])
     (all_goals (try have hZ:=(And.intro ho' hlv'));(repeat' (first|(with_reducible refine ListD.nil ?_)|((with_reducible refine isListD ?_);(with_reducible first|refine ListD.step (by simp only [seval,go_sem,rowOb,rowV,hZ];rfl) ?_|refine ListD.step (by simp (disch:=omega) only [seval,go_sem,cnd,intV,shV,convV,strV,rowOb,rowV,hZ];rfl) ?_))|(with_reducible refine isDrawn ?_;refine Tri.drawnD mix (by kernel_rfl) (by simp only [l_3,l_4];rfl) ?_)|(with_reducible (refine TVq (st:=[]) ?_))|simp only [seval,go_sem,rowOb,rowV,hZ]|(with_reducible refine oV_st (by simp (disch:=omega) only [seval,go_sem,cnd,intV,shV,convV,strV,rowOb,rowV,hZ];rfl) ?_)))<;>(try (fail));all_goals (try clear hZ))
     all_goals (try (refine isNextM (i+1) (by (refine leQL_spec ?_);(try simp only [seval,go_sem]);first|((repeat' (with_reducible apply And.intro))<;>first|rfl);done) (by (refine leQH_spec ?_);(try simp only [seval,go_sem]);done) ?_ ?_<;>(try (omega))))
     all_goals (try exact ⟨by omega,h4⟩)
   ·rw [List.drop_eq_nil_of_le (by omega)] at hf2
    have hT2:RB=true:=hf2.symm
    rw [hT2,Bool.true_and]
    ((repeat' (first|(with_reducible (refine TVq (st:=[]) ?_))|simp only [seval,go_sem]|(with_reducible refine oV_st (by simp (disch:=omega) only [seval,go_sem,cnd,intV,shV,convV,strV];rfl) ?_)))<;>(try (fail)))
    all_goals (with_reducible refine Tri.loopU (fun (k2:Nat)=>[(10,.sc (.int .i64 k2)),(2,.any),(11,.any),(12,.any),(13,.any),(14,.any),(15,.any),(100,.any),(101,.any),(102,.any),(103,.any),(104,.any),(105,.any),(106,.any),(107,.any),(108,.any),(109,.any),(110,.any),(111,.any),(112,.any),(113,.any),(114,.any),(115,.any),(116,.any),(117,.any),(118,.any),(119,.any),(120,.any),(121,.any),(122,.any),(123,.any),(124,.any),(125,.any),(126,.any),(127,.any),(128,.any),(129,.any),(130,.any),(131,.any),(132,.any),(133,.any),(134,.any),(135,.any),(136,.any),(137,.any),(138,.any),(139,.any),(140,.any),(141,.any),(142,.any),(143,.any),(144,.any),(145,.any),(146,.any),(147,.any),(148,.any),(149,.any),(150,.any),(151,.any),(152,.any),(153,.any),(154,.any),(155,.any),(156,.any),(157,.any),(158,.any),(159,.any),(160,.any),(161,.any),(162,.any),(163,.any),(164,.any),(165,.any),(166,.any),(167,.any),(168,.any),(169,.any),(170,.any),(171,.any),(172,.any),(173,.any),(174,.any),(175,.any),(176,.any),(177,.any),(178,.any),(179,.any),(180,.any),(181,.any),(182,.any)]) (fun (k2:Nat)=>[(11,.dead),(116,.dead),(161,.dead),(178,.dead)]) (fun (k2:Nat)=>k2≤bs.length∧((bs.drop k2).all fun b=>bindB1 os b&&ps.all (pinB1 os b))=RC) (fun (k2:Nat)=>bs.length-k2) (0) (⟨Nat.zero_le _,by simpa only [List.drop_zero] using hRC⟩) (by intro _;simp (disch:=omega) only [seval,go_sem,cnd,intV,shV,convV,strV];rfl) (by intro _;simp (disch:=omega) only [seval,go_sem,cnd,intV,shV,convV,strV];rfl) (by (refine leQL_spec ?_);(try simp only [seval,go_sem]);done) (by (refine leQH_spec ?_);(try simp only [seval,go_sem]);done) (fun k2 hI=>?_))
    all_goals
     obtain ⟨hk2,hf3⟩:=hI
     by_cases hlt3:k2<bs.length
     ·obtain ⟨b,hb⟩:=get_lt hlt3
      have hb':=get_map rowBd hb
      obtain ⟨g1,g2⟩:=all_step hb (hf3.trans hRC.symm)
      rw [hRC] at g1 g2
      have hoc:=object_calls (l:=os) (n:=b.obj) (by omega)
      have hgo: ∀ {R:Prop},(bindB1 os b=false→b.to=0→objAt b.obj os 0 = -1→R)→(∀ (j:Nat) o lv,bindB1 os b=false→b.to=0→objAt b.obj os 0=(j:Int)→os[j]? = some o→j<os.length→o.vers[o.vers.length-1]? = some lv→o.vers.length≤1000→o.vers.length≠0→lv.to≠0→R)→
        (∀ (j:Nat) o lv,bindB1 os b=true→b.to=0→objAt b.obj os 0=(j:Int)→os[j]? = some o→j<os.length→o.vers[o.vers.length-1]? = some lv→o.vers.length≤1000→o.vers.length≠0→lv.to=0→R)→(bindB1 os b=true→b.to≠0→objAt b.obj os 0 = -1→R)→(∀ (j:Nat) o,bindB1 os b=true→b.to≠0→objAt b.obj os 0=(j:Int)→os[j]? = some o→j<os.length→R)→R:=by
       intro R r1 r2 r3 r4 r5
       by_cases hc:b.to=0
       ·rcases objAt_cases b.obj os 0 with ⟨q1,_⟩|⟨j,o,q1,q2,q3,_⟩
        ·exact r1 (by simp [bindB1,hc,q1]) hc q1
        ·rw [Nat.zero_add] at q3
         obtain ⟨hvl,hv0,hvs⟩:=hv o (List.mem_of_getElem? q1)
         obtain ⟨lv,hlv⟩:=get_lt (show o.vers.length-1<o.vers.length by omega)
         have hjl:=(List.getElem?_eq_some_iff.1 q1).1
         have hbb:bindB1 os b=(lv.to==0):=by
          unfold bindB1
          rw [q3,hc,Int.toNat_natCast,q1,Option.map_some,Option.getD_some,curO_last hlv,decide_eq_false (by omega)];rfl
         by_cases hc2:lv.to=0
         ·exact r3 j o lv (by rw [hbb];simp [hc2]) hc q3 q1 hjl hlv hvl hv0 hc2
         ·exact r2 j o lv (by rw [hbb];simp [hc2]) hc q3 q1 hjl hlv hvl hv0 hc2
       ·rcases objAt_cases b.obj os 0 with ⟨q1,_⟩|⟨j,o,q1,q2,q3,_⟩
        ·exact r4 (by simp [bindB1,hc]) hc q1
        ·rw [Nat.zero_add] at q3
         exact r5 j o (by simp [bindB1,hc]) hc q3 q1 (List.getElem?_eq_some_iff.1 q1).1
      have ho0: ∀ {o:Ob} {j:Nat},os[j]? = some o→(os.map rowOb)[j]? = some (rowOb o):=fun h=>get_map rowOb h
      refine hgo (fun e1 c1 c2=>?_) (fun j o lv e1 c1 c2 ho hjl hlv hvl hv0 c3=>?_) (fun j o lv e1 c1 c2 ho hjl hlv hvl hv0 c3=>?_) (fun e1 c1 c2=>?_) (fun j o e1 c1 c2 ho hjl=>?_)
      all_goals rw [c2] at hoc
      ·rw [g1 (by rw [e1];rfl)]
       ((repeat' (first|((with_reducible refine isTriD ?_);((with_reducible refine isCallD ?_);((with_reducible refine LVcall (st:=[]) ?_);simp only [seval,go_sem,hb',rowBd,c1];(refine CallL.c (hoc) ?_))))|(with_reducible refine ListD.nil ?_)|((with_reducible refine isListD ?_);(with_reducible first|refine ListD.step (by simp only [seval,go_sem,hb',rowBd,c1];rfl) ?_|refine ListD.step (by simp (disch:=omega) only [seval,go_sem,cnd,intV,shV,convV,strV,hb',rowBd,c1];rfl) ?_))|(with_reducible refine isDrawn ?_;refine Tri.drawnD mix (by kernel_rfl) (by simp only [l_3,l_4];rfl) ?_)|(with_reducible refine isRet ?_;refine RetV (rs:=[.tmp 2]) (by with_unfolding_all rfl) rfl ?_<;>simp only [seval,go_sem]<;>(repeat' (with_reducible apply And.intro))<;>(try rfl))|(with_reducible (refine TVq (st:=[]) ?_))|simp only [seval,go_sem,hb',rowBd,c1]|(with_reducible refine oV_st (by simp (disch:=omega) only [seval,go_sem,cnd,intV,shV,convV,strV,hb',rowBd,c1];rfl) ?_)))<;>(try (fail)))
      ·rw [g1 (by rw [e1];rfl)]
       have ho':=ho0 ho
       have hlv':=get_map rowV hlv
       (all_goals (try have hZ:=(And.intro hb' (And.intro ho' hlv')));(repeat' (first|((with_reducible refine isTriD ?_);((with_reducible refine isCallD ?_);((with_reducible refine LVcall (st:=[]) ?_);simp only [seval,go_sem,rowBd,c1,rowOb,rowV,hZ];(refine CallL.c (hoc) ?_))))|(with_reducible refine ListD.nil ?_)|((with_reducible refine isListD ?_);(with_reducible first|refine ListD.step (by simp only [seval,go_sem,rowBd,c1,rowOb,rowV,hZ];rfl) ?_|refine ListD.step (by simp (disch:=omega) only [seval,go_sem,cnd,intV,shV,convV,strV,rowBd,c1,rowOb,rowV,hZ];rfl) ?_))|(with_reducible refine isDrawn ?_;refine Tri.drawnD mix (by kernel_rfl) (by simp only [l_3,l_4];rfl) ?_)|(with_reducible refine isRet ?_;refine RetV (rs:=[.tmp 2]) (by with_unfolding_all rfl) rfl ?_<;>simp only [seval,go_sem]<;>(repeat' (with_reducible apply And.intro))<;>(try rfl))|(with_reducible (refine TVq (st:=[]) ?_))|simp only [seval,go_sem,rowBd,c1,rowOb,rowV,hZ]|(with_reducible refine oV_st (by simp (disch:=omega) only [seval,go_sem,cnd,intV,shV,convV,strV,rowBd,c1,rowOb,rowV,hZ];rfl) ?_)))<;>(try (fail));all_goals (try clear hZ))
      all_goals
       rw [e1,Bool.true_and] at g1 g2
       generalize hRP:ps.all (pinB1 os b)=RP at g1 g2
      rotate_left
      ·((repeat' (first|((with_reducible refine isTriD ?_);((with_reducible refine isCallD ?_);((with_reducible refine LVcall (st:=[]) ?_);simp only [seval,go_sem,hb',rowBd];(refine CallL.c (hoc) ?_))))|(with_reducible refine ListD.nil ?_)|((with_reducible refine isListD ?_);(with_reducible first|refine ListD.step (by simp only [seval,go_sem,hb',rowBd];rfl) ?_|refine ListD.step (by simp (disch:=omega) only [seval,go_sem,cnd,intV,shV,convV,strV,hb',rowBd];rfl) ?_))|(with_reducible refine isDrawn ?_;refine Tri.drawnD mix (by kernel_rfl) (by simp only [l_3,l_4];rfl) ?_)|(with_reducible (refine TVq (st:=[]) ?_))|simp only [seval,go_sem,hb',rowBd]|(with_reducible refine oV_st (by simp (disch:=omega) only [seval,go_sem,cnd,intV,shV,convV,strV,hb',rowBd];rfl) ?_)))<;>(try (fail)))
       all_goals (try (refine Tri.bx 11 (by simp only [seval,go_sem];rfl) (by simp only [seval,go_sem];first|done|rfl) (by simp only [seval,go_sem];rfl) ?_))
       all_goals (with_reducible refine Tri.loopU (fun (i3:Nat)=>[(13,.sc (.int .i64 i3)),(2,.any),(14,.any),(15,.any),(144,.any),(145,.any),(146,.any),(147,.any),(148,.any),(149,.any),(150,.any),(151,.any),(152,.any),(153,.any),(154,.any),(155,.any),(156,.any),(157,.any),(158,.any),(159,.any),(160,.any),(161,.any),(162,.any),(163,.any),(164,.any),(165,.any),(166,.any),(167,.any),(168,.any),(169,.any),(170,.any),(171,.any),(172,.any),(173,.any),(174,.any),(175,.any),(176,.any),(177,.any),(178,.any),(179,.any),(180,.any),(181,.any),(182,.any)]) (fun (i3:Nat)=>[(161,.dead),(178,.dead)]) (fun (i3:Nat)=>i3≤ps.length∧(ps.drop i3).all (pinB1 os b)=RP) (fun (i3:Nat)=>ps.length-i3) (0) (⟨Nat.zero_le _,by simpa only [List.drop_zero] using hRP⟩) (by intro _;simp (disch:=omega) only [seval,go_sem,cnd,intV,shV,convV,strV];rfl) (by intro _;simp (disch:=omega) only [seval,go_sem,cnd,intV,shV,convV,strV];rfl) (by (refine leQL_spec ?_);(try simp only [seval,go_sem]);done) (by (refine leQH_spec ?_);(try simp only [seval,go_sem]);done) (fun i3 hI=>?_))
       all_goals
        obtain ⟨hi3,hf4⟩:=hI
        by_cases hlt4:i3<ps.length
        ·obtain ⟨p,hp⟩:=get_lt hlt4
         have hp':=get_map rowP hp
         obtain ⟨h1,h2⟩:=all_step hp (hf4.trans hRP.symm)
         rw [hRP] at h1 h2
         have hhc:=rholds_calls (f:=b.frm) (t:=b.to) (c:=p.commit)
         cases hh:holdsB b.frm b.to p.commit with
         | false=>
           have h3:=h2 (by simp [pinB1,hh])
           rw [hh] at hhc
           (all_goals (try have hZ:=(And.intro hb' hp'));(repeat' (first|(with_reducible refine ListD.nil ?_)|((with_reducible refine isListD ?_);first|(with_reducible refine ListD.step (by simp only [seval,go_sem,rowBd,rowP,hZ];rfl) ?_)|((with_reducible refine isCallV ?_);((with_reducible (refine ListD.dE (by simp only [seval,go_sem,rowBd,rowP,hZ];rfl) (by simp only [seval,go_sem,rowBd,rowP,hZ];rfl) ?_));refine CallW.c (hhc) (by simp only [seval,go_sem,rowBd,rowP,hZ];rfl) ?_))|(with_reducible refine ListD.step (by simp (disch:=omega) only [seval,go_sem,cnd,intV,shV,convV,strV,rowBd,rowP,hZ];rfl) ?_))|(with_reducible refine isDrawn ?_;refine Tri.drawnD mix (by kernel_rfl) (by simp only [l_3,l_4];rfl) ?_)|(with_reducible (refine TVq (st:=[]) ?_))|simp only [seval,go_sem,rowBd,rowP,hZ]|(with_reducible refine oV_st (by simp (disch:=omega) only [seval,go_sem,cnd,intV,shV,convV,strV,rowBd,rowP,hZ];rfl) ?_)))<;>(try (fail));all_goals (try clear hZ))
           all_goals (try (refine isNextM (i3+1) (by (refine leQL_spec ?_);(try simp only [seval,go_sem]);first|((repeat' (with_reducible apply And.intro))<;>first|rfl);done) (by (refine leQH_spec ?_);(try simp only [seval,go_sem]);done) ?_ ?_<;>(try (omega))))
           all_goals (try exact ⟨by omega,h3⟩)
         | true=>
           rw [hh] at hhc
           have hpb:pinB1 os b p=(findN p.commit (versAt b.obj os) 0).2:=by simp [pinB1,hh]
           rw [hpb] at h1 h2
           have hRP0:=h1 (by rw [versAt_neg (by omega)];rfl)
           rw [g1 hRP0]
           (all_goals (try have hZ:=(And.intro hb' hp'));(repeat' (first|(with_reducible refine ListD.nil ?_)|((with_reducible refine isListD ?_);first|(with_reducible refine ListD.step (by simp only [seval,go_sem,rowBd,rowP,hZ];rfl) ?_)|((with_reducible refine isCallV ?_);((with_reducible (refine ListD.dE (by simp only [seval,go_sem,rowBd,rowP,hZ];rfl) (by simp only [seval,go_sem,rowBd,rowP,hZ];rfl) ?_));refine CallW.c (hhc) (by simp only [seval,go_sem,rowBd,rowP,hZ];rfl) ?_))|(with_reducible refine ListD.step (by simp (disch:=omega) only [seval,go_sem,cnd,intV,shV,convV,strV,rowBd,rowP,hZ];rfl) ?_))|(with_reducible refine isDrawn ?_;refine Tri.drawnD mix (by kernel_rfl) (by simp only [l_3,l_4];rfl) ?_)|(with_reducible refine isRet ?_;refine RetV (rs:=[.tmp 2]) (by with_unfolding_all rfl) rfl ?_<;>simp only [seval,go_sem]<;>(repeat' (with_reducible apply And.intro))<;>(try rfl))|(with_reducible (refine TVq (st:=[]) ?_))|simp only [seval,go_sem,rowBd,rowP,hZ]|(with_reducible refine oV_st (by simp (disch:=omega) only [seval,go_sem,cnd,intV,shV,convV,strV,rowBd,rowP,hZ];rfl) ?_)))<;>(try (fail));all_goals (try clear hZ))
        ·rw [List.drop_eq_nil_of_le (by omega)] at hf4
         have h3:=g2 hf4.symm
         ((repeat' (first|(with_reducible (refine TVq (st:=[]) ?_))|simp only [seval,go_sem]|(with_reducible refine oV_st (by simp (disch:=omega) only [seval,go_sem,cnd,intV,shV,convV,strV];rfl) ?_)))<;>(try (fail)))
         all_goals (try (refine isNextM (k2+1) (by (refine leQL_spec ?_);(try simp only [seval,go_sem]);first|((repeat' (with_reducible apply And.intro))<;>first|rfl);done) (by (refine leQH_spec ?_);(try simp only [seval,go_sem]);done) ?_ ?_<;>(try (omega))))
         all_goals (try exact ⟨by omega,h3⟩)
      (have ho':=ho0 ho;(all_goals (try have hZ:=(And.intro hb' ho'));(repeat' (first|((with_reducible refine isTriD ?_);((with_reducible refine isCallD ?_);((with_reducible refine LVcall (st:=[]) ?_);simp only [seval,go_sem,rowBd,rowOb,hZ];(refine CallL.c (hoc) ?_))))|(with_reducible refine ListD.nil ?_)|((with_reducible refine isListD ?_);(with_reducible first|refine ListD.step (by simp only [seval,go_sem,rowBd,rowOb,hZ];rfl) ?_|refine ListD.step (by simp (disch:=omega) only [seval,go_sem,cnd,intV,shV,convV,strV,rowBd,rowOb,hZ];rfl) ?_))|(with_reducible refine isDrawn ?_;refine Tri.drawnD mix (by kernel_rfl) (by simp only [l_3,l_4];rfl) ?_)|(with_reducible (refine TVq (st:=[]) ?_))|simp only [seval,go_sem,rowBd,rowOb,hZ]|(with_reducible refine oV_st (by simp (disch:=omega) only [seval,go_sem,cnd,intV,shV,convV,strV,rowBd,rowOb,hZ];rfl) ?_)))<;>(try (fail));all_goals (try clear hZ)))
      rotate_left
      (have ho':=ho0 ho;have hlv':=get_map rowV hlv;(all_goals (try have hZ:=(And.intro hb' (And.intro ho' hlv')));(repeat' (first|((with_reducible refine isTriD ?_);((with_reducible refine isCallD ?_);((with_reducible refine LVcall (st:=[]) ?_);simp only [seval,go_sem,rowBd,rowOb,rowV,hZ];(refine CallL.c (hoc) ?_))))|(with_reducible refine ListD.nil ?_)|((with_reducible refine isListD ?_);(with_reducible first|refine ListD.step (by simp only [seval,go_sem,rowBd,rowOb,rowV,hZ];rfl) ?_|refine ListD.step (by simp (disch:=omega) only [seval,go_sem,cnd,intV,shV,convV,strV,rowBd,rowOb,rowV,hZ];rfl) ?_))|(with_reducible refine isDrawn ?_;refine Tri.drawnD mix (by kernel_rfl) (by simp only [l_3,l_4];rfl) ?_)|simp only [seval,go_sem,rowBd,rowOb,rowV,hZ]|(with_reducible refine oV_st (by simp (disch:=omega) only [seval,go_sem,cnd,intV,shV,convV,strV,rowBd,rowOb,rowV,hZ];rfl) ?_)))<;>(try (fail));all_goals (try clear hZ)))
      all_goals
       (try (refine Tri.bx 11 (by simp only [seval,go_sem];rfl) (by simp only [seval,go_sem];first|done|rfl) (by simp only [seval,go_sem];rfl) ?_))
       (with_reducible refine Tri.loopU (fun (i3:Nat)=>[(13,.sc (.int .i64 i3)),(2,.any),(14,.any),(15,.any),(144,.any),(145,.any),(146,.any),(147,.any),(148,.any),(149,.any),(150,.any),(151,.any),(152,.any),(153,.any),(154,.any),(155,.any),(156,.any),(157,.any),(158,.any),(159,.any),(160,.any),(161,.any),(162,.any),(163,.any),(164,.any),(165,.any),(166,.any),(167,.any),(168,.any),(169,.any),(170,.any),(171,.any),(172,.any),(173,.any),(174,.any),(175,.any),(176,.any),(177,.any),(178,.any),(179,.any),(180,.any),(181,.any),(182,.any)]) (fun (i3:Nat)=>[(161,.dead),(178,.dead)]) (fun (i3:Nat)=>i3≤ps.length∧(ps.drop i3).all (pinB1 os b)=RP) (fun (i3:Nat)=>ps.length-i3) (0) (⟨Nat.zero_le _,by simpa only [List.drop_zero] using hRP⟩) (by intro _;simp (disch:=omega) only [seval,go_sem,cnd,intV,shV,convV,strV];rfl) (by intro _;simp (disch:=omega) only [seval,go_sem,cnd,intV,shV,convV,strV];rfl) (by (refine leQL_spec ?_);(try simp only [seval,go_sem]);done) (by (refine leQH_spec ?_);(try simp only [seval,go_sem]);done) (fun i3 hI=>?_))
       all_goals
        obtain ⟨hi3,hf4⟩:=hI
        by_cases hlt4:i3<ps.length
        ·obtain ⟨p,hp⟩:=get_lt hlt4
         have hp':=get_map rowP hp
         obtain ⟨h1,h2⟩:=all_step hp (hf4.trans hRP.symm)
         rw [hRP] at h1 h2
         have hhc:=rholds_calls (f:=b.frm) (t:=b.to) (c:=p.commit)
         cases hh:holdsB b.frm b.to p.commit with
         | false=>
           have h3:=h2 (by simp [pinB1,hh])
           rw [hh] at hhc
           (all_goals (try have hZ:=(And.intro hb' hp'));(repeat' (first|(with_reducible refine ListD.nil ?_)|((with_reducible refine isListD ?_);first|(with_reducible refine ListD.step (by simp only [seval,go_sem,rowBd,rowP,hZ];rfl) ?_)|((with_reducible refine isCallV ?_);((with_reducible (refine ListD.dE (by simp only [seval,go_sem,rowBd,rowP,hZ];rfl) (by simp only [seval,go_sem,rowBd,rowP,hZ];rfl) ?_));refine CallW.c (hhc) (by simp only [seval,go_sem,rowBd,rowP,hZ];rfl) ?_))|(with_reducible refine ListD.step (by simp (disch:=omega) only [seval,go_sem,cnd,intV,shV,convV,strV,rowBd,rowP,hZ];rfl) ?_))|(with_reducible refine isDrawn ?_;refine Tri.drawnD mix (by kernel_rfl) (by simp only [l_3,l_4];rfl) ?_)|(with_reducible (refine TVq (st:=[]) ?_))|simp only [seval,go_sem,rowBd,rowP,hZ]|(with_reducible refine oV_st (by simp (disch:=omega) only [seval,go_sem,cnd,intV,shV,convV,strV,rowBd,rowP,hZ];rfl) ?_)))<;>(try (fail));all_goals (try clear hZ))
           all_goals (try (refine isNextM (i3+1) (by (refine leQL_spec ?_);(try simp only [seval,go_sem]);first|((repeat' (with_reducible apply And.intro))<;>first|rfl);done) (by (refine leQH_spec ?_);(try simp only [seval,go_sem]);done) ?_ ?_<;>(try (omega))))
           all_goals (try exact ⟨by omega,h3⟩)
         | true=>
           rw [hh] at hhc
           have hpb:pinB1 os b p=(findN p.commit (versAt b.obj os) 0).2:=by simp [pinB1,hh]
           rw [hpb] at h1 h2
           have z1':=ho0 ho
           rw [versAt_some c2 ho] at h1 h2
           have hfc:=rfind_calls (vs:=o.vers) (c:=p.commit) (by have:=(hv o (List.mem_of_getElem? ho)).1;omega)
           cases hfn:findN p.commit o.vers 0 with
           | mk fi fb=>
             rw [hfn] at hfc h1 h2
             cases fb with
             | false=>
               rw [g1 (h1 rfl)]
               (all_goals (try have hZ:=(And.intro hb' hp'));(repeat' (first|(with_reducible refine ListD.nil ?_)|((with_reducible refine isListD ?_);first|(with_reducible refine ListD.step (by simp only [seval,go_sem,rowBd,rowP,z1',rowOb,hZ];rfl) ?_)|((with_reducible refine isCallV ?_);((with_reducible (refine ListD.dE (by simp only [seval,go_sem,rowBd,rowP,z1',rowOb,hZ];rfl) (by simp only [seval,go_sem,rowBd,rowP,z1',rowOb,hZ];rfl) ?_));first|refine CallW.c (hhc) (by simp only [seval,go_sem,rowBd,rowP,z1',rowOb,hZ];rfl) ?_|refine CallW.c (hfc) (by simp only [seval,go_sem,rowBd,rowP,z1',rowOb,hZ];rfl) ?_))|(with_reducible refine ListD.step (by simp (disch:=omega) only [seval,go_sem,cnd,intV,shV,convV,strV,rowBd,rowP,z1',rowOb,hZ];rfl) ?_))|(with_reducible refine isDrawn ?_;refine Tri.drawnD mix (by kernel_rfl) (by simp only [l_3,l_4];rfl) ?_)|(with_reducible refine isRet ?_;refine RetV (rs:=[.tmp 2]) (by with_unfolding_all rfl) rfl ?_<;>simp only [seval,go_sem]<;>(repeat' (with_reducible apply And.intro))<;>(try rfl))|(with_reducible (refine TVq (st:=[]) ?_))|simp only [seval,go_sem,rowBd,rowP,z1',rowOb,hZ]|(with_reducible refine oV_st (by simp (disch:=omega) only [seval,go_sem,cnd,intV,shV,convV,strV,rowBd,rowP,z1',rowOb,hZ];rfl) ?_)))<;>(try (fail));all_goals (try clear hZ))
             | true=>
               have h3:=h2 rfl
               (all_goals (try have hZ:=(And.intro hb' hp'));(repeat' (first|(with_reducible refine ListD.nil ?_)|((with_reducible refine isListD ?_);first|(with_reducible refine ListD.step (by simp only [seval,go_sem,rowBd,rowP,z1',rowOb,hZ];rfl) ?_)|((with_reducible refine isCallV ?_);((with_reducible (refine ListD.dE (by simp only [seval,go_sem,rowBd,rowP,z1',rowOb,hZ];rfl) (by simp only [seval,go_sem,rowBd,rowP,z1',rowOb,hZ];rfl) ?_));first|refine CallW.c (hhc) (by simp only [seval,go_sem,rowBd,rowP,z1',rowOb,hZ];rfl) ?_|refine CallW.c (hfc) (by simp only [seval,go_sem,rowBd,rowP,z1',rowOb,hZ];rfl) ?_))|(with_reducible refine ListD.step (by simp (disch:=omega) only [seval,go_sem,cnd,intV,shV,convV,strV,rowBd,rowP,z1',rowOb,hZ];rfl) ?_))|(with_reducible refine isDrawn ?_;refine Tri.drawnD mix (by kernel_rfl) (by simp only [l_3,l_4];rfl) ?_)|(with_reducible (refine TVq (st:=[]) ?_))|simp only [seval,go_sem,rowBd,rowP,z1',rowOb,hZ]|(with_reducible refine oV_st (by simp (disch:=omega) only [seval,go_sem,cnd,intV,shV,convV,strV,rowBd,rowP,z1',rowOb,hZ];rfl) ?_)))<;>(try (fail));all_goals (try clear hZ))
               all_goals (try (refine isNextM (i3+1) (by (refine leQL_spec ?_);(try simp only [seval,go_sem]);first|((repeat' (with_reducible apply And.intro))<;>first|rfl);done) (by (refine leQH_spec ?_);(try simp only [seval,go_sem]);done) ?_ ?_<;>(try (omega))))
               all_goals (try exact ⟨by omega,h3⟩)
        ·rw [List.drop_eq_nil_of_le (by omega)] at hf4
         have h3:=g2 hf4.symm
         ((repeat' (first|(with_reducible (refine TVq (st:=[]) ?_))|simp only [seval,go_sem]|(with_reducible refine oV_st (by simp (disch:=omega) only [seval,go_sem,cnd,intV,shV,convV,strV];rfl) ?_)))<;>(try (fail)))
         all_goals (try (refine isNextM (k2+1) (by (refine leQL_spec ?_);(try simp only [seval,go_sem]);first|((repeat' (with_reducible apply And.intro))<;>first|rfl);done) (by (refine leQH_spec ?_);(try simp only [seval,go_sem]);done) ?_ ?_<;>(try (omega))))
         all_goals (try exact ⟨by omega,h3⟩)
     ·rw [List.drop_eq_nil_of_le (by omega)] at hf3
      rw [show RC=true from hf3.symm]
      ((repeat' (first|(with_reducible refine isRet ?_;refine RetV (rs:=[.tmp 2]) (by with_unfolding_all rfl) rfl ?_<;>simp only [seval,go_sem]<;>(repeat' (with_reducible apply And.intro))<;>(try rfl))|(with_reducible (refine TVq (st:=[]) ?_))|simp only [seval,go_sem]|(with_reducible refine oV_st (by simp (disch:=omega) only [seval,go_sem,cnd,intV,shV,convV,strV];rfl) ?_)))<;>(try (fail)))
end Go.Proofs.Ytmgodadmafcliaa
