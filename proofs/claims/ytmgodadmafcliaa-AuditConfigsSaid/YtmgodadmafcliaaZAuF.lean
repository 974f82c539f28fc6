/- The reference's checks of pages and of what must fit together: their walks. -/
import Derived.Test.YtmgodadmafcliaaZAuC
import Derived.Test.YtmgodadmafcliaaZAuB
set_option linter.unusedSimpArgs false
set_option linter.unusedVariables false
namespace Go.Proofs.Ytmgodadmafcliaa
open Go.RowKit Go.Avm
set_option maxRecDepth 100000 in set_option maxHeartbeats 3200000 in
theorem object_calls {l:List Ob} {n:Int} (hl:l.length≤100000):ACalls Try.prog 56 [.sl 2 (l.map rowOb), .sc (.int .i64 n)] (.sc (.int .i64 (objAt n l 0))) []:=by
 refine of_tri [] [] Try.func56 rfl call56 rfl (by decide) (by decide) rfl rfl Try.ntmps56 (by simp (disch:=omega) only [seval,go_sem,cnd,intV,shV,convV,strV,List.replicate,l_2,l_1];rfl) (by simp (disch:=omega) only [seval,go_sem,cnd,intV,shV,convV,strV,l_2,l_1];rfl) ?_
 ((repeat' (first|(with_reducible (refine TVq (st:=[]) ?_))|simp only [seval,go_sem]))<;>(try (fail)))
 all_goals (with_reducible refine Tri.loopU (fun (k:Nat)=>[(5,.sc (.int .i64 k)),(4,.any),(6,.any),(7,.any),(8,.any),(9,.any),(10,.any),(11,.any),(12,.any),(13,.any),(14,.any),(15,.any),(16,.any),(17,.any),(18,.any),(19,.any)]) (fun (k:Nat)=>[]) (fun (k:Nat)=>k≤l.length∧objAt n (l.drop k) k=objAt n l 0) (fun (k:Nat)=>l.length-k) (0) (⟨Nat.zero_le _,rfl⟩) (by intro _;simp (disch:=omega) only [seval,go_sem,cnd,intV,shV,convV,strV];rfl) (by intro _;simp (disch:=omega) only [seval,go_sem,cnd,intV,shV,convV,strV];rfl) (by (refine leQL_spec ?_);(try simp only [seval,go_sem]);done) (by (refine leQH_spec ?_);(try simp only [seval,go_sem]);done) (fun k hI=>?_))
 all_goals obtain ⟨hk,hf⟩:=hI
 by_cases hlt:k<l.length
 ·obtain ⟨o,ho⟩:=get_lt hlt
  have ho':=get_map rowOb ho
  rw [drop_get ho,objAt] at hf
  by_cases hc:o.id=n
  ·rw [if_pos hc] at hf
   rw [← hf]
   ((repeat' (first|(with_reducible refine isRet ?_;refine RetV (rs:=[.tmp 4]) (by with_unfolding_all rfl) rfl ?_<;>simp only [seval,go_sem]<;>(repeat' (with_reducible apply And.intro))<;>(try rfl))|(with_reducible (refine TVq (st:=[]) ?_))|simp only [seval,go_sem,ho',rowOb]|(with_reducible refine oV_st (by simp (disch:=omega) only [seval,go_sem,cnd,intV,shV,convV,strV,ho',rowOb];rfl) ?_)))<;>(try (fail)))
  ·rw [if_neg hc] at hf
   ((repeat' (first|(with_reducible (refine TVq (st:=[]) ?_))|simp only [seval,go_sem,ho',rowOb]|(with_reducible refine oV_st (by simp (disch:=omega) only [seval,go_sem,cnd,intV,shV,convV,strV,ho',rowOb];rfl) ?_)))<;>(try (fail)))
   all_goals (try (refine isNextM (k+1) (by (refine leQL_spec ?_);(try simp only [seval,go_sem]);first|((repeat' (with_reducible apply And.intro))<;>first|rfl);done) (by (refine leQH_spec ?_);(try simp only [seval,go_sem]);done) ?_ ?_<;>(try (omega))))
   all_goals (try exact ⟨by omega,hf⟩)
 ·rw [List.drop_eq_nil_of_le (by omega),objAt] at hf
  rw [← hf]
  ((repeat' (first|(with_reducible refine isRet ?_;refine RetV (rs:=[.tmp 4]) (by with_unfolding_all rfl) rfl ?_<;>simp only [seval,go_sem]<;>(repeat' (with_reducible apply And.intro))<;>(try rfl))|(with_reducible (refine TVq (st:=[]) ?_))|simp only [seval,go_sem]|(with_reducible refine oV_st (by simp (disch:=omega) only [seval,go_sem,cnd,intV,shV,convV,strV];rfl) ?_)))<;>(try (fail)))
set_option maxRecDepth 100000 in set_option maxHeartbeats 3200000 in
theorem page_calls {l:List Pg} {n:Int} (hl:l.length≤100000):ACalls Try.prog 87 [.sl 3 (l.map rowPg), .sc (.int .i64 n)] (.sc (.int .i64 (pgAt n l 0))) []:=by
 refine of_tri [] [] Try.func87 rfl call87 rfl (by decide) (by decide) rfl rfl Try.ntmps87 (by simp (disch:=omega) only [seval,go_sem,cnd,intV,shV,convV,strV,List.replicate,l_2,l_1];rfl) (by simp (disch:=omega) only [seval,go_sem,cnd,intV,shV,convV,strV,l_2,l_1];rfl) ?_
 ((repeat' (first|(with_reducible (refine TVq (st:=[]) ?_))|simp only [seval,go_sem]))<;>(try (fail)))
 all_goals (with_reducible refine Tri.loopU (fun (k:Nat)=>[(5,.sc (.int .i64 k)),(4,.any),(6,.any),(7,.any),(8,.any),(9,.any),(10,.any),(11,.any),(12,.any),(13,.any),(14,.any),(15,.any),(16,.any),(17,.any),(18,.any),(19,.any)]) (fun (k:Nat)=>[]) (fun (k:Nat)=>k≤l.length∧pgAt n (l.drop k) k=pgAt n l 0) (fun (k:Nat)=>l.length-k) (0) (⟨Nat.zero_le _,rfl⟩) (by intro _;simp (disch:=omega) only [seval,go_sem,cnd,intV,shV,convV,strV];rfl) (by intro _;simp (disch:=omega) only [seval,go_sem,cnd,intV,shV,convV,strV];rfl) (by (refine leQL_spec ?_);(try simp only [seval,go_sem]);done) (by (refine leQH_spec ?_);(try simp only [seval,go_sem]);done) (fun k hI=>?_))
 all_goals obtain ⟨hk,hf⟩:=hI
 by_cases hlt:k<l.length
 ·obtain ⟨o,ho⟩:=get_lt hlt
  have ho':=get_map rowPg ho
  rw [drop_get ho,pgAt] at hf
  by_cases hc:o.num=n
  ·rw [if_pos hc] at hf
   rw [← hf]
   ((repeat' (first|(with_reducible refine isRet ?_;refine RetV (rs:=[.tmp 4]) (by with_unfolding_all rfl) rfl ?_<;>simp only [seval,go_sem]<;>(repeat' (with_reducible apply And.intro))<;>(try rfl))|(with_reducible (refine TVq (st:=[]) ?_))|simp only [seval,go_sem,ho',rowPg]|(with_reducible refine oV_st (by simp (disch:=omega) only [seval,go_sem,cnd,intV,shV,convV,strV,ho',rowPg];rfl) ?_)))<;>(try (fail)))
  ·rw [if_neg hc] at hf
   ((repeat' (first|(with_reducible (refine TVq (st:=[]) ?_))|simp only [seval,go_sem,ho',rowPg]|(with_reducible refine oV_st (by simp (disch:=omega) only [seval,go_sem,cnd,intV,shV,convV,strV,ho',rowPg];rfl) ?_)))<;>(try (fail)))
   all_goals (try (refine isNextM (k+1) (by (refine leQL_spec ?_);(try simp only [seval,go_sem]);first|((repeat' (with_reducible apply And.intro))<;>first|rfl);done) (by (refine leQH_spec ?_);(try simp only [seval,go_sem]);done) ?_ ?_<;>(try (omega))))
   all_goals (try exact ⟨by omega,hf⟩)
 ·rw [List.drop_eq_nil_of_le (by omega),pgAt] at hf
  rw [← hf]
  ((repeat' (first|(with_reducible refine isRet ?_;refine RetV (rs:=[.tmp 4]) (by with_unfolding_all rfl) rfl ?_<;>simp only [seval,go_sem]<;>(repeat' (with_reducible apply And.intro))<;>(try rfl))|(with_reducible (refine TVq (st:=[]) ?_))|simp only [seval,go_sem]|(with_reducible refine oV_st (by simp (disch:=omega) only [seval,go_sem,cnd,intV,shV,convV,strV];rfl) ?_)))<;>(try (fail)))
theorem openO_rng (n:Int): ∀ l:List Bd,0≤openO n l∧openO n l≤l.length
 | []=>by simp [openO]
 | b::l=>by
   have:=openO_rng n l
   rw [openO,List.length_cons]
   split<;>omega
set_option maxRecDepth 100000 in set_option maxHeartbeats 3200000 in
theorem rnamed_calls {com n:Int} {l:List Bd} {ob pn pg:List (List D)} (hl:l.length≤100000):ACalls Try.prog 88 [.agg [.sc (.int .i64 com), .sl 2 ob, .sl 4 (l.map rowBd), .sl 2 pn, .sl 3 pg], .sc (.int .i64 n)] (.sc (.int .i64 (openO n l))) []:=by
 have hor:=openO_rng n l
 refine of_tri [] [2] Try.func88 rfl call88 rfl (by decide) (by decide) rfl rfl Try.ntmps88 (by simp (disch:=omega) only [seval,go_sem,cnd,intV,shV,convV,strV,List.replicate,l_2,l_1];rfl) (by simp (disch:=omega) only [seval,go_sem,cnd,intV,shV,convV,strV,l_2,l_1];rfl) ?_
 ((repeat' (first|(with_reducible (refine TVq (st:=[]) ?_))|simp only [seval,go_sem]))<;>(try (fail)))
 all_goals (with_reducible refine Tri.loopU (fun (t:Nat×Int)=>[(6,.sc (.int .i64 t.1)),(5,.sc (.int .i64 t.2)),(7,.any),(8,.any),(9,.any),(10,.any),(11,.any),(12,.any),(13,.any),(14,.any),(15,.any),(16,.any),(17,.any),(18,.any),(19,.any),(20,.any),(21,.any),(22,.any),(23,.any),(24,.any),(25,.any),(26,.any),(27,.any),(28,.any),(29,.any),(30,.any),(31,.any),(32,.any)]) (fun (t:Nat×Int)=>[]) (fun (t:Nat×Int)=>t.1≤l.length∧(0≤t.2∧t.2≤t.1)∧t.2+openO n (l.drop t.1)=openO n l) (fun (t:Nat×Int)=>l.length-t.1) ((0,0)) (⟨Nat.zero_le _,by simp,by simp⟩) (by intro _;simp (disch:=omega) only [seval,go_sem,cnd,intV,shV,convV,strV];rfl) (by intro _;simp (disch:=omega) only [seval,go_sem,cnd,intV,shV,convV,strV];rfl) (by (refine leQL_spec ?_);(try simp only [seval,go_sem]);done) (by (refine leQH_spec ?_);(try simp only [seval,go_sem]);done) (fun t hI=>?_))
 all_goals
  obtain ⟨k,s⟩:=t
  obtain ⟨hk,⟨h0,h1⟩,hf⟩:=hI
  simp only at hk h0 h1 hf
  by_cases hlt:k<l.length
  ·obtain ⟨b,hb⟩:=get_lt hlt
   have hb':=get_map rowBd hb
   rw [drop_get hb,openO] at hf
   by_cases hc:b.obj=n∧b.to=0
   ·rw [if_pos hc] at hf
    obtain ⟨c1,c2⟩:=hc
    ((repeat' (first|(with_reducible (refine TVq (st:=[]) ?_))|simp only [seval,go_sem,hb',rowBd,c1,c2]|(with_reducible refine oV_st (by simp (disch:=omega) only [seval,go_sem,cnd,intV,shV,convV,strV,hb',rowBd,c1,c2];rfl) ?_)))<;>(try (fail)))
    all_goals (try (refine isNextM ((k+1,s+1)) (by (refine leQL_spec ?_);(try simp only [seval,go_sem]);first|((repeat' (with_reducible apply And.intro))<;>first|rfl);done) (by (refine leQH_spec ?_);(try simp only [seval,go_sem]);done) ?_ ?_<;>(try (first|omega|(simp;omega)))))
    all_goals (try exact ⟨by simp only;omega,⟨by simp only;omega,by simp only;omega⟩,by simp only;omega⟩)
   ·rw [if_neg hc] at hf
    ((repeat' (first|(with_reducible refine isCv ?_;intro hc;(try simp only [bls,reduceCtorEq] at hc);(try (exfalso;omega)))|(with_reducible (refine TVq (st:=[]) ?_))|simp only [seval,go_sem,hb',rowBd]|(with_reducible first|refine oV_st (by simp (disch:=omega) only [seval,go_sem,cnd,intV,shV,convV,strV,hb',rowBd];rfl) ?_|refine gV_split (by simp only [seval,go_sem,hb',rowBd];rfl) (by simp only [seval,go_sem,hb',rowBd];rfl) (by simp only [seval,go_sem,hb',rowBd];done) (cvI ?_) (cvI ?_) (by simp only [seval,go_sem,hb',rowBd]))))<;>(try (fail)))
    all_goals (try (refine isNextM ((k+1,s)) (by (refine leQL_spec ?_);(try simp only [seval,go_sem]);first|((repeat' (with_reducible apply And.intro))<;>first|rfl);done) (by (refine leQH_spec ?_);(try simp only [seval,go_sem]);done) ?_ ?_<;>(try (first|omega|(simp;omega)))))
    all_goals (try exact ⟨by simp only;omega,⟨by simp only;omega,by simp only;omega⟩,by simp only;omega⟩)
  ·rw [List.drop_eq_nil_of_le (by omega),openO] at hf
   rw [← hf,Int.add_zero]
   ((repeat' (first|(with_reducible refine isRet ?_;refine RetV (rs:=[.tmp 4]) (by with_unfolding_all rfl) rfl ?_<;>simp only [seval,go_sem]<;>(repeat' (with_reducible apply And.intro))<;>(try rfl))|(with_reducible (refine TVq (st:=[]) ?_))|simp only [seval,go_sem]|(with_reducible refine oV_st (by simp (disch:=omega) only [seval,go_sem,cnd,intV,shV,convV,strV];rfl) ?_)))<;>(try (fail)))
/-- The pages, then what the versions hold of them. -/
def rpagesE (c:Cf) (l:List Pg) (os:List Ob):Int:=if pagesE c l≠0 then pagesE c l else dataE l os
theorem pgLen_none {ps:List Pg} {n:Int} (h:pgAt n ps 0<0):pgLen ps n=none:=by unfold pgLen;rw [if_pos h]
theorem pgLen_some {ps:List Pg} {n:Int} {j:Nat} {q:Pg} (h:pgAt n ps 0=(j:Int)) (hq:ps[j]? = some q):pgLen ps n=some (q.data.length:Int):=by
 unfold pgLen
 rw [h,if_neg (by omega)]
 simp [hq]
set_option maxRecDepth 100000 in set_option maxHeartbeats 25600000 in
theorem rckpages_calls {a b c e p f g com:Int} {bd pn:List (List D)} {l:List Pg} {os:List Ob} (hl:l.length≤1000) (hol:os.length≤1000) (hd: ∀ q∈l,q.data.length≤9223372036854775807) (hv: ∀ o∈os,o.vers.length≤1000∧ ∀ v∈o.vers,v.size≤9223372036854775807∧v.pages.length≤9223372036854775807):ACalls Try.prog 50 [.agg [.sc (.int .i64 a),.sc (.int .i64 b),.sc (.int .i64 c),.sc (.int .i64 e),.sc (.int .i64 p),.sc (.int .i64 f),.sc (.int .i64 g)],.agg [.sc (.int .i64 com),.sl 2 (os.map rowOb),.sl 4 bd,.sl 2 pn,.sl 3 (l.map rowPg)]] (.sc (.int .i64 (rpagesE ⟨a,b,c,e,p,f,g⟩ l os))) []:=by
 have hpc:=pagesE_cases ⟨a,b,c,e,p,f,g⟩ l
 simp only at hpc
 have hbd: ∀ z,z≠0→pagesE ⟨a,b,c,e,p,f,g⟩ l=z→rpagesE ⟨a,b,c,e,p,f,g⟩ l os=z:=fun z hz h=>by rw [rpagesE,if_pos (by rw [h];exact hz),h]
 have hgd:pagesE ⟨a,b,c,e,p,f,g⟩ l=0→rpagesE ⟨a,b,c,e,p,f,g⟩ l os=dataE l os:=fun h=>by rw [rpagesE,if_neg (by simp [h])]
 refine of_tri [] [2,3,8,101] Try.func50 rfl call50 rfl (by decide) (by decide) rfl rfl Try.ntmps50 (by simp (disch:=omega) only [seval,go_sem,cnd,intV,shV,convV,strV,List.replicate,l_2,l_1];rfl) (by simp (disch:=omega) only [seval,go_sem,cnd,intV,shV,convV,strV,l_2,l_1];rfl) ?_
 ((repeat' (first|(with_reducible (refine TVq (st:=[]) ?_))|simp only [seval,go_sem]))<;>(try (fail)))
 all_goals (refine Tri.bx 2 (by simp only [seval,go_sem];rfl) (by simp only [seval,go_sem];first|done|rfl) (by simp only [seval,go_sem];rfl) ?_)
 all_goals (refine Tri.bx 3 (by simp only [seval,go_sem];rfl) (by simp only [seval,go_sem];first|done|rfl) (by simp only [seval,go_sem];rfl) ?_)
 all_goals (with_reducible refine Tri.loopU (fun (k:Nat)=>[(5,.sc (.int .i64 k)),(4,.any),(12,.any),(13,.any),(14,.any),(15,.any),(16,.any),(17,.any),(18,.any),(19,.any),(20,.any),(21,.any),(22,.any),(23,.any),(24,.any),(25,.any),(26,.any),(27,.any),(28,.any),(29,.any),(30,.any),(31,.any),(32,.any),(33,.any),(34,.any),(35,.any),(36,.any),(37,.any),(38,.any),(39,.any),(40,.any),(41,.any),(42,.any),(43,.any),(44,.any),(45,.any),(46,.any),(47,.any),(48,.any),(49,.any),(50,.any),(51,.any),(52,.any),(53,.any)]) (fun (k:Nat)=>[]) (fun (k:Nat)=>k≤l.length∧pgsE e (prevI (l.map (·.num)) k) (l.drop k)=pgsE e none l) (fun (k:Nat)=>l.length-k) (0) (⟨Nat.zero_le _,rfl⟩) (by intro _;simp (disch:=omega) only [seval,go_sem,cnd,intV,shV,convV,strV];rfl) (by intro _;simp (disch:=omega) only [seval,go_sem,cnd,intV,shV,convV,strV];rfl) (by (refine leQL_spec ?_);(try simp only [seval,go_sem]);done) (by (refine leQH_spec ?_);(try simp only [seval,go_sem]);done) (fun k hI=>?_))
 all_goals obtain ⟨hk,hf⟩:=hI
 by_cases hlt:k<l.length
 ·obtain ⟨o,ho⟩:=get_lt hlt
  have ho':=get_map rowPg ho
  have hdl:=hd o (List.mem_of_getElem? ho)
  obtain ⟨g1,g2⟩:=pgsE_step ho hf
  have hbad: ∀ z,z≠0→pgE e (prevI (l.map (·.num)) k) o=z→rpagesE ⟨a,b,c,e,p,f,g⟩ l os=z:=fun z hz h=>by
   have h1:=g1 (by rw [h];exact hz)
   rcases hpc with ⟨_,h2⟩|⟨h2,_⟩
   ·exact hbd z hz (by rw [h2,h1,h])
   ·rw [h2,h] at h1;exact absurd h1.symm hz
  rcases pgE_cases (psz:=e) (prev:=prevI (l.map (·.num)) k) (o:=o) with ⟨c1,e1⟩|⟨c1,c2,e1⟩|⟨c1,c2,⟨c3,e1⟩|⟨c3,e1⟩⟩
  ·rw [hbad _ (by decide) e1]
   ((repeat' (first|(with_reducible refine isRet ?_;refine RetV (rs:=[.tmp 4]) (by with_unfolding_all rfl) rfl ?_<;>simp only [seval,go_sem]<;>(repeat' (with_reducible apply And.intro))<;>(try rfl))|(with_reducible (refine TVq (st:=[]) ?_))|simp only [seval,go_sem,ho',rowPg]|(with_reducible refine oV_st (by simp (disch:=omega) only [seval,go_sem,cnd,intV,shV,convV,strV,ho',rowPg];rfl) ?_)))<;>(try (fail)))
  ·rcases prevG_cases l k hk with ⟨q1,q2⟩|⟨q1,u,q2,q3⟩
   ·rw [q2] at c2;cases c2
   ·have q2':=get_map rowPg q2
    rw [q3,Option.any_some,decide_eq_true_eq] at c2
    rw [hbad _ (by decide) e1]
    ((repeat' (first|(with_reducible refine ListD.nil ?_)|((with_reducible refine isListD ?_);(with_reducible first|refine ListD.step (by simp only [seval,go_sem,ho',q2',rowPg];rfl) ?_|refine ListD.step (by simp (disch:=omega) only [seval,go_sem,cnd,intV,shV,convV,strV,ho',q2',rowPg];rfl) ?_))|(with_reducible refine isDrawn ?_;refine Tri.drawnD mix (by kernel_rfl) (by simp only [l_3,l_4];rfl) ?_)|(with_reducible refine isRet ?_;refine RetV (rs:=[.tmp 4]) (by with_unfolding_all rfl) rfl ?_<;>simp only [seval,go_sem]<;>(repeat' (with_reducible apply And.intro))<;>(try rfl))|(with_reducible (refine TVq (st:=[]) ?_))|simp only [seval,go_sem,ho',q2',rowPg]|(with_reducible refine oV_st (by simp (disch:=omega) only [seval,go_sem,cnd,intV,shV,convV,strV,ho',q2',rowPg];rfl) ?_)))<;>(try (fail)))
  ·rw [hbad _ (by decide) e1]
   rcases prevG_cases l k hk with ⟨q1,q2⟩|⟨q1,u,q2,q3⟩
   ·((repeat' (first|(with_reducible refine ListD.nil ?_)|((with_reducible refine isListD ?_);(with_reducible first|refine ListD.step (by simp only [seval,go_sem,ho',rowPg];rfl) ?_|refine ListD.step (by simp (disch:=omega) only [seval,go_sem,cnd,intV,shV,convV,strV,ho',rowPg];rfl) ?_))|(with_reducible refine isDrawn ?_;refine Tri.drawnD mix (by kernel_rfl) (by simp only [l_3,l_4];rfl) ?_)|(with_reducible refine isRet ?_;refine RetV (rs:=[.tmp 4]) (by with_unfolding_all rfl) rfl ?_<;>simp only [seval,go_sem]<;>(repeat' (with_reducible apply And.intro))<;>(try rfl))|(with_reducible (refine TVq (st:=[]) ?_))|simp only [seval,go_sem,ho',rowPg]|(with_reducible refine oV_st (by simp (disch:=omega) only [seval,go_sem,cnd,intV,shV,convV,strV,ho',rowPg];rfl) ?_)))<;>(try (fail)))
   ·have q2':=get_map rowPg q2
    rw [q3,Option.any_some,decide_eq_false_iff_not] at c2
    ((repeat' (first|(with_reducible refine ListD.nil ?_)|((with_reducible refine isListD ?_);(with_reducible first|refine ListD.step (by simp only [seval,go_sem,ho',q2',rowPg];rfl) ?_|refine ListD.step (by simp (disch:=omega) only [seval,go_sem,cnd,intV,shV,convV,strV,ho',q2',rowPg];rfl) ?_))|(with_reducible refine isDrawn ?_;refine Tri.drawnD mix (by kernel_rfl) (by simp only [l_3,l_4];rfl) ?_)|(with_reducible refine isRet ?_;refine RetV (rs:=[.tmp 4]) (by with_unfolding_all rfl) rfl ?_<;>simp only [seval,go_sem]<;>(repeat' (with_reducible apply And.intro))<;>(try rfl))|(with_reducible (refine TVq (st:=[]) ?_))|simp only [seval,go_sem,ho',q2',rowPg]|(with_reducible refine oV_st (by simp (disch:=omega) only [seval,go_sem,cnd,intV,shV,convV,strV,ho',q2',rowPg];rfl) ?_)))<;>(try (fail)))
  ·have g3:=g2 e1
   rcases prevG_cases l k hk with ⟨q1,q2⟩|⟨q1,u,q2,q3⟩
   ·((repeat' (first|(with_reducible refine ListD.nil ?_)|((with_reducible refine isListD ?_);(with_reducible first|refine ListD.step (by simp only [seval,go_sem,ho',rowPg];rfl) ?_|refine ListD.step (by simp (disch:=omega) only [seval,go_sem,cnd,intV,shV,convV,strV,ho',rowPg];rfl) ?_))|(with_reducible refine isDrawn ?_;refine Tri.drawnD mix (by kernel_rfl) (by simp only [l_3,l_4];rfl) ?_)|(with_reducible (refine TVq (st:=[]) ?_))|simp only [seval,go_sem,ho',rowPg]|(with_reducible refine oV_st (by simp (disch:=omega) only [seval,go_sem,cnd,intV,shV,convV,strV,ho',rowPg];rfl) ?_)))<;>(try (fail)))
    all_goals (try (refine isNextM (k+1) (by (refine leQL_spec ?_);(try simp only [seval,go_sem]);first|((repeat' (with_reducible apply And.intro))<;>first|rfl);done) (by (refine leQH_spec ?_);(try simp only [seval,go_sem]);done) ?_ ?_<;>(try (omega))))
    all_goals (try exact ⟨by omega,g3⟩)
   ·have q2':=get_map rowPg q2
    rw [q3,Option.any_some,decide_eq_false_iff_not] at c2
    ((repeat' (first|(with_reducible refine ListD.nil ?_)|((with_reducible refine isListD ?_);(with_reducible first|refine ListD.step (by simp only [seval,go_sem,ho',q2',rowPg];rfl) ?_|refine ListD.step (by simp (disch:=omega) only [seval,go_sem,cnd,intV,shV,convV,strV,ho',q2',rowPg];rfl) ?_))|(with_reducible refine isDrawn ?_;refine Tri.drawnD mix (by kernel_rfl) (by simp only [l_3,l_4];rfl) ?_)|(with_reducible (refine TVq (st:=[]) ?_))|simp only [seval,go_sem,ho',q2',rowPg]|(with_reducible refine oV_st (by simp (disch:=omega) only [seval,go_sem,cnd,intV,shV,convV,strV,ho',q2',rowPg];rfl) ?_)))<;>(try (fail)))
    all_goals (try (refine isNextM (k+1) (by (refine leQL_spec ?_);(try simp only [seval,go_sem]);first|((repeat' (with_reducible apply And.intro))<;>first|rfl);done) (by (refine leQH_spec ?_);(try simp only [seval,go_sem]);done) ?_ ?_<;>(try (omega))))
    all_goals (try exact ⟨by omega,g3⟩)
 ·rw [List.drop_eq_nil_of_le (by omega),pgsE] at hf
  rcases hpc with ⟨h1,_⟩|⟨_,⟨h2,h3⟩|⟨h2,h3⟩⟩
  ·exact absurd hf.symm h1
  ·rw [hbd _ (by decide) h3]
   ((repeat' (first|(with_reducible refine isRet ?_;refine RetV (rs:=[.tmp 4]) (by with_unfolding_all rfl) rfl ?_<;>simp only [seval,go_sem]<;>(repeat' (with_reducible apply And.intro))<;>(try rfl))|(with_reducible (refine TVq (st:=[]) ?_))|simp only [seval,go_sem]|(with_reducible refine oV_st (by simp (disch:=omega) only [seval,go_sem,cnd,intV,shV,convV,strV];rfl) ?_)))<;>(try (fail)))
  ·rw [hgd h3]
   ((repeat' (first|(with_reducible (refine TVq (st:=[]) ?_))|simp only [seval,go_sem]|(with_reducible refine oV_st (by simp (disch:=omega) only [seval,go_sem,cnd,intV,shV,convV,strV];rfl) ?_)))<;>(try (fail)))
   all_goals (with_reducible refine Tri.loopU (fun (i:Nat)=>[(6,.sc (.int .i64 i)),(4,.any),(7,.any),(8,.any),(9,.any),(10,.any),(11,.any),(60,.any),(61,.any),(62,.any),(63,.any),(64,.any),(65,.any),(66,.any),(67,.any),(68,.any),(69,.any),(70,.any),(71,.any),(72,.any),(73,.any),(74,.any),(75,.any),(76,.any),(77,.any),(78,.any),(79,.any),(80,.any),(81,.any),(82,.any),(83,.any),(84,.any),(85,.any),(86,.any),(87,.any),(88,.any),(89,.any),(90,.any),(91,.any),(92,.any),(93,.any),(94,.any),(95,.any),(96,.any),(97,.any),(98,.any),(99,.any),(100,.any),(101,.any),(102,.any),(103,.any),(104,.any),(105,.any),(106,.any),(107,.any),(108,.any),(109,.any),(110,.any),(111,.any),(112,.any),(113,.any),(114,.any),(115,.any),(116,.any)]) (fun (i:Nat)=>[(8,.dead),(101,.dead)]) (fun (i:Nat)=>i≤os.length∧dataE l (os.drop i)=dataE l os) (fun (i:Nat)=>os.length-i) (0) (⟨Nat.zero_le _,rfl⟩) (by intro _;simp (disch:=omega) only [seval,go_sem,cnd,intV,shV,convV,strV];rfl) (by intro _;simp (disch:=omega) only [seval,go_sem,cnd,intV,shV,convV,strV];rfl) (by (refine leQL_spec ?_);(try simp only [seval,go_sem]);done) (by (refine leQH_spec ?_);(try simp only [seval,go_sem]);done) (fun i hI=>?_))
   all_goals
    obtain ⟨hi,hfo⟩:=hI
    by_cases hlt2:i<os.length
    ·obtain ⟨o,ho⟩:=get_lt hlt2
     have ho':=get_map rowOb ho
     obtain ⟨hvl,hvs⟩:=hv o (List.mem_of_getElem? ho)
     obtain ⟨g1,g2⟩:=dataE_step ho hfo
     ((repeat' (first|(with_reducible (refine TVq (st:=[]) ?_))|simp only [seval,go_sem]|(with_reducible refine oV_st (by simp (disch:=omega) only [seval,go_sem,cnd,intV,shV,convV,strV];rfl) ?_)))<;>(try (fail)))
     all_goals (with_reducible refine Tri.loopU (fun (j:Nat)=>[(7,.sc (.int .i64 j)),(4,.any),(8,.any),(9,.any),(10,.any),(11,.any),(67,.any),(68,.any),(69,.any),(70,.any),(71,.any),(72,.any),(73,.any),(74,.any),(75,.any),(76,.any),(77,.any),(78,.any),(79,.any),(80,.any),(81,.any),(82,.any),(83,.any),(84,.any),(85,.any),(86,.any),(87,.any),(88,.any),(89,.any),(90,.any),(91,.any),(92,.any),(93,.any),(94,.any),(95,.any),(96,.any),(97,.any),(98,.any),(99,.any),(100,.any),(101,.any),(102,.any),(103,.any),(104,.any),(105,.any),(106,.any),(107,.any),(108,.any),(109,.any),(110,.any),(111,.any),(112,.any),(113,.any),(114,.any),(115,.any),(116,.any)]) (fun (j:Nat)=>[(8,.dead),(101,.dead)]) (fun (j:Nat)=>j≤o.vers.length∧versD l (o.vers.drop j)=versD l o.vers) (fun (j:Nat)=>o.vers.length-j) (0) (⟨Nat.zero_le _,rfl⟩) (by intro _;simp (disch:=omega) only [seval,go_sem,cnd,intV,shV,convV,strV];rfl) (by intro _;simp (disch:=omega) only [seval,go_sem,cnd,intV,shV,convV,strV];rfl) (by (refine leQL_spec ?_);(try simp only [seval,go_sem]);done) (by (refine leQH_spec ?_);(try simp only [seval,go_sem]);done) (fun j hI=>?_))
     all_goals
      obtain ⟨hj,hf2⟩:=hI
      by_cases hlt3:j<o.vers.length
      ·obtain ⟨v,hvj⟩:=get_lt hlt3
       have hvj':=get_map rowV hvj
       obtain ⟨r4,r5⟩:=hvs v (List.mem_of_getElem? hvj)
       obtain ⟨h1,h2⟩:=versD_step hvj hf2
       (all_goals (try have hZ:=(And.intro ho' hvj'));(repeat' (first|(with_reducible (refine TVq (st:=[]) ?_))|simp only [seval,go_sem,rowOb,rowV,hZ]|(with_reducible refine oV_st (by simp (disch:=omega) only [seval,go_sem,cnd,intV,shV,convV,strV,rowOb,rowV,hZ];rfl) ?_)))<;>(try (fail));all_goals (try clear hZ))
       all_goals (refine Tri.bx 8 (by simp only [seval,go_sem];rfl) (by simp only [seval,go_sem];first|done|rfl) (by simp only [seval,go_sem];rfl) ?_)
       all_goals (with_reducible refine Tri.loopU (fun (t:Nat×Int)=>[(10,.sc (.int .i64 t.1)),(9,.sc (.int .i64 t.2)),(4,.any),(11,.any),(87,.any),(88,.any),(89,.any),(90,.any),(91,.any),(92,.any),(93,.any),(94,.any),(95,.any),(96,.any),(97,.any),(98,.any),(99,.any),(100,.any),(101,.any),(102,.any),(103,.any),(104,.any),(105,.any),(106,.any),(107,.any),(108,.any),(109,.any),(110,.any),(111,.any),(112,.any)]) (fun (t:Nat×Int)=>[(101,.dead)]) (fun (t:Nat×Int)=>t.1≤v.pages.length∧sumE l v.size (v.pages.drop t.1) t.2=sumE l v.size v.pages 0) (fun (t:Nat×Int)=>v.pages.length-t.1) ((0,0)) (⟨Nat.zero_le _,rfl⟩) (by intro _;simp (disch:=omega) only [seval,go_sem,cnd,intV,shV,convV,strV];rfl) (by intro _;simp (disch:=omega) only [seval,go_sem,cnd,intV,shV,convV,strV];rfl) (by (refine leQL_spec ?_);(try simp only [seval,go_sem]);done) (by (refine leQH_spec ?_);(try simp only [seval,go_sem]);done) (fun t hI=>?_))
       all_goals
        obtain ⟨m,s⟩:=t
        obtain ⟨hm,hf3⟩:=hI
        simp only at hm hf3
        by_cases hlt4:m<v.pages.length
        ·obtain ⟨n,hn⟩:=get_lt hlt4
         have hn':=get_map rowI hn
         rw [drop_get hn,sumE] at hf3
         have hpgc:=page_calls (l:=l) (n:=n) (by omega)
         rcases pgAt_cases n l 0 with ⟨q1,_⟩|⟨z,q,q2,q3,q4,_⟩
         ·rw [pgLen_none (by omega)] at hf3
          rw [q1] at hpgc
          simp only at hf3
          have h3:=h1 (by rw [← hf3];decide)
          rw [g1 (by rw [h3, ← hf3];decide),h3, ← hf3]
          ((repeat' (first|(with_reducible refine ListD.nil ?_)|((with_reducible refine isListD ?_);first|(with_reducible refine ListD.step (by simp only [seval,go_sem,hn',rowI];rfl) ?_)|((with_reducible refine isCallV ?_);((with_reducible (refine ListD.dE (by simp only [seval,go_sem,hn',rowI];rfl) (by simp only [seval,go_sem,hn',rowI];rfl) ?_));refine CallW.c (hpgc) (by simp only [seval,go_sem,hn',rowI];rfl) ?_))|(with_reducible refine ListD.step (by simp (disch:=omega) only [seval,go_sem,cnd,intV,shV,convV,strV,hn',rowI];rfl) ?_))|(with_reducible refine isDrawn ?_;refine Tri.drawnD mix (by kernel_rfl) (by simp only [l_3,l_4];rfl) ?_)|(with_reducible refine isRet ?_;refine RetV (rs:=[.tmp 4]) (by with_unfolding_all rfl) rfl ?_<;>simp only [seval,go_sem]<;>(repeat' (with_reducible apply And.intro))<;>(try rfl))|(with_reducible (refine TVq (st:=[]) ?_))|simp only [seval,go_sem,hn',rowI]|(with_reducible refine oV_st (by simp (disch:=omega) only [seval,go_sem,cnd,intV,shV,convV,strV,hn',rowI];rfl) ?_)))<;>(try (fail)))
         ·rw [Nat.zero_add] at q4
          rw [pgLen_some q4 q2] at hf3
          rw [q4] at hpgc
          have hq':=get_map rowPg q2
          simp only at hf3
          (all_goals (try have hZ:=(And.intro hn' hq'));(repeat' (first|(with_reducible refine ListD.nil ?_)|((with_reducible refine isListD ?_);first|(with_reducible refine ListD.step (by simp only [seval,go_sem,rowI,rowPg,List.length_map,wr_def,hZ];rfl) ?_)|((with_reducible refine isCallV ?_);((with_reducible (refine ListD.dE (by simp only [seval,go_sem,rowI,rowPg,List.length_map,wr_def,hZ];rfl) (by simp only [seval,go_sem,rowI,rowPg,List.length_map,wr_def,hZ];rfl) ?_));refine CallW.c (hpgc) (by simp only [seval,go_sem,rowI,rowPg,List.length_map,wr_def,hZ];rfl) ?_))|(with_reducible refine ListD.step (by simp (disch:=omega) only [seval,go_sem,cnd,intV,shV,convV,strV,rowI,rowPg,List.length_map,wr_def,hZ];rfl) ?_))|(with_reducible refine isDrawn ?_;refine Tri.drawnD mix (by kernel_rfl) (by simp only [l_3,l_4];rfl) ?_)|(with_reducible (refine TVq (st:=[]) ?_))|simp only [seval,go_sem,rowI,rowPg,List.length_map,wr_def,hZ]|(with_reducible refine oV_st (by simp (disch:=omega) only [seval,go_sem,cnd,intV,shV,convV,strV,rowI,rowPg,List.length_map,wr_def,hZ];rfl) ?_)))<;>(try (fail));all_goals (try clear hZ))
          all_goals (try (refine isNextM ((m+1,wr (s+(q.data.length:Int)))) (by (refine leQL_spec ?_);(try simp only [seval,go_sem]);first|((repeat' (with_reducible apply And.intro))<;>first|rfl);done) (by (refine leQH_spec ?_);(try simp only [seval,go_sem]);done) ?_ ?_<;>(try (first|omega|(simp;omega)))))
          all_goals (try exact ⟨by simp only;omega,hf3⟩)
        ·rw [List.drop_eq_nil_of_le (by omega),sumE] at hf3
         by_cases hs:s=v.size
         ·rw [if_neg (by simp [hs])] at hf3
          have h3:=h2 hf3.symm
          ((repeat' (first|(with_reducible (refine TVq (st:=[]) ?_))|simp only [seval,go_sem]|(with_reducible refine oV_st (by simp (disch:=omega) only [seval,go_sem,cnd,intV,shV,convV,strV];rfl) ?_)))<;>(try (fail)))
          all_goals (try (refine isNextM (j+1) (by (refine leQL_spec ?_);(try simp only [seval,go_sem]);first|((repeat' (with_reducible apply And.intro))<;>first|rfl);done) (by (refine leQH_spec ?_);(try simp only [seval,go_sem]);done) ?_ ?_<;>(try (omega))))
          all_goals (try exact ⟨by omega,h3⟩)
         ·rw [if_pos hs] at hf3
          have h3:=h1 (by rw [← hf3];decide)
          rw [g1 (by rw [h3, ← hf3];decide),h3, ← hf3]
          ((repeat' (first|(with_reducible refine isRet ?_;refine RetV (rs:=[.tmp 4]) (by with_unfolding_all rfl) rfl ?_<;>simp only [seval,go_sem]<;>(repeat' (with_reducible apply And.intro))<;>(try rfl))|(with_reducible (refine TVq (st:=[]) ?_))|simp only [seval,go_sem]|(with_reducible refine oV_st (by simp (disch:=omega) only [seval,go_sem,cnd,intV,shV,convV,strV];rfl) ?_)))<;>(try (fail)))
      ·rw [List.drop_eq_nil_of_le (by omega),versD] at hf2
       have h3:=g2 hf2.symm
       ((repeat' (first|(with_reducible (refine TVq (st:=[]) ?_))|simp only [seval,go_sem,ho',rowOb]|(with_reducible refine oV_st (by simp (disch:=omega) only [seval,go_sem,cnd,intV,shV,convV,strV,ho',rowOb];rfl) ?_)))<;>(try (fail)))
       all_goals (try (refine isNextM (i+1) (by (refine leQL_spec ?_);(try simp only [seval,go_sem]);first|((repeat' (with_reducible apply And.intro))<;>first|rfl);done) (by (refine leQH_spec ?_);(try simp only [seval,go_sem]);done) ?_ ?_<;>(try (omega))))
       all_goals (try exact ⟨by omega,h3⟩)
    ·rw [List.drop_eq_nil_of_le (by omega),dataE] at hfo
     rw [← hfo]
     ((repeat' (first|(with_reducible refine isRet ?_;refine RetV (rs:=[.tmp 4]) (by with_unfolding_all rfl) rfl ?_<;>simp only [seval,go_sem]<;>(repeat' (with_reducible apply And.intro))<;>(try rfl))|(with_reducible (refine TVq (st:=[]) ?_))|simp only [seval,go_sem]|(with_reducible refine oV_st (by simp (disch:=omega) only [seval,go_sem,cnd,intV,shV,convV,strV];rfl) ?_)))<;>(try (fail)))
end Go.Proofs.Ytmgodadmafcliaa
