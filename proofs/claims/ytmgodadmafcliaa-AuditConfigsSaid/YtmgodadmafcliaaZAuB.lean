/- Audit: the walks of the checks of objects and of pages, of the program and of the reference. -/
import Derived.Test.YtmgodadmafcliaaZAuA
import Derived.Test.YtmgodadmafcliaaZAuQ
set_option linter.unusedSimpArgs false
set_option linter.unusedVariables false
namespace Go.Proofs.Ytmgodadmafcliaa
open Go.RowKit Go.Avm
theorem ckobjs_cases {psz com:Int} {prev:Option Int} {o:Ob}:
  (o.id<1∧obE psz com prev o=5)∨(1≤o.id∧prev.any (fun p=>decide (o.id≤p))=true∧obE psz com prev o=19)∨
   (1≤o.id∧prev.any (fun p=>decide (o.id≤p))=false∧((o.vers.length=0∧obE psz com prev o=18)∨(o.vers.length≠0∧((validV none o.vers≠0∧obE psz com prev o=validV none o.vers)∨
    (validV none o.vers=0∧((lateV com o.vers=true∧obE psz com prev o=5)∨(lateV com o.vers=false∧((fitV psz o.vers=false∧obE psz com prev o=18)∨(fitV psz o.vers=true∧obE psz com prev o=0))))))))):=by
 unfold obE
 by_cases h1:o.id<1
 ·exact .inl ⟨h1,if_pos h1⟩
 rw [if_neg h1]
 cases h2:prev.any (fun p=>decide (o.id≤p)) with
 | true=>exact .inr (.inl ⟨by omega,rfl,if_pos rfl⟩)
 | false=>
   rw [if_neg (by decide)]
   refine .inr (.inr ⟨by omega,rfl,?_⟩)
   by_cases h3:(o.vers.length:Int)=0
   ·exact .inl ⟨by omega,if_pos h3⟩
   rw [if_neg h3]
   refine .inr ⟨by omega,?_⟩
   by_cases h4:validV none o.vers≠0
   ·exact .inl ⟨h4,if_pos h4⟩
   rw [if_neg h4]
   refine .inr ⟨by simpa using h4,?_⟩
   cases h5:lateV com o.vers with
   | true=>exact .inl ⟨rfl,if_pos rfl⟩
   | false=>
     rw [if_neg (by decide)]
     refine .inr ⟨rfl,?_⟩
     cases h6:fitV psz o.vers with
     | false=>exact .inl ⟨rfl,if_pos rfl⟩
     | true=>exact .inr ⟨rfl,if_neg (by decide)⟩
def prevI (l:List Int) (k:Nat):Option Int:=if k=0 then none else l[k-1]?
theorem prevI_succ {l:List Int} {k:Nat} {x:Int} (h:l[k]? = some x):prevI l (k+1)=some x:=by simp [prevI,h]
theorem prevI_pos {l:List Int} {k:Nat} {x:Int} (h:0<k) (hu:l[k-1]? = some x):prevI l k=some x:=by simp [prevI,hu];omega
theorem objsE_step {psz com:Int} {l:List Ob} {k:Nat} {o:Ob} (ho:l[k]? = some o) (hf:objsE psz com (prevI (l.map (·.id)) k) (l.drop k)=objsE psz com none l):
  (obE psz com (prevI (l.map (·.id)) k) o≠0→objsE psz com none l=obE psz com (prevI (l.map (·.id)) k) o)∧(obE psz com (prevI (l.map (·.id)) k) o=0→objsE psz com (prevI (l.map (·.id)) (k+1)) (l.drop (k+1))=objsE psz com none l):=by
 rw [drop_get ho,objsE] at hf
 refine ⟨fun h=>by rw [if_pos h] at hf;exact hf.symm,fun h=>?_⟩
 rw [if_neg (by simp [h])] at hf
 rw [prevI_succ (by rw [List.getElem?_map,ho];rfl)]
 exact hf
/-- Where a list of objects has come to: the one ahead of it. -/
theorem prevI_cases (l:List Ob) (k:Nat) (hk:k≤l.length):(k=0∧prevI (l.map (·.id)) k=none)∨(0<k∧ ∃ u,l[k-1]? = some u∧prevI (l.map (·.id)) k=some u.id):=by
 by_cases h:k=0
 ·exact .inl ⟨h,by simp [prevI,h]⟩
 ·obtain ⟨u,hu⟩:=get_lt (show k-1<l.length by omega)
  exact .inr ⟨by omega,u,hu,prevI_pos (by omega) (by rw [List.getElem?_map,hu];rfl)⟩
set_option maxRecDepth 100000 in set_option maxHeartbeats 12800000 in
theorem ckobjs_calls {a b c e p f g com:Int} {bd pn pg:List (List D)} {l:List Ob} (hl:l.length≤1000) (hv: ∀ o∈l,o.vers.length≤1000∧ ∀ v∈o.vers,v.size≤9223372036854775807∧v.pages.length≤9223372036854775807) (he:8≤e∧e≤1024) (hcom:com≤9223372036854775807):ACalls Try.prog 39 [.agg [.sc (.int .i64 a),.sc (.int .i64 b),.sc (.int .i64 c),.sc (.int .i64 e),.sc (.int .i64 p),.sc (.int .i64 f),.sc (.int .i64 g)],.agg [.sc (.int .i64 com),.sl 2 (l.map rowOb),.sl 4 bd,.sl 2 pn,.sl 3 pg]] (.sc (.int .i64 (objsE e com none l))) []:=by
 refine of_tri [] [2,3,6,9,11,48,63,69,84] Try.func39 rfl call39 rfl (by decide) (by decide) rfl rfl Try.ntmps39 (by simp (disch:=omega) only [seval,go_sem,cnd,intV,shV,convV,strV,List.replicate,l_2,l_1];rfl) (by simp (disch:=omega) only [seval,go_sem,cnd,intV,shV,convV,strV,l_2,l_1];rfl) ?_
 ((repeat' (first|(with_reducible (refine TVq (st:=[39]) ?_))|simp only [seval,go_sem]))<;>(try (fail)))
 all_goals (with_reducible refine Tri.loopU (fun (k:Nat)=>[(17,.sc (.int .i64 k)),(4,.any),(5,.any),(6,.any),(7,.any),(9,.any),(11,.any),(12,.any),(13,.any),(18,.any),(19,.any),(20,.any),(21,.any),(22,.any),(23,.any),(24,.any),(25,.any),(26,.any),(27,.any),(28,.any),(29,.any),(30,.any),(31,.any),(32,.any),(33,.any),(34,.any),(35,.any),(36,.any),(37,.any),(38,.any),(39,.any),(40,.any),(41,.any),(42,.any),(43,.any),(44,.any),(45,.any),(46,.any),(47,.any),(48,.any),(49,.any),(50,.any),(51,.any),(52,.any),(53,.any),(54,.any),(55,.any),(56,.any),(57,.any),(58,.any),(59,.any),(60,.any),(61,.any),(62,.any),(63,.any),(64,.any),(65,.any),(66,.any),(67,.any),(68,.any),(69,.any),(70,.any),(71,.any),(72,.any),(73,.any),(74,.any),(75,.any),(76,.any),(77,.any),(78,.any),(79,.any),(80,.any),(81,.any),(82,.any),(83,.any),(84,.any),(85,.any),(86,.any),(87,.any),(88,.any),(89,.any),(90,.any),(91,.any),(92,.any),(93,.any),(94,.any),(95,.any),(96,.any),(97,.any)]) (fun (k:Nat)=>[(6,.dead),(9,.dead),(11,.dead),(48,.dead),(63,.dead),(69,.dead),(84,.dead)]) (fun (k:Nat)=>k≤l.length∧objsE e com (prevI (l.map (·.id)) k) (l.drop k)=objsE e com none l) (fun (k:Nat)=>l.length-k) (0) (⟨Nat.zero_le _,rfl⟩) (by intro _;simp (disch:=omega) only [seval,go_sem,cnd,intV,shV,convV,strV];rfl) (by intro _;simp (disch:=omega) only [seval,go_sem,cnd,intV,shV,convV,strV];rfl) (by (refine leQL_spec ?_);(try simp only [seval,go_sem]);done) (by (refine leQH_spec ?_);(try simp only [seval,go_sem]);done) (fun k hI=>?_))
 all_goals obtain ⟨hk,hf⟩:=hI
 by_cases hlt:k<l.length
 ·obtain ⟨o,ho⟩:=get_lt hlt
  have ho':=get_map rowOb ho
  obtain ⟨hvl,hvs⟩:=hv o (List.mem_of_getElem? ho)
  obtain ⟨g1,g2⟩:=objsE_step ho hf
  rcases ckobjs_cases (psz:=e) (com:=com) (prev:=prevI (l.map (·.id)) k) (o:=o) with ⟨c1,e1⟩|⟨c1,c2,e1⟩|⟨c1,c2,⟨c3,e1⟩|⟨c3,⟨c4,e1⟩|⟨c4,c5⟩⟩⟩
  ·rw [g1 (by rw [e1];decide),e1]
   ((repeat' (first|(with_reducible refine isRet ?_;refine RetV (rs:=[.tmp 4]) (by with_unfolding_all rfl) rfl ?_<;>simp only [seval,go_sem]<;>(repeat' (with_reducible apply And.intro))<;>(try rfl))|(with_reducible (refine TVq (st:=[39]) ?_))|simp only [seval,go_sem,ho',rowOb]|(with_reducible refine oV_st (by simp (disch:=omega) only [seval,go_sem,cnd,intV,shV,convV,strV,ho',rowOb];rfl) ?_)))<;>(try (fail)))
  ·rcases prevI_cases l k hk with ⟨q1,q2⟩|⟨q1,u,q2,q3⟩
   ·rw [q2] at c2;cases c2
   ·have q2':=get_map rowOb q2
    rw [q3,Option.any_some,decide_eq_true_eq] at c2
    rw [g1 (by rw [e1];decide),e1]
    ((repeat' (first|(with_reducible refine ListD.nil ?_)|((with_reducible refine isListD ?_);(with_reducible first|refine ListD.step (by simp only [seval,go_sem,ho',q2',rowOb];rfl) ?_|refine ListD.step (by simp (disch:=omega) only [seval,go_sem,cnd,intV,shV,convV,strV,ho',q2',rowOb];rfl) ?_))|(with_reducible refine isDrawn ?_;refine Tri.drawnD mix (by kernel_rfl) (by simp only [l_3,l_4];rfl) ?_)|(with_reducible refine isRet ?_;refine RetV (rs:=[.tmp 4]) (by with_unfolding_all rfl) rfl ?_<;>simp only [seval,go_sem]<;>(repeat' (with_reducible apply And.intro))<;>(try rfl))|(with_reducible (refine TVq (st:=[39]) ?_))|simp only [seval,go_sem,ho',q2',rowOb]|(with_reducible refine oV_st (by simp (disch:=omega) only [seval,go_sem,cnd,intV,shV,convV,strV,ho',q2',rowOb];rfl) ?_)))<;>(try (fail)))
  ·rw [g1 (by rw [e1];decide),e1]
   rcases prevI_cases l k hk with ⟨q1,q2⟩|⟨q1,u,q2,q3⟩
   ·subst q1
    ((repeat' (first|(with_reducible refine ListD.nil ?_)|((with_reducible refine isListD ?_);(with_reducible first|refine ListD.step (by simp only [seval,go_sem,ho',c3,rowOb];rfl) ?_|refine ListD.step (by simp (disch:=omega) only [seval,go_sem,cnd,intV,shV,convV,strV,ho',c3,rowOb];rfl) ?_))|(with_reducible refine isDrawn ?_;refine Tri.drawnD mix (by kernel_rfl) (by simp only [l_3,l_4];rfl) ?_)|(with_reducible refine isRet ?_;refine RetV (rs:=[.tmp 4]) (by with_unfolding_all rfl) rfl ?_<;>simp only [seval,go_sem]<;>(repeat' (with_reducible apply And.intro))<;>(try rfl))|(with_reducible (refine TVq (st:=[39]) ?_))|simp only [seval,go_sem,ho',c3,rowOb]|(with_reducible refine oV_st (by simp (disch:=omega) only [seval,go_sem,cnd,intV,shV,convV,strV,ho',c3,rowOb];rfl) ?_)))<;>(try (fail)))
   ·have q2':=get_map rowOb q2
    rw [q3,Option.any_some,decide_eq_false_iff_not] at c2
    ((repeat' (first|(with_reducible refine ListD.nil ?_)|((with_reducible refine isListD ?_);(with_reducible first|refine ListD.step (by simp only [seval,go_sem,ho',q2',c3,rowOb];rfl) ?_|refine ListD.step (by simp (disch:=omega) only [seval,go_sem,cnd,intV,shV,convV,strV,ho',q2',c3,rowOb];rfl) ?_))|(with_reducible refine isDrawn ?_;refine Tri.drawnD mix (by kernel_rfl) (by simp only [l_3,l_4];rfl) ?_)|(with_reducible refine isRet ?_;refine RetV (rs:=[.tmp 4]) (by with_unfolding_all rfl) rfl ?_<;>simp only [seval,go_sem]<;>(repeat' (with_reducible apply And.intro))<;>(try rfl))|(with_reducible (refine TVq (st:=[39]) ?_))|simp only [seval,go_sem,ho',q2',c3,rowOb]|(with_reducible refine oV_st (by simp (disch:=omega) only [seval,go_sem,cnd,intV,shV,convV,strV,ho',q2',c3,rowOb];rfl) ?_)))<;>(try (fail)))
  ·rw [g1 (by rw [e1];exact c4),e1]
   rcases prevI_cases l k hk with ⟨q1,q2⟩|⟨q1,u,q2,q3⟩
   ·subst q1
    ((repeat' (first|((with_reducible refine isTriD ?_);((with_reducible refine isCallD ?_);((with_reducible refine LVcall (st:=[39]) ?_);simp only [seval,go_sem,ho',rowOb];(refine CallL.c (valid_calls ?_) ?_))))|(with_reducible refine ListD.nil ?_)|((with_reducible refine isListD ?_);(with_reducible first|refine ListD.step (by simp only [seval,go_sem,ho',rowOb];rfl) ?_|refine ListD.step (by simp (disch:=omega) only [seval,go_sem,cnd,intV,shV,convV,strV,ho',rowOb];rfl) ?_))|(with_reducible refine isDrawn ?_;refine Tri.drawnD mix (by kernel_rfl) (by simp only [l_3,l_4];rfl) ?_)|(with_reducible refine isRet ?_;refine RetV (rs:=[.tmp 4]) (by with_unfolding_all rfl) rfl ?_<;>simp only [seval,go_sem]<;>(repeat' (with_reducible apply And.intro))<;>(try rfl))|(with_reducible (refine TVq (st:=[39]) ?_))|simp only [seval,go_sem,ho',rowOb]|(with_reducible refine oV_st (by simp (disch:=omega) only [seval,go_sem,cnd,intV,shV,convV,strV,ho',rowOb];rfl) ?_)))<;>(try (((with_reducible show (_:Nat)≤_);omega))))
   ·have q2':=get_map rowOb q2
    rw [q3,Option.any_some,decide_eq_false_iff_not] at c2
    ((repeat' (first|((with_reducible refine isTriD ?_);((with_reducible refine isCallD ?_);((with_reducible refine LVcall (st:=[39]) ?_);simp only [seval,go_sem,ho',q2',rowOb];(refine CallL.c (valid_calls ?_) ?_))))|(with_reducible refine ListD.nil ?_)|((with_reducible refine isListD ?_);(with_reducible first|refine ListD.step (by simp only [seval,go_sem,ho',q2',rowOb];rfl) ?_|refine ListD.step (by simp (disch:=omega) only [seval,go_sem,cnd,intV,shV,convV,strV,ho',q2',rowOb];rfl) ?_))|(with_reducible refine isDrawn ?_;refine Tri.drawnD mix (by kernel_rfl) (by simp only [l_3,l_4];rfl) ?_)|(with_reducible refine isRet ?_;refine RetV (rs:=[.tmp 4]) (by with_unfolding_all rfl) rfl ?_<;>simp only [seval,go_sem]<;>(repeat' (with_reducible apply And.intro))<;>(try rfl))|(with_reducible (refine TVq (st:=[39]) ?_))|simp only [seval,go_sem,ho',q2',rowOb]|(with_reducible refine oV_st (by simp (disch:=omega) only [seval,go_sem,cnd,intV,shV,convV,strV,ho',q2',rowOb];rfl) ?_)))<;>(try (((with_reducible show (_:Nat)≤_);omega))))
  ·have hgo: ∀ {R:Prop},(lateV com o.vers=true→objsE e com none l=5→R)→(lateV com o.vers=false→fitV e o.vers=false→objsE e com none l=18→R)→(lateV com o.vers=false→fitV e o.vers=true→objsE e com (prevI (l.map (·.id)) (k+1)) (l.drop (k+1))=objsE e com none l→R)→R:=by
    intro R r1 r2 r3
    rcases c5 with ⟨c5,e1⟩|⟨c5,⟨c6,e1⟩|⟨c6,e1⟩⟩
    ·exact r1 c5 (by rw [g1 (by rw [e1];decide),e1])
    ·exact r2 c5 c6 (by rw [g1 (by rw [e1];decide),e1])
    ·exact r3 c5 c6 (g2 e1)
   have hok: ∀ v∈o.vers,1≤v.from_∧0≤v.to∧0≤v.size:=validV_rng o.vers none c4
   have hst: ∀ {Q:Prop},(k=0→Q)→(∀ u,0<k→l[k-1]? = some u→ ¬ o.id≤u.id→Q)→Q:=by
    intro Q r1 r2
    rcases prevI_cases l k hk with ⟨q1,q2⟩|⟨q1,u,q2,q3⟩
    ·exact r1 q1
    ·rw [q3,Option.any_some,decide_eq_false_iff_not] at c2
     exact r2 u q1 q2 c2
   refine hst (fun q1=>?_) (fun u q1 q2 c2'=>?_)
   ((repeat' (first|((with_reducible refine isTriD ?_);((with_reducible refine isCallD ?_);((with_reducible refine LVcall (st:=[39]) ?_);simp only [seval,go_sem,ho',c3,c4,rowOb];(refine CallL.c (valid_calls ?_) ?_))))|(with_reducible refine ListD.nil ?_)|((with_reducible refine isListD ?_);(with_reducible first|refine ListD.step (by simp only [seval,go_sem,ho',c3,c4,rowOb];rfl) ?_|refine ListD.step (by simp (disch:=omega) only [seval,go_sem,cnd,intV,shV,convV,strV,ho',c3,c4,rowOb];rfl) ?_))|(with_reducible refine isDrawn ?_;refine Tri.drawnD mix (by kernel_rfl) (by simp only [l_3,l_4];rfl) ?_)|(with_reducible (refine TVq (st:=[39]) ?_))|simp only [seval,go_sem,ho',c3,c4,rowOb]|(with_reducible refine oV_st (by simp (disch:=omega) only [seval,go_sem,cnd,intV,shV,convV,strV,ho',c3,c4,rowOb];rfl) ?_)))<;>(try (((with_reducible show (_:Nat)≤_);omega))))
   rotate_left
   (have q2':=get_map rowOb q2;((repeat' (first|((with_reducible refine isTriD ?_);((with_reducible refine isCallD ?_);((with_reducible refine LVcall (st:=[39]) ?_);simp only [seval,go_sem,ho',q2',c3,c4,rowOb];(refine CallL.c (valid_calls ?_) ?_))))|(with_reducible refine ListD.nil ?_)|((with_reducible refine isListD ?_);(with_reducible first|refine ListD.step (by simp only [seval,go_sem,ho',q2',c3,c4,rowOb];rfl) ?_|refine ListD.step (by simp (disch:=omega) only [seval,go_sem,cnd,intV,shV,convV,strV,ho',q2',c3,c4,rowOb];rfl) ?_))|(with_reducible refine isDrawn ?_;refine Tri.drawnD mix (by kernel_rfl) (by simp only [l_3,l_4];rfl) ?_)|(with_reducible (refine TVq (st:=[39]) ?_))|simp only [seval,go_sem,ho',q2',c3,c4,rowOb]|(with_reducible refine oV_st (by simp (disch:=omega) only [seval,go_sem,cnd,intV,shV,convV,strV,ho',q2',c3,c4,rowOb];rfl) ?_)))<;>(try (((with_reducible show (_:Nat)≤_);omega)))))
   all_goals (with_reducible refine Tri.loopU (fun (j:Nat)=>[(55,.sc (.int .i64 j)),(4,.any),(9,.any),(56,.any),(57,.any),(58,.any),(59,.any),(60,.any),(61,.any),(62,.any),(63,.any),(64,.any),(65,.any),(66,.any),(67,.any),(68,.any),(69,.any),(70,.any),(71,.any)]) (fun (j:Nat)=>[(9,.dead),(63,.dead),(69,.dead)]) (fun (j:Nat)=>j≤o.vers.length∧lateV com (o.vers.drop j)=lateV com o.vers) (fun (j:Nat)=>o.vers.length-j) (0) (⟨Nat.zero_le _,rfl⟩) (by intro _;simp (disch:=omega) only [seval,go_sem,cnd,intV,shV,convV,strV];rfl) (by intro _;simp (disch:=omega) only [seval,go_sem,cnd,intV,shV,convV,strV];rfl) (by (refine leQL_spec ?_);(try simp only [seval,go_sem]);done) (by (refine leQH_spec ?_);(try simp only [seval,go_sem]);done) (fun j hI=>?_))
   all_goals
    obtain ⟨hj,hlv⟩:=hI
    by_cases hlt2:j<o.vers.length
    ·obtain ⟨v,hvj⟩:=get_lt hlt2
     have hvj':=get_map rowV hvj
     obtain ⟨r1,r2,r3⟩:=hok v (List.mem_of_getElem? hvj)
     have i1:=inR_not (n:=v.from_) (m:=com) (by omega)
     have i2:=inR_not (n:=v.to) (m:=com) (by omega)
     obtain ⟨h1,h2⟩:=any_step hvj hlv
     by_cases d1:com<v.from_
     ·have hlate:lateV com o.vers=true:=h1 (by simp [d1])
      rw [decide_eq_true d1,Bool.not_true] at i1
      refine hgo (fun _ e5=>?_) (fun e5 _ _=>absurd (hlate.symm.trans e5) (by decide)) (fun e5 _ _=>absurd (hlate.symm.trans e5) (by decide))
      rw [e5]
      ((repeat' (first|((with_reducible refine isTriD ?_);((with_reducible refine isCallD ?_);((with_reducible refine LVcall (st:=[39]) ?_);simp only [seval,go_sem,hvj',rowV,i1];(refine CallL.c (outside_calls) ?_))))|(with_reducible refine isRet ?_;refine RetV (rs:=[.tmp 4]) (by with_unfolding_all rfl) rfl ?_<;>simp only [seval,go_sem]<;>(repeat' (with_reducible apply And.intro))<;>(try rfl))|(with_reducible (refine TVq (st:=[39]) ?_))|simp only [seval,go_sem,hvj',rowV,i1]|(with_reducible refine oV_st (by simp (disch:=omega) only [seval,go_sem,cnd,intV,shV,convV,strV,hvj',rowV,i1];rfl) ?_)))<;>(try (fail)))
     ·rw [decide_eq_false d1,Bool.not_false] at i1
      by_cases d2:com<v.to
      ·have hlate:lateV com o.vers=true:=h1 (by simp [d2])
       rw [decide_eq_true d2,Bool.not_true] at i2
       refine hgo (fun _ e5=>?_) (fun e5 _ _=>absurd (hlate.symm.trans e5) (by decide)) (fun e5 _ _=>absurd (hlate.symm.trans e5) (by decide))
       rw [e5]
       ((repeat' (first|((with_reducible refine isTriD ?_);((with_reducible refine isCallD ?_);((with_reducible refine LVcall (st:=[39]) ?_);simp only [seval,go_sem,hvj',rowV,i1,i2];(refine CallL.c (outside_calls) ?_))))|(with_reducible refine isRet ?_;refine RetV (rs:=[.tmp 4]) (by with_unfolding_all rfl) rfl ?_<;>simp only [seval,go_sem]<;>(repeat' (with_reducible apply And.intro))<;>(try rfl))|(with_reducible (refine TVq (st:=[39]) ?_))|simp only [seval,go_sem,hvj',rowV,i1,i2]|(with_reducible refine oV_st (by simp (disch:=omega) only [seval,go_sem,cnd,intV,shV,convV,strV,hvj',rowV,i1,i2];rfl) ?_)))<;>(try (fail)))
      ·rw [decide_eq_false d2,Bool.not_false] at i2
       have h3:=h2 (by simp [d1,d2])
       ((repeat' (first|((with_reducible refine isTriD ?_);((with_reducible refine isCallD ?_);((with_reducible refine LVcall (st:=[39]) ?_);simp only [seval,go_sem,hvj',rowV,i1,i2];(refine CallL.c (outside_calls) ?_))))|(with_reducible (refine TVq (st:=[39]) ?_))|simp only [seval,go_sem,hvj',rowV,i1,i2]|(with_reducible refine oV_st (by simp (disch:=omega) only [seval,go_sem,cnd,intV,shV,convV,strV,hvj',rowV,i1,i2];rfl) ?_)))<;>(try (fail)))
       all_goals (try (refine isNextM (j+1) (by (refine leQL_spec ?_);(try simp only [seval,go_sem]);first|((repeat' (with_reducible apply And.intro))<;>first|rfl);done) (by (refine leQH_spec ?_);(try simp only [seval,go_sem]);done) ?_ ?_<;>(try (omega))))
       all_goals (try exact ⟨by omega,h3⟩)
    ·rw [List.drop_eq_nil_of_le (by omega)] at hlv
     have hlate:lateV com o.vers=false:=by rw [← hlv];rfl
     ((repeat' (first|(with_reducible (refine TVq (st:=[39]) ?_))|simp only [seval,go_sem]|(with_reducible refine oV_st (by simp (disch:=omega) only [seval,go_sem,cnd,intV,shV,convV,strV];rfl) ?_)))<;>(try (fail)))
     all_goals (with_reducible refine Tri.loopU (fun (i:Nat)=>[(75,.sc (.int .i64 i)),(4,.any),(11,.any),(12,.any),(13,.any),(76,.any),(77,.any),(78,.any),(79,.any),(80,.any),(81,.any),(82,.any),(83,.any),(84,.any),(85,.any),(86,.any),(87,.any),(88,.any),(89,.any),(90,.any),(91,.any),(92,.any),(93,.any),(94,.any),(95,.any),(96,.any)]) (fun (i:Nat)=>[(11,.dead),(84,.dead)]) (fun (i:Nat)=>i≤o.vers.length∧fitV e (o.vers.drop i)=fitV e o.vers) (fun (i:Nat)=>o.vers.length-i) (0) (⟨Nat.zero_le _,rfl⟩) (by intro _;simp (disch:=omega) only [seval,go_sem,cnd,intV,shV,convV,strV];rfl) (by intro _;simp (disch:=omega) only [seval,go_sem,cnd,intV,shV,convV,strV];rfl) (by (refine leQL_spec ?_);(try simp only [seval,go_sem]);done) (by (refine leQH_spec ?_);(try simp only [seval,go_sem]);done) (fun i hI=>?_))
     all_goals
      obtain ⟨hi,hft⟩:=hI
      by_cases hlt3:i<o.vers.length
      ·obtain ⟨v,hvi⟩:=get_lt hlt3
       have hvi':=get_map rowV hvi
       obtain ⟨_,_,r3⟩:=hok v (List.mem_of_getElem? hvi)
       obtain ⟨r4,r5⟩:=hvs v (List.mem_of_getElem? hvi)
       obtain ⟨h1,h2⟩:=all_step hvi hft
       have hcn:=count_calls r3 r4 he
       by_cases d1:cntE v.size e=(v.pages.length:Int)
       ·have h3:=h2 (by simp [d1])
        ((repeat' (first|((with_reducible refine isTriD ?_);((with_reducible refine isCallD ?_);((with_reducible refine LVcall (st:=[39]) ?_);simp only [seval,go_sem,hvi',rowV,d1];(refine CallL.c (hcn) ?_))))|(with_reducible (refine TVq (st:=[39]) ?_))|simp only [seval,go_sem,hvi',rowV,d1]|(with_reducible refine oV_st (by simp (disch:=omega) only [seval,go_sem,cnd,intV,shV,convV,strV,hvi',rowV,d1];rfl) ?_)))<;>(try (fail)))
        all_goals (try (refine isNextM (i+1) (by (refine leQL_spec ?_);(try simp only [seval,go_sem]);first|((repeat' (with_reducible apply And.intro))<;>first|rfl);done) (by (refine leQH_spec ?_);(try simp only [seval,go_sem]);done) ?_ ?_<;>(try (omega))))
        all_goals (try exact ⟨by omega,h3⟩)
       ·have hnf:fitV e o.vers=false:=h1 (by simp [d1])
        refine hgo (fun e5 _=>absurd (hlate.symm.trans e5) (by decide)) (fun _ _ e5=>?_) (fun _ e5 _=>absurd (hnf.symm.trans e5) (by decide))
        rw [e5]
        ((repeat' (first|((with_reducible refine isTriD ?_);((with_reducible refine isCallD ?_);((with_reducible refine LVcall (st:=[39]) ?_);simp only [seval,go_sem,hvi',rowV];(refine CallL.c (hcn) ?_))))|(with_reducible refine isRet ?_;refine RetV (rs:=[.tmp 4]) (by with_unfolding_all rfl) rfl ?_<;>simp only [seval,go_sem]<;>(repeat' (with_reducible apply And.intro))<;>(try rfl))|(with_reducible (refine TVq (st:=[39]) ?_))|simp only [seval,go_sem,hvi',rowV]|(with_reducible refine oV_st (by simp (disch:=omega) only [seval,go_sem,cnd,intV,shV,convV,strV,hvi',rowV];rfl) ?_)))<;>(try (fail)))
      ·rw [List.drop_eq_nil_of_le (by omega)] at hft
       have hfit:fitV e o.vers=true:=by rw [← hft];rfl
       refine hgo (fun e5 _=>absurd (hlate.symm.trans e5) (by decide)) (fun _ e5 _=>absurd (hfit.symm.trans e5) (by decide)) (fun _ _ e5=>?_)
       ((repeat' (first|(with_reducible (refine TVq (st:=[39]) ?_))|simp only [seval,go_sem]|(with_reducible refine oV_st (by simp (disch:=omega) only [seval,go_sem,cnd,intV,shV,convV,strV];rfl) ?_)))<;>(try (fail)))
       all_goals (try (refine isNextM (k+1) (by (refine leQL_spec ?_);(try simp only [seval,go_sem]);first|((repeat' (with_reducible apply And.intro))<;>first|rfl);done) (by (refine leQH_spec ?_);(try simp only [seval,go_sem]);done) ?_ ?_<;>(try (omega))))
       all_goals (try exact ⟨by omega,e5⟩)
 ·rw [List.drop_eq_nil_of_le (by omega),objsE] at hf
  rw [← hf]
  ((repeat' (first|(with_reducible refine isRet ?_;refine RetV (rs:=[.tmp 4]) (by with_unfolding_all rfl) rfl ?_<;>simp only [seval,go_sem]<;>(repeat' (with_reducible apply And.intro))<;>(try rfl))|(with_reducible (refine TVq (st:=[39]) ?_))|simp only [seval,go_sem]|(with_reducible refine oV_st (by simp (disch:=omega) only [seval,go_sem,cnd,intV,shV,convV,strV];rfl) ?_)))<;>(try (fail)))
set_option maxRecDepth 100000 in set_option maxHeartbeats 12800000 in
theorem rckobjs_calls {a b c e p f g com:Int} {bd pn pg:List (List D)} {l:List Ob} (hl:l.length≤1000) (hv: ∀ o∈l,o.vers.length≤1000∧ ∀ v∈o.vers,v.size≤9223372036854775807∧v.pages.length≤9223372036854775807) (he:8≤e∧e≤1024) (hcom:com≤9223372036854775807):ACalls Try.prog 49 [.agg [.sc (.int .i64 a),.sc (.int .i64 b),.sc (.int .i64 c),.sc (.int .i64 e),.sc (.int .i64 p),.sc (.int .i64 f),.sc (.int .i64 g)],.agg [.sc (.int .i64 com),.sl 2 (l.map rowOb),.sl 4 bd,.sl 2 pn,.sl 3 pg]] (.sc (.int .i64 (objsE e com none l))) []:=by
 refine of_tri [] [2,3,6,47,94] Try.func49 rfl call49 rfl (by decide) (by decide) rfl rfl Try.ntmps49 (by simp (disch:=omega) only [seval,go_sem,cnd,intV,shV,convV,strV,List.replicate,l_2,l_1];rfl) (by simp (disch:=omega) only [seval,go_sem,cnd,intV,shV,convV,strV,l_2,l_1];rfl) ?_
 ((repeat' (first|(with_reducible (refine TVq (st:=[]) ?_))|simp only [seval,go_sem]))<;>(try (fail)))
 all_goals (with_reducible refine Tri.loopU (fun (k:Nat)=>[(5,.sc (.int .i64 k)),(4,.any),(6,.any),(7,.any),(8,.any),(9,.any),(10,.any),(11,.any),(12,.any),(13,.any),(14,.any),(15,.any),(16,.any),(17,.any),(18,.any),(19,.any),(20,.any),(21,.any),(22,.any),(23,.any),(24,.any),(25,.any),(26,.any),(27,.any),(28,.any),(29,.any),(30,.any),(31,.any),(32,.any),(33,.any),(34,.any),(35,.any),(36,.any),(37,.any),(38,.any),(39,.any),(40,.any),(41,.any),(42,.any),(43,.any),(44,.any),(45,.any),(46,.any),(47,.any),(48,.any),(49,.any),(50,.any),(51,.any),(52,.any),(53,.any),(54,.any),(55,.any),(56,.any),(57,.any),(58,.any),(59,.any),(60,.any),(61,.any),(62,.any),(63,.any),(64,.any),(65,.any),(66,.any),(67,.any),(68,.any),(69,.any),(70,.any),(71,.any),(72,.any),(73,.any),(74,.any),(75,.any),(76,.any),(77,.any),(78,.any),(79,.any),(80,.any),(81,.any),(82,.any),(83,.any),(84,.any),(85,.any),(86,.any),(87,.any),(88,.any),(89,.any),(90,.any),(91,.any),(92,.any),(93,.any),(94,.any),(95,.any),(96,.any),(97,.any),(98,.any),(99,.any),(100,.any),(101,.any),(102,.any),(103,.any),(104,.any),(105,.any)]) (fun (k:Nat)=>[(6,.dead),(47,.dead),(94,.dead)]) (fun (k:Nat)=>k≤l.length∧objsE e com (prevI (l.map (·.id)) k) (l.drop k)=objsE e com none l) (fun (k:Nat)=>l.length-k) (0) (⟨Nat.zero_le _,rfl⟩) (by intro _;simp (disch:=omega) only [seval,go_sem,cnd,intV,shV,convV,strV];rfl) (by intro _;simp (disch:=omega) only [seval,go_sem,cnd,intV,shV,convV,strV];rfl) (by (refine leQL_spec ?_);(try simp only [seval,go_sem]);done) (by (refine leQH_spec ?_);(try simp only [seval,go_sem]);done) (fun k hI=>?_))
 all_goals obtain ⟨hk,hf⟩:=hI
 by_cases hlt:k<l.length
 ·obtain ⟨o,ho⟩:=get_lt hlt
  have ho':=get_map rowOb ho
  obtain ⟨hvl,hvs⟩:=hv o (List.mem_of_getElem? ho)
  obtain ⟨g1,g2⟩:=objsE_step ho hf
  rcases ckobjs_cases (psz:=e) (com:=com) (prev:=prevI (l.map (·.id)) k) (o:=o) with ⟨c1,e1⟩|⟨c1,c2,e1⟩|⟨c1,c2,⟨c3,e1⟩|⟨c3,⟨c4,e1⟩|⟨c4,c5⟩⟩⟩
  ·rw [g1 (by rw [e1];decide),e1]
   ((repeat' (first|(with_reducible refine isRet ?_;refine RetV (rs:=[.tmp 4]) (by with_unfolding_all rfl) rfl ?_<;>simp only [seval,go_sem]<;>(repeat' (with_reducible apply And.intro))<;>(try rfl))|(with_reducible (refine TVq (st:=[]) ?_))|simp only [seval,go_sem,ho',rowOb]|(with_reducible refine oV_st (by simp (disch:=omega) only [seval,go_sem,cnd,intV,shV,convV,strV,ho',rowOb];rfl) ?_)))<;>(try (fail)))
  ·rcases prevI_cases l k hk with ⟨q1,q2⟩|⟨q1,u,q2,q3⟩
   ·rw [q2] at c2;cases c2
   ·have q2':=get_map rowOb q2
    rw [q3,Option.any_some,decide_eq_true_eq] at c2
    rw [g1 (by rw [e1];decide),e1]
    ((repeat' (first|(with_reducible refine ListD.nil ?_)|((with_reducible refine isListD ?_);(with_reducible first|refine ListD.step (by simp only [seval,go_sem,ho',q2',rowOb];rfl) ?_|refine ListD.step (by simp (disch:=omega) only [seval,go_sem,cnd,intV,shV,convV,strV,ho',q2',rowOb];rfl) ?_))|(with_reducible refine isDrawn ?_;refine Tri.drawnD mix (by kernel_rfl) (by simp only [l_3,l_4];rfl) ?_)|(with_reducible refine isRet ?_;refine RetV (rs:=[.tmp 4]) (by with_unfolding_all rfl) rfl ?_<;>simp only [seval,go_sem]<;>(repeat' (with_reducible apply And.intro))<;>(try rfl))|(with_reducible (refine TVq (st:=[]) ?_))|simp only [seval,go_sem,ho',q2',rowOb]|(with_reducible refine oV_st (by simp (disch:=omega) only [seval,go_sem,cnd,intV,shV,convV,strV,ho',q2',rowOb];rfl) ?_)))<;>(try (fail)))
  ·rw [g1 (by rw [e1];decide),e1]
   rcases prevI_cases l k hk with ⟨q1,q2⟩|⟨q1,u,q2,q3⟩
   ·subst q1
    ((repeat' (first|(with_reducible refine ListD.nil ?_)|((with_reducible refine isListD ?_);(with_reducible first|refine ListD.step (by simp only [seval,go_sem,ho',c3,rowOb];rfl) ?_|refine ListD.step (by simp (disch:=omega) only [seval,go_sem,cnd,intV,shV,convV,strV,ho',c3,rowOb];rfl) ?_))|(with_reducible refine isDrawn ?_;refine Tri.drawnD mix (by kernel_rfl) (by simp only [l_3,l_4];rfl) ?_)|(with_reducible refine isRet ?_;refine RetV (rs:=[.tmp 4]) (by with_unfolding_all rfl) rfl ?_<;>simp only [seval,go_sem]<;>(repeat' (with_reducible apply And.intro))<;>(try rfl))|(with_reducible (refine TVq (st:=[]) ?_))|simp only [seval,go_sem,ho',c3,rowOb]|(with_reducible refine oV_st (by simp (disch:=omega) only [seval,go_sem,cnd,intV,shV,convV,strV,ho',c3,rowOb];rfl) ?_)))<;>(try (fail)))
   ·have q2':=get_map rowOb q2
    rw [q3,Option.any_some,decide_eq_false_iff_not] at c2
    ((repeat' (first|(with_reducible refine ListD.nil ?_)|((with_reducible refine isListD ?_);(with_reducible first|refine ListD.step (by simp only [seval,go_sem,ho',q2',c3,rowOb];rfl) ?_|refine ListD.step (by simp (disch:=omega) only [seval,go_sem,cnd,intV,shV,convV,strV,ho',q2',c3,rowOb];rfl) ?_))|(with_reducible refine isDrawn ?_;refine Tri.drawnD mix (by kernel_rfl) (by simp only [l_3,l_4];rfl) ?_)|(with_reducible refine isRet ?_;refine RetV (rs:=[.tmp 4]) (by with_unfolding_all rfl) rfl ?_<;>simp only [seval,go_sem]<;>(repeat' (with_reducible apply And.intro))<;>(try rfl))|(with_reducible (refine TVq (st:=[]) ?_))|simp only [seval,go_sem,ho',q2',c3,rowOb]|(with_reducible refine oV_st (by simp (disch:=omega) only [seval,go_sem,cnd,intV,shV,convV,strV,ho',q2',c3,rowOb];rfl) ?_)))<;>(try (fail)))
  ·rw [g1 (by rw [e1];exact c4),e1]
   rcases prevI_cases l k hk with ⟨q1,q2⟩|⟨q1,u,q2,q3⟩
   ·subst q1
    ((repeat' (first|((with_reducible refine isTriD ?_);((with_reducible refine isCallD ?_);((with_reducible refine LVcall (st:=[]) ?_);simp only [seval,go_sem,ho',rowOb];(refine CallL.c (rvalid_calls ?_) ?_))))|(with_reducible refine ListD.nil ?_)|((with_reducible refine isListD ?_);(with_reducible first|refine ListD.step (by simp only [seval,go_sem,ho',rowOb];rfl) ?_|refine ListD.step (by simp (disch:=omega) only [seval,go_sem,cnd,intV,shV,convV,strV,ho',rowOb];rfl) ?_))|(with_reducible refine isDrawn ?_;refine Tri.drawnD mix (by kernel_rfl) (by simp only [l_3,l_4];rfl) ?_)|(with_reducible refine isRet ?_;refine RetV (rs:=[.tmp 4]) (by with_unfolding_all rfl) rfl ?_<;>simp only [seval,go_sem]<;>(repeat' (with_reducible apply And.intro))<;>(try rfl))|(with_reducible (refine TVq (st:=[]) ?_))|simp only [seval,go_sem,ho',rowOb]|(with_reducible refine oV_st (by simp (disch:=omega) only [seval,go_sem,cnd,intV,shV,convV,strV,ho',rowOb];rfl) ?_)))<;>(try (((with_reducible show (_:Nat)≤_);omega))))
   ·have q2':=get_map rowOb q2
    rw [q3,Option.any_some,decide_eq_false_iff_not] at c2
    ((repeat' (first|((with_reducible refine isTriD ?_);((with_reducible refine isCallD ?_);((with_reducible refine LVcall (st:=[]) ?_);simp only [seval,go_sem,ho',q2',rowOb];(refine CallL.c (rvalid_calls ?_) ?_))))|(with_reducible refine ListD.nil ?_)|((with_reducible refine isListD ?_);(with_reducible first|refine ListD.step (by simp only [seval,go_sem,ho',q2',rowOb];rfl) ?_|refine ListD.step (by simp (disch:=omega) only [seval,go_sem,cnd,intV,shV,convV,strV,ho',q2',rowOb];rfl) ?_))|(with_reducible refine isDrawn ?_;refine Tri.drawnD mix (by kernel_rfl) (by simp only [l_3,l_4];rfl) ?_)|(with_reducible refine isRet ?_;refine RetV (rs:=[.tmp 4]) (by with_unfolding_all rfl) rfl ?_<;>simp only [seval,go_sem]<;>(repeat' (with_reducible apply And.intro))<;>(try rfl))|(with_reducible (refine TVq (st:=[]) ?_))|simp only [seval,go_sem,ho',q2',rowOb]|(with_reducible refine oV_st (by simp (disch:=omega) only [seval,go_sem,cnd,intV,shV,convV,strV,ho',q2',rowOb];rfl) ?_)))<;>(try (((with_reducible show (_:Nat)≤_);omega))))
  ·have hgo: ∀ {R:Prop},(lateV com o.vers=true→objsE e com none l=5→R)→(lateV com o.vers=false→fitV e o.vers=false→objsE e com none l=18→R)→(lateV com o.vers=false→fitV e o.vers=true→objsE e com (prevI (l.map (·.id)) (k+1)) (l.drop (k+1))=objsE e com none l→R)→R:=by
    intro R r1 r2 r3
    rcases c5 with ⟨c5,e1⟩|⟨c5,⟨c6,e1⟩|⟨c6,e1⟩⟩
    ·exact r1 c5 (by rw [g1 (by rw [e1];decide),e1])
    ·exact r2 c5 c6 (by rw [g1 (by rw [e1];decide),e1])
    ·exact r3 c5 c6 (g2 e1)
   have hok: ∀ v∈o.vers,1≤v.from_∧0≤v.to∧0≤v.size:=validV_rng o.vers none c4
   have hst: ∀ {Q:Prop},(k=0→Q)→(∀ u,0<k→l[k-1]? = some u→ ¬ o.id≤u.id→Q)→Q:=by
    intro Q r1 r2
    rcases prevI_cases l k hk with ⟨q1,q2⟩|⟨q1,u,q2,q3⟩
    ·exact r1 q1
    ·rw [q3,Option.any_some,decide_eq_false_iff_not] at c2
     exact r2 u q1 q2 c2
   refine hst (fun q1=>?_) (fun u q1 q2 c2'=>?_)
   ((repeat' (first|((with_reducible refine isTriD ?_);((with_reducible refine isCallD ?_);((with_reducible refine LVcall (st:=[]) ?_);simp only [seval,go_sem,ho',c3,c4,rowOb];(refine CallL.c (rvalid_calls ?_) ?_))))|(with_reducible refine ListD.nil ?_)|((with_reducible refine isListD ?_);(with_reducible first|refine ListD.step (by simp only [seval,go_sem,ho',c3,c4,rowOb];rfl) ?_|refine ListD.step (by simp (disch:=omega) only [seval,go_sem,cnd,intV,shV,convV,strV,ho',c3,c4,rowOb];rfl) ?_))|(with_reducible refine isDrawn ?_;refine Tri.drawnD mix (by kernel_rfl) (by simp only [l_3,l_4];rfl) ?_)|(with_reducible (refine TVq (st:=[]) ?_))|simp only [seval,go_sem,ho',c3,c4,rowOb]|(with_reducible refine oV_st (by simp (disch:=omega) only [seval,go_sem,cnd,intV,shV,convV,strV,ho',c3,c4,rowOb];rfl) ?_)))<;>(try (((with_reducible show (_:Nat)≤_);omega))))
   rotate_left
   (have q2':=get_map rowOb q2;((repeat' (first|((with_reducible refine isTriD ?_);((with_reducible refine isCallD ?_);((with_reducible refine LVcall (st:=[]) ?_);simp only [seval,go_sem,ho',q2',c3,c4,rowOb];(refine CallL.c (rvalid_calls ?_) ?_))))|(with_reducible refine ListD.nil ?_)|((with_reducible refine isListD ?_);(with_reducible first|refine ListD.step (by simp only [seval,go_sem,ho',q2',c3,c4,rowOb];rfl) ?_|refine ListD.step (by simp (disch:=omega) only [seval,go_sem,cnd,intV,shV,convV,strV,ho',q2',c3,c4,rowOb];rfl) ?_))|(with_reducible refine isDrawn ?_;refine Tri.drawnD mix (by kernel_rfl) (by simp only [l_3,l_4];rfl) ?_)|(with_reducible (refine TVq (st:=[]) ?_))|simp only [seval,go_sem,ho',q2',c3,c4,rowOb]|(with_reducible refine oV_st (by simp (disch:=omega) only [seval,go_sem,cnd,intV,shV,convV,strV,ho',q2',c3,c4,rowOb];rfl) ?_)))<;>(try (((with_reducible show (_:Nat)≤_);omega)))))
   all_goals (with_reducible refine Tri.loopU (fun (j:Nat)=>[(8,.sc (.int .i64 j)),(4,.any),(51,.any),(52,.any),(53,.any),(54,.any),(55,.any),(56,.any),(57,.any),(58,.any),(59,.any),(60,.any),(61,.any),(62,.any),(63,.any),(64,.any),(65,.any),(66,.any),(67,.any),(68,.any),(69,.any),(70,.any),(71,.any),(72,.any),(73,.any),(74,.any),(75,.any),(76,.any),(77,.any)]) (fun (j:Nat)=>[]) (fun (j:Nat)=>j≤o.vers.length∧lateV com (o.vers.drop j)=lateV com o.vers) (fun (j:Nat)=>o.vers.length-j) (0) (⟨Nat.zero_le _,rfl⟩) (by intro _;simp (disch:=omega) only [seval,go_sem,cnd,intV,shV,convV,strV];rfl) (by intro _;simp (disch:=omega) only [seval,go_sem,cnd,intV,shV,convV,strV];rfl) (by (refine leQL_spec ?_);(try simp only [seval,go_sem]);done) (by (refine leQH_spec ?_);(try simp only [seval,go_sem]);done) (fun j hI=>?_))
   all_goals
    obtain ⟨hj,hlv⟩:=hI
    by_cases hlt2:j<o.vers.length
    ·obtain ⟨v,hvj⟩:=get_lt hlt2
     have hvj':=get_map rowV hvj
     obtain ⟨r1,r2,r3⟩:=hok v (List.mem_of_getElem? hvj)
     obtain ⟨h1,h2⟩:=any_step hvj hlv
     by_cases d1:com<v.from_
     ·have hlate:lateV com o.vers=true:=h1 (by simp [d1])
      refine hgo (fun _ e5=>?_) (fun e5 _ _=>absurd (hlate.symm.trans e5) (by decide)) (fun e5 _ _=>absurd (hlate.symm.trans e5) (by decide))
      rw [e5]
      ((repeat' (first|(with_reducible refine ListD.nil ?_)|((with_reducible refine isListD ?_);(with_reducible first|refine ListD.step (by simp only [seval,go_sem,hvj',rowV];rfl) ?_|refine ListD.step (by simp (disch:=omega) only [seval,go_sem,cnd,intV,shV,convV,strV,hvj',rowV];rfl) ?_))|(with_reducible refine isDrawn ?_;refine Tri.drawnD mix (by kernel_rfl) (by simp only [l_3,l_4];rfl) ?_)|(with_reducible refine isRet ?_;refine RetV (rs:=[.tmp 4]) (by with_unfolding_all rfl) rfl ?_<;>simp only [seval,go_sem]<;>(repeat' (with_reducible apply And.intro))<;>(try rfl))|(with_reducible (refine TVq (st:=[]) ?_))|simp only [seval,go_sem,hvj',rowV]|(with_reducible refine oV_st (by simp (disch:=omega) only [seval,go_sem,cnd,intV,shV,convV,strV,hvj',rowV];rfl) ?_)))<;>(try (fail)))
     ·by_cases d2:com<v.to
      ·have hlate:lateV com o.vers=true:=h1 (by simp [d2])
       refine hgo (fun _ e5=>?_) (fun e5 _ _=>absurd (hlate.symm.trans e5) (by decide)) (fun e5 _ _=>absurd (hlate.symm.trans e5) (by decide))
       rw [e5]
       ((repeat' (first|(with_reducible refine ListD.nil ?_)|((with_reducible refine isListD ?_);(with_reducible first|refine ListD.step (by simp only [seval,go_sem,hvj',rowV];rfl) ?_|refine ListD.step (by simp (disch:=omega) only [seval,go_sem,cnd,intV,shV,convV,strV,hvj',rowV];rfl) ?_))|(with_reducible refine isDrawn ?_;refine Tri.drawnD mix (by kernel_rfl) (by simp only [l_3,l_4];rfl) ?_)|(with_reducible refine isRet ?_;refine RetV (rs:=[.tmp 4]) (by with_unfolding_all rfl) rfl ?_<;>simp only [seval,go_sem]<;>(repeat' (with_reducible apply And.intro))<;>(try rfl))|(with_reducible (refine TVq (st:=[]) ?_))|simp only [seval,go_sem,hvj',rowV]|(with_reducible refine oV_st (by simp (disch:=omega) only [seval,go_sem,cnd,intV,shV,convV,strV,hvj',rowV];rfl) ?_)))<;>(try (fail)))
      ·have h3:=h2 (by simp [d1,d2])
       ((repeat' (first|(with_reducible refine ListD.nil ?_)|((with_reducible refine isListD ?_);(with_reducible first|refine ListD.step (by simp only [seval,go_sem,hvj',rowV];rfl) ?_|refine ListD.step (by simp (disch:=omega) only [seval,go_sem,cnd,intV,shV,convV,strV,hvj',rowV];rfl) ?_))|(with_reducible refine isDrawn ?_;refine Tri.drawnD mix (by kernel_rfl) (by simp only [l_3,l_4];rfl) ?_)|(with_reducible (refine TVq (st:=[]) ?_))|simp only [seval,go_sem,hvj',rowV]|(with_reducible refine oV_st (by simp (disch:=omega) only [seval,go_sem,cnd,intV,shV,convV,strV,hvj',rowV];rfl) ?_)))<;>(try (fail)))
       all_goals (try (refine isNextM (j+1) (by (refine leQL_spec ?_);(try simp only [seval,go_sem]);first|((repeat' (with_reducible apply And.intro))<;>first|rfl);done) (by (refine leQH_spec ?_);(try simp only [seval,go_sem]);done) ?_ ?_<;>(try (omega))))
       all_goals (try exact ⟨by omega,h3⟩)
    ·rw [List.drop_eq_nil_of_le (by omega)] at hlv
     have hlate:lateV com o.vers=false:=by rw [← hlv];rfl
     ((repeat' (first|(with_reducible (refine TVq (st:=[]) ?_))|simp only [seval,go_sem]|(with_reducible refine oV_st (by simp (disch:=omega) only [seval,go_sem,cnd,intV,shV,convV,strV];rfl) ?_)))<;>(try (fail)))
     all_goals (with_reducible refine Tri.loopU (fun (i:Nat)=>[(9,.sc (.int .i64 i)),(4,.any),(10,.any),(11,.any),(78,.any),(79,.any),(80,.any),(81,.any),(82,.any),(83,.any),(84,.any),(85,.any),(86,.any),(87,.any),(88,.any),(89,.any),(90,.any),(91,.any),(92,.any),(93,.any),(94,.any),(95,.any),(96,.any),(97,.any),(98,.any),(99,.any),(100,.any),(101,.any),(102,.any),(103,.any),(104,.any),(105,.any)]) (fun (i:Nat)=>[(94,.dead)]) (fun (i:Nat)=>i≤o.vers.length∧fitV e (o.vers.drop i)=fitV e o.vers) (fun (i:Nat)=>o.vers.length-i) (0) (⟨Nat.zero_le _,rfl⟩) (by intro _;simp (disch:=omega) only [seval,go_sem,cnd,intV,shV,convV,strV];rfl) (by intro _;simp (disch:=omega) only [seval,go_sem,cnd,intV,shV,convV,strV];rfl) (by (refine leQL_spec ?_);(try simp only [seval,go_sem]);done) (by (refine leQH_spec ?_);(try simp only [seval,go_sem]);done) (fun i hI=>?_))
     all_goals
      obtain ⟨hi,hft⟩:=hI
      by_cases hlt3:i<o.vers.length
      ·obtain ⟨v,hvi⟩:=get_lt hlt3
       have hvi':=get_map rowV hvi
       obtain ⟨_,_,r3⟩:=hok v (List.mem_of_getElem? hvi)
       obtain ⟨r4,r5⟩:=hvs v (List.mem_of_getElem? hvi)
       obtain ⟨h1,h2⟩:=all_step hvi hft
       have hcn:=rcount_calls r3 r4 he
       by_cases d1:cntE v.size e=(v.pages.length:Int)
       ·have h3:=h2 (by simp [d1])
        ((repeat' (first|(with_reducible refine ListD.nil ?_)|((with_reducible refine isListD ?_);first|(with_reducible refine ListD.step (by simp only [seval,go_sem,hvi',rowV,d1];rfl) ?_)|((with_reducible refine isCallV ?_);((with_reducible (refine ListD.dE (by simp only [seval,go_sem,hvi',rowV,d1];rfl) (by simp only [seval,go_sem,hvi',rowV,d1];rfl) ?_));refine CallW.c (hcn) (by simp only [seval,go_sem,hvi',rowV,d1];rfl) ?_))|(with_reducible refine ListD.step (by simp (disch:=omega) only [seval,go_sem,cnd,intV,shV,convV,strV,hvi',rowV,d1];rfl) ?_))|(with_reducible refine isDrawn ?_;refine Tri.drawnD mix (by kernel_rfl) (by simp only [l_3,l_4];rfl) ?_)|(with_reducible (refine TVq (st:=[]) ?_))|simp only [seval,go_sem,hvi',rowV,d1]|(with_reducible refine oV_st (by simp (disch:=omega) only [seval,go_sem,cnd,intV,shV,convV,strV,hvi',rowV,d1];rfl) ?_)))<;>(try (fail)))
        all_goals (try (refine isNextM (i+1) (by (refine leQL_spec ?_);(try simp only [seval,go_sem]);first|((repeat' (with_reducible apply And.intro))<;>first|rfl);done) (by (refine leQH_spec ?_);(try simp only [seval,go_sem]);done) ?_ ?_<;>(try (omega))))
        all_goals (try exact ⟨by omega,h3⟩)
       ·have hnf:fitV e o.vers=false:=h1 (by simp [d1])
        refine hgo (fun e5 _=>absurd (hlate.symm.trans e5) (by decide)) (fun _ _ e5=>?_) (fun _ e5 _=>absurd (hnf.symm.trans e5) (by decide))
        rw [e5]
        ((repeat' (first|(with_reducible refine ListD.nil ?_)|((with_reducible refine isListD ?_);first|(with_reducible refine ListD.step (by simp only [seval,go_sem,hvi',rowV];rfl) ?_)|((with_reducible refine isCallV ?_);((with_reducible (refine ListD.dE (by simp only [seval,go_sem,hvi',rowV];rfl) (by simp only [seval,go_sem,hvi',rowV];rfl) ?_));refine CallW.c (hcn) (by simp only [seval,go_sem,hvi',rowV];rfl) ?_))|(with_reducible refine ListD.step (by simp (disch:=omega) only [seval,go_sem,cnd,intV,shV,convV,strV,hvi',rowV];rfl) ?_))|(with_reducible refine isDrawn ?_;refine Tri.drawnD mix (by kernel_rfl) (by simp only [l_3,l_4];rfl) ?_)|(with_reducible refine isRet ?_;refine RetV (rs:=[.tmp 4]) (by with_unfolding_all rfl) rfl ?_<;>simp only [seval,go_sem]<;>(repeat' (with_reducible apply And.intro))<;>(try rfl))|(with_reducible (refine TVq (st:=[]) ?_))|simp only [seval,go_sem,hvi',rowV]|(with_reducible refine oV_st (by simp (disch:=omega) only [seval,go_sem,cnd,intV,shV,convV,strV,hvi',rowV];rfl) ?_)))<;>(try (fail)))
      ·rw [List.drop_eq_nil_of_le (by omega)] at hft
       have hfit:fitV e o.vers=true:=by rw [← hft];rfl
       refine hgo (fun e5 _=>absurd (hlate.symm.trans e5) (by decide)) (fun _ e5 _=>absurd (hfit.symm.trans e5) (by decide)) (fun _ _ e5=>?_)
       ((repeat' (first|(with_reducible (refine TVq (st:=[]) ?_))|simp only [seval,go_sem]|(with_reducible refine oV_st (by simp (disch:=omega) only [seval,go_sem,cnd,intV,shV,convV,strV];rfl) ?_)))<;>(try (fail)))
       all_goals (try (refine isNextM (k+1) (by (refine leQL_spec ?_);(try simp only [seval,go_sem]);first|((repeat' (with_reducible apply And.intro))<;>first|rfl);done) (by (refine leQH_spec ?_);(try simp only [seval,go_sem]);done) ?_ ?_<;>(try (omega))))
       all_goals (try exact ⟨by omega,e5⟩)
 ·rw [List.drop_eq_nil_of_le (by omega),objsE] at hf
  rw [← hf]
  ((repeat' (first|(with_reducible refine isRet ?_;refine RetV (rs:=[.tmp 4]) (by with_unfolding_all rfl) rfl ?_<;>simp only [seval,go_sem]<;>(repeat' (with_reducible apply And.intro))<;>(try rfl))|(with_reducible (refine TVq (st:=[]) ?_))|simp only [seval,go_sem]|(with_reducible refine oV_st (by simp (disch:=omega) only [seval,go_sem,cnd,intV,shV,convV,strV];rfl) ?_)))<;>(try (fail)))
theorem pgE_cases {psz:Int} {prev:Option Int} {o:Pg}:(o.num<1∧pgE psz prev o=5)∨(1≤o.num∧prev.any (fun p=>decide (o.num≤p))=true∧pgE psz prev o=19)∨
  (1≤o.num∧prev.any (fun p=>decide (o.num≤p))=false∧((psz<(o.data.length:Int)∧pgE psz prev o=18)∨(¬ psz<(o.data.length:Int)∧pgE psz prev o=0))):=by
 unfold pgE
 by_cases h1:o.num<1
 ·exact .inl ⟨h1,if_pos h1⟩
 rw [if_neg h1]
 cases h2:prev.any (fun p=>decide (o.num≤p)) with
 | true=>exact .inr (.inl ⟨by omega,rfl,if_pos rfl⟩)
 | false=>
   rw [if_neg (by decide)]
   refine .inr (.inr ⟨by omega,rfl,?_⟩)
   by_cases h3:psz<(o.data.length:Int)
   ·exact .inl ⟨h3,if_pos h3⟩
   ·exact .inr ⟨h3,if_neg h3⟩
theorem pgsE_step {psz:Int} {l:List Pg} {k:Nat} {o:Pg} (ho:l[k]? = some o) (hf:pgsE psz (prevI (l.map (·.num)) k) (l.drop k)=pgsE psz none l):
  (pgE psz (prevI (l.map (·.num)) k) o≠0→pgsE psz none l=pgE psz (prevI (l.map (·.num)) k) o)∧(pgE psz (prevI (l.map (·.num)) k) o=0→pgsE psz (prevI (l.map (·.num)) (k+1)) (l.drop (k+1))=pgsE psz none l):=by
 rw [drop_get ho,pgsE] at hf
 refine ⟨fun h=>by rw [if_pos h] at hf;exact hf.symm,fun h=>?_⟩
 rw [if_neg (by simp [h])] at hf
 rw [prevI_succ (by rw [List.getElem?_map,ho];rfl)]
 exact hf
theorem prevG_cases (l:List Pg) (k:Nat) (hk:k≤l.length):(k=0∧prevI (l.map (·.num)) k=none)∨(0<k∧ ∃ u,l[k-1]? = some u∧prevI (l.map (·.num)) k=some u.num):=by
 by_cases h:k=0
 ·exact .inl ⟨h,by simp [prevI,h]⟩
 ·obtain ⟨u,hu⟩:=get_lt (show k-1<l.length by omega)
  exact .inr ⟨by omega,u,hu,prevI_pos (by omega) (by rw [List.getElem?_map,hu];rfl)⟩
theorem pagesE_cases (c:Cf) (l:List Pg):(pgsE c.psz none l≠0∧pagesE c l=pgsE c.psz none l)∨(pgsE c.psz none l=0∧((c.pag<(l.length:Int)∧pagesE c l=14)∨(¬ c.pag<(l.length:Int)∧pagesE c l=0))):=by
 unfold pagesE
 by_cases h:pgsE c.psz none l≠0
 ·exact .inl ⟨h,if_pos h⟩
 ·rw [if_neg h]
  refine .inr ⟨by simpa using h,?_⟩
  by_cases h2:c.pag<(l.length:Int)
  ·exact .inl ⟨h2,if_pos h2⟩
  ·exact .inr ⟨h2,if_neg h2⟩
set_option maxRecDepth 100000 in set_option maxHeartbeats 12800000 in
theorem ckpages_calls {a b c e p f g com:Int} {ob bd pn:List (List D)} {l:List Pg} (hl:l.length≤1000) (hd: ∀ q∈l,q.data.length≤9223372036854775807):ACalls Try.prog 40 [.agg [.sc (.int .i64 a),.sc (.int .i64 b),.sc (.int .i64 c),.sc (.int .i64 e),.sc (.int .i64 p),.sc (.int .i64 f),.sc (.int .i64 g)],.agg [.sc (.int .i64 com),.sl 2 ob,.sl 4 bd,.sl 2 pn,.sl 3 (l.map rowPg)]] (.sc (.int .i64 (pagesE ⟨a,b,c,e,p,f,g⟩ l))) []:=by
 have hpc:=pagesE_cases ⟨a,b,c,e,p,f,g⟩ l
 simp only at hpc
 refine of_tri [] [2,3,6] Try.func40 rfl call40 rfl (by decide) (by decide) rfl rfl Try.ntmps40 (by simp (disch:=omega) only [seval,go_sem,cnd,intV,shV,convV,strV,List.replicate,l_2,l_1];rfl) (by simp (disch:=omega) only [seval,go_sem,cnd,intV,shV,convV,strV,l_2,l_1];rfl) ?_
 ((repeat' (first|(with_reducible (refine TVq (st:=[32]) ?_))|simp only [seval,go_sem]))<;>(try (fail)))
 all_goals (with_reducible refine Tri.loopU (fun (k:Nat)=>[(10,.sc (.int .i64 k)),(4,.any),(5,.any),(6,.any),(11,.any),(12,.any),(13,.any),(14,.any),(15,.any),(16,.any),(17,.any),(18,.any),(19,.any),(20,.any),(21,.any),(22,.any),(23,.any),(24,.any),(25,.any),(26,.any),(27,.any),(28,.any),(29,.any),(30,.any),(31,.any),(32,.any),(33,.any),(34,.any),(35,.any),(36,.any),(37,.any),(38,.any),(39,.any),(40,.any),(41,.any)]) (fun (k:Nat)=>[(6,.dead)]) (fun (k:Nat)=>k≤l.length∧pgsE e (prevI (l.map (·.num)) k) (l.drop k)=pgsE e none l) (fun (k:Nat)=>l.length-k) (0) (⟨Nat.zero_le _,rfl⟩) (by intro _;simp (disch:=omega) only [seval,go_sem,cnd,intV,shV,convV,strV];rfl) (by intro _;simp (disch:=omega) only [seval,go_sem,cnd,intV,shV,convV,strV];rfl) (by (refine leQL_spec ?_);(try simp only [seval,go_sem]);done) (by (refine leQH_spec ?_);(try simp only [seval,go_sem]);done) (fun k hI=>?_))
 all_goals obtain ⟨hk,hf⟩:=hI
 by_cases hlt:k<l.length
 ·obtain ⟨o,ho⟩:=get_lt hlt
  have ho':=get_map rowPg ho
  have hdl:=hd o (List.mem_of_getElem? ho)
  obtain ⟨g1,g2⟩:=pgsE_step ho hf
  have hbad: ∀ z,z≠0→pgE e (prevI (l.map (·.num)) k) o=z→pagesE ⟨a,b,c,e,p,f,g⟩ l=z:=fun z hz h=>by
   have h1:=g1 (by rw [h];exact hz)
   rcases hpc with ⟨_,h2⟩|⟨h2,_⟩
   ·rw [h2,h1,h]
   ·rw [h2,h] at h1;exact absurd h1.symm hz
  rcases pgE_cases (psz:=e) (prev:=prevI (l.map (·.num)) k) (o:=o) with ⟨c1,e1⟩|⟨c1,c2,e1⟩|⟨c1,c2,⟨c3,e1⟩|⟨c3,e1⟩⟩
  ·rw [hbad _ (by decide) e1]
   ((repeat' (first|(with_reducible refine isRet ?_;refine RetV (rs:=[.tmp 4]) (by with_unfolding_all rfl) rfl ?_<;>simp only [seval,go_sem]<;>(repeat' (with_reducible apply And.intro))<;>(try rfl))|(with_reducible (refine TVq (st:=[32]) ?_))|simp only [seval,go_sem,ho',rowPg]|(with_reducible refine oV_st (by simp (disch:=omega) only [seval,go_sem,cnd,intV,shV,convV,strV,ho',rowPg];rfl) ?_)))<;>(try (fail)))
  ·rcases prevG_cases l k hk with ⟨q1,q2⟩|⟨q1,u,q2,q3⟩
   ·rw [q2] at c2;cases c2
   ·have q2':=get_map rowPg q2
    rw [q3,Option.any_some,decide_eq_true_eq] at c2
    rw [hbad _ (by decide) e1]
    ((repeat' (first|(with_reducible refine ListD.nil ?_)|((with_reducible refine isListD ?_);(with_reducible first|refine ListD.step (by simp only [seval,go_sem,ho',q2',rowPg];rfl) ?_|refine ListD.step (by simp (disch:=omega) only [seval,go_sem,cnd,intV,shV,convV,strV,ho',q2',rowPg];rfl) ?_))|(with_reducible refine isDrawn ?_;refine Tri.drawnD mix (by kernel_rfl) (by simp only [l_3,l_4];rfl) ?_)|(with_reducible refine isRet ?_;refine RetV (rs:=[.tmp 4]) (by with_unfolding_all rfl) rfl ?_<;>simp only [seval,go_sem]<;>(repeat' (with_reducible apply And.intro))<;>(try rfl))|(with_reducible (refine TVq (st:=[32]) ?_))|simp only [seval,go_sem,ho',q2',rowPg]|(with_reducible refine oV_st (by simp (disch:=omega) only [seval,go_sem,cnd,intV,shV,convV,strV,ho',q2',rowPg];rfl) ?_)))<;>(try (fail)))
  ·rw [hbad _ (by decide) e1]
   rcases prevG_cases l k hk with ⟨q1,q2⟩|⟨q1,u,q2,q3⟩
   ·subst q1
    ((repeat' (first|(with_reducible refine ListD.nil ?_)|((with_reducible refine isListD ?_);(with_reducible first|refine ListD.step (by simp only [seval,go_sem,ho',rowPg];rfl) ?_|refine ListD.step (by simp (disch:=omega) only [seval,go_sem,cnd,intV,shV,convV,strV,ho',rowPg];rfl) ?_))|(with_reducible refine isDrawn ?_;refine Tri.drawnD mix (by kernel_rfl) (by simp only [l_3,l_4];rfl) ?_)|(with_reducible refine isRet ?_;refine RetV (rs:=[.tmp 4]) (by with_unfolding_all rfl) rfl ?_<;>simp only [seval,go_sem]<;>(repeat' (with_reducible apply And.intro))<;>(try rfl))|(with_reducible (refine TVq (st:=[32]) ?_))|simp only [seval,go_sem,ho',rowPg]|(with_reducible refine oV_st (by simp (disch:=omega) only [seval,go_sem,cnd,intV,shV,convV,strV,ho',rowPg];rfl) ?_)))<;>(try (fail)))
   ·have q2':=get_map rowPg q2
    rw [q3,Option.any_some,decide_eq_false_iff_not] at c2
    ((repeat' (first|(with_reducible refine ListD.nil ?_)|((with_reducible refine isListD ?_);(with_reducible first|refine ListD.step (by simp only [seval,go_sem,ho',q2',rowPg];rfl) ?_|refine ListD.step (by simp (disch:=omega) only [seval,go_sem,cnd,intV,shV,convV,strV,ho',q2',rowPg];rfl) ?_))|(with_reducible refine isDrawn ?_;refine Tri.drawnD mix (by kernel_rfl) (by simp only [l_3,l_4];rfl) ?_)|(with_reducible refine isRet ?_;refine RetV (rs:=[.tmp 4]) (by with_unfolding_all rfl) rfl ?_<;>simp only [seval,go_sem]<;>(repeat' (with_reducible apply And.intro))<;>(try rfl))|(with_reducible (refine TVq (st:=[32]) ?_))|simp only [seval,go_sem,ho',q2',rowPg]|(with_reducible refine oV_st (by simp (disch:=omega) only [seval,go_sem,cnd,intV,shV,convV,strV,ho',q2',rowPg];rfl) ?_)))<;>(try (fail)))
  ·have g3:=g2 e1
   rcases prevG_cases l k hk with ⟨q1,q2⟩|⟨q1,u,q2,q3⟩
   ·subst q1
    ((repeat' (first|(with_reducible refine ListD.nil ?_)|((with_reducible refine isListD ?_);(with_reducible first|refine ListD.step (by simp only [seval,go_sem,ho',rowPg];rfl) ?_|refine ListD.step (by simp (disch:=omega) only [seval,go_sem,cnd,intV,shV,convV,strV,ho',rowPg];rfl) ?_))|(with_reducible refine isDrawn ?_;refine Tri.drawnD mix (by kernel_rfl) (by simp only [l_3,l_4];rfl) ?_)|(with_reducible (refine TVq (st:=[32]) ?_))|simp only [seval,go_sem,ho',rowPg]|(with_reducible refine oV_st (by simp (disch:=omega) only [seval,go_sem,cnd,intV,shV,convV,strV,ho',rowPg];rfl) ?_)))<;>(try (fail)))
    all_goals (try (refine isNextM (0+1) (by (refine leQL_spec ?_);(try simp only [seval,go_sem]);done) (by (refine leQH_spec ?_);(try simp only [seval,go_sem]);done) ?_ ?_<;>(try (omega))))
    all_goals (try exact ⟨by omega,g3⟩)
   ·have q2':=get_map rowPg q2
    rw [q3,Option.any_some,decide_eq_false_iff_not] at c2
    ((repeat' (first|(with_reducible refine ListD.nil ?_)|((with_reducible refine isListD ?_);(with_reducible first|refine ListD.step (by simp only [seval,go_sem,ho',q2',rowPg];rfl) ?_|refine ListD.step (by simp (disch:=omega) only [seval,go_sem,cnd,intV,shV,convV,strV,ho',q2',rowPg];rfl) ?_))|(with_reducible refine isDrawn ?_;refine Tri.drawnD mix (by kernel_rfl) (by simp only [l_3,l_4];rfl) ?_)|(with_reducible (refine TVq (st:=[32]) ?_))|simp only [seval,go_sem,ho',q2',rowPg]|(with_reducible refine oV_st (by simp (disch:=omega) only [seval,go_sem,cnd,intV,shV,convV,strV,ho',q2',rowPg];rfl) ?_)))<;>(try (fail)))
    all_goals (try (refine isNextM (k+1) (by (refine leQL_spec ?_);(try simp only [seval,go_sem]);first|((repeat' (with_reducible apply And.intro))<;>first|rfl);done) (by (refine leQH_spec ?_);(try simp only [seval,go_sem]);done) ?_ ?_<;>(try (omega))))
    all_goals (try exact ⟨by omega,g3⟩)
 ·rw [List.drop_eq_nil_of_le (by omega),pgsE] at hf
  rcases hpc with ⟨h1,_⟩|⟨_,⟨h2,h3⟩|⟨h2,h3⟩⟩
  ·exact absurd hf.symm h1
  ·rw [h3]
   ((repeat' (first|(with_reducible refine isRet ?_;refine RetV (rs:=[.tmp 4]) (by with_unfolding_all rfl) rfl ?_<;>simp only [seval,go_sem]<;>(repeat' (with_reducible apply And.intro))<;>(try rfl))|(with_reducible (refine TVq (st:=[32]) ?_))|simp only [seval,go_sem]|(with_reducible refine oV_st (by simp (disch:=omega) only [seval,go_sem,cnd,intV,shV,convV,strV];rfl) ?_)))<;>(try (fail)))
  ·rw [h3]
   ((repeat' (first|(with_reducible refine isRet ?_;refine RetV (rs:=[.tmp 4]) (by with_unfolding_all rfl) rfl ?_<;>simp only [seval,go_sem]<;>(repeat' (with_reducible apply And.intro))<;>(try rfl))|(with_reducible (refine TVq (st:=[32]) ?_))|simp only [seval,go_sem]|(with_reducible refine oV_st (by simp (disch:=omega) only [seval,go_sem,cnd,intV,shV,convV,strV];rfl) ?_)))<;>(try (fail)))
end Go.Proofs.Ytmgodadmafcliaa
