/- CollectorRaw: the results of all functions for any dump are those of the reference. -/
import Derived.Test.YtmgodadmafcliaaRCoEr
import Derived.Test.YtmgodadmafcliaaRAuA
import Derived.Test.YtmgodadmafcliaaRAg
set_option linter.unusedSimpArgs false
set_option linter.unusedVariables false
namespace Go.Proofs.Ytmgodadmafcliaa
open Go.RowKit Go.Avm Go.ChangeShapes Go.WideShapes Go.ChangeAt
-- CON sketchstore/sketchstorelaw20.light | light20_calls ?_ ?_ ?_ | 0
def okO20 (o:Ob):Bool:=decide (o.vers.length≤10)&&o.vers.all fun v=>decide (v.pages.length≤20)
def light20 (d:Dm):Bool:=decide (d.objs.length≤10)&&decide (d.pins.length≤20)&&d.objs.all okO20
structure DmWf20 (d:Dm):Prop where
 ol:d.objs.length≤9223372036854775807
 pl:d.pins.length≤9223372036854775807
 vers: ∀ o∈d.objs,o.vers.length≤9223372036854775807∧ ∀ v∈o.vers, -9223372036854775808≤v.from_∧v.pages.length≤9223372036854775807
set_option maxRecDepth 100000 in set_option maxHeartbeats 6400000 in
theorem light20_calls {com:Int} {os:List Ob} {bs:List Bd} {ps:List Pn} {pg:List Pg} (hl:os.length≤9223372036854775807) (hp:ps.length≤9223372036854775807) (hv: ∀ o∈os,o.vers.length≤9223372036854775807∧ ∀ v∈o.vers,v.pages.length≤9223372036854775807):ACalls Try.prog 23 [.agg [.sc (.int .i64 com), .sl 2 (os.map rowOb), .sl 4 (bs.map rowBd), .sl 2 (ps.map rowP), .sl 3 (pg.map rowPg)]] (.sc (.bool (light20 ⟨com,os,bs,ps,pg⟩))) []:=by
 by_cases h1:os.length≤10
 ·by_cases h2:ps.length≤20
  ·have e:light20 ⟨com,os,bs,ps,pg⟩=os.all okO20:=by simp [light20,h1,h2]
   rw [e]
   generalize hA:os.all okO20=A
   refine of_tri [] [1] Try.func23 rfl call23 rfl (by decide) (by decide) rfl rfl Try.ntmps23 (by simp (disch:=omega) only [seval,go_sem,cnd,intV,shV,convV,strV,List.replicate,l_2,l_1];rfl) (by simp (disch:=omega) only [seval,go_sem,cnd,intV,shV,convV,strV,l_2,l_1];rfl) ?_
   ((repeat' (first|(with_reducible refine isCv ?_;intro hc;(try simp only [bls,reduceCtorEq] at hc);(try (exfalso;omega)))|(with_reducible refine isRet ?_;refine RetV (rs:=[.tmp 2]) (by with_unfolding_all rfl) rfl ?_<;>simp only [seval,go_sem]<;>(repeat' (with_reducible apply And.intro))<;>(try rfl))|(with_reducible (first|refine TVq (st:=[]) ?_|refine TVb (st:=[]) ?_|refine TVc (st:=[]) ?_|refine TVr (st:=[]) ?_))|simp only [seval,go_sem]|(with_reducible refine oV_st (by simp (disch:=omega) only [seval,go_sem,cnd,intV,shV,convV,strV];rfl) ?_)|(with_reducible refine gV_split (by simp only [seval,go_sem];rfl) (by simp only [seval,go_sem];rfl) (by simp only [seval,go_sem];first|done|rfl) (cvI ?_) (cvI ?_) (by simp only [seval,go_sem]))|(with_reducible refine cV_split (cvI ?_) (cvI ?_))))<;>(try (first|(with_reducible assumption)|((with_reducible show (_:Int)≤_);omega)|((with_reducible show (_:Nat)≤_);omega))))
   all_goals (with_reducible refine Tri.loopU (fun (k:Nat)=>[(3, .sc (.int .i64 k)),(2, .any),(4, .any),(15, .any),(16, .any),(17, .any),(18, .any),(19, .any),(20, .any),(21, .any),(22, .any),(23, .any),(24, .any),(25, .any),(26, .any),(27, .any),(28, .any),(29, .any),(30, .any),(31, .any),(32, .any),(33, .any),(34, .any),(35, .any),(36, .any),(37, .any),(38, .any),(39, .any),(40, .any),(41, .any),(42, .any),(43, .any),(44, .any),(45, .any),(46, .any),(47, .any),(48, .any),(49, .any),(50, .any),(51, .any),(52, .any)]) (fun (k:Nat)=>[]) (fun (k:Nat)=>k≤os.length∧(os.drop k).all okO20=A) (fun (k:Nat)=>os.length-k) (0) (⟨Nat.zero_le _,by simpa only [List.drop_zero] using hA⟩) (by intro _;simp (disch:=omega) only [seval,go_sem,cnd,intV,shV,convV,strV];rfl) (by intro _;simp (disch:=omega) only [seval,go_sem,cnd,intV,shV,convV,strV];rfl) (by (first|refine leQL_spec ?_|refine leQH_spec ?_|refine leQOs_spec ?_|refine leQ_spec ?_);(try simp only [seval,go_sem]);first|done|((repeat' (with_reducible apply And.intro))<;>first|rfl|omega|(simp [];done)|(simp [];omega));first|done|fail) (by (first|refine leQL_spec ?_|refine leQH_spec ?_|refine leQOs_spec ?_|refine leQ_spec ?_);(try simp only [seval,go_sem]);first|done|((repeat' (with_reducible apply And.intro))<;>first|rfl|omega|(simp [];done)|(simp [];omega));first|done|fail) (fun k hI=>?_))
   all_goals obtain ⟨hk,hf⟩:=hI
   by_cases hlt:k<os.length
   ·obtain ⟨o,ho⟩:=get_lt hlt
    have ho':=get_map rowOb ho
    obtain ⟨hvl,hvp⟩:=hv o (List.mem_of_getElem? ho)
    obtain ⟨g1,g2⟩:=all_step ho (hf.trans hA.symm)
    rw [hA] at g1 g2
    by_cases hc:o.vers.length≤10
    ·have e1:okO20 o=o.vers.all fun v=>decide (v.pages.length≤20):=by simp [okO20,hc]
     rw [e1] at g1 g2
     generalize hB:(o.vers.all fun v=>decide (v.pages.length≤20))=B at *
     ((repeat' (first|(with_reducible refine isCv ?_;intro hc;(try simp only [bls,reduceCtorEq] at hc);(try (exfalso;omega)))|(with_reducible refine isRet ?_;refine RetV (rs:=[.tmp 2]) (by with_unfolding_all rfl) rfl ?_<;>simp only [seval,go_sem]<;>(repeat' (with_reducible apply And.intro))<;>(try rfl))|(with_reducible (first|refine TVq (st:=[]) ?_|refine TVb (st:=[]) ?_|refine TVc (st:=[]) ?_|refine TVr (st:=[]) ?_))|simp only [seval,go_sem,ho',rowOb]|(with_reducible refine oV_st (by simp (disch:=omega) only [seval,go_sem,cnd,intV,shV,convV,strV,ho',rowOb];rfl) ?_)|(with_reducible refine gV_split (by simp only [seval,go_sem,ho',rowOb];rfl) (by simp only [seval,go_sem,ho',rowOb];rfl) (by simp only [seval,go_sem,ho',rowOb];first|done|rfl) (cvI ?_) (cvI ?_) (by simp only [seval,go_sem,ho',rowOb]))|(with_reducible refine cV_split (cvI ?_) (cvI ?_))))<;>(try (first|(with_reducible assumption)|((with_reducible show (_:Int)≤_);omega)|((with_reducible show (_:Nat)≤_);omega))))
     all_goals (with_reducible refine Tri.loopU (fun (j:Nat)=>[(4, .sc (.int .i64 j)),(2, .any),(30, .any),(31, .any),(32, .any),(33, .any),(34, .any),(35, .any),(36, .any),(37, .any),(38, .any),(39, .any),(40, .any),(41, .any),(42, .any),(43, .any),(44, .any),(45, .any),(46, .any),(47, .any),(48, .any),(49, .any),(50, .any),(51, .any),(52, .any)]) (fun (j:Nat)=>[]) (fun (j:Nat)=>j≤o.vers.length∧((o.vers.drop j).all fun v=>decide (v.pages.length≤20))=B) (fun (j:Nat)=>o.vers.length-j) (0) (⟨Nat.zero_le _,by simpa only [List.drop_zero] using hB⟩) (by intro _;simp (disch:=omega) only [seval,go_sem,cnd,intV,shV,convV,strV];rfl) (by intro _;simp (disch:=omega) only [seval,go_sem,cnd,intV,shV,convV,strV];rfl) (by (first|refine leQL_spec ?_|refine leQH_spec ?_|refine leQOs_spec ?_|refine leQ_spec ?_);(try simp only [seval,go_sem]);first|done|((repeat' (with_reducible apply And.intro))<;>first|rfl|omega|(simp [];done)|(simp [];omega));first|done|fail) (by (first|refine leQL_spec ?_|refine leQH_spec ?_|refine leQOs_spec ?_|refine leQ_spec ?_);(try simp only [seval,go_sem]);first|done|((repeat' (with_reducible apply And.intro))<;>first|rfl|omega|(simp [];done)|(simp [];omega));first|done|fail) (fun j hI=>?_))
     all_goals obtain ⟨hj,hf2⟩:=hI
     by_cases hlt2:j<o.vers.length
     ·obtain ⟨v,hw⟩:=get_lt hlt2
      have hw':=get_map rowV hw
      have hwp:=hvp v (List.mem_of_getElem? hw)
      obtain ⟨g3,g4⟩:=all_step hw (hf2.trans hB.symm)
      rw [hB] at g3 g4
      by_cases hc2:v.pages.length≤20
      ·have g5:=g4 (by simp [hc2])
       (all_goals (try have hZ:=(And.intro ho' hw'));(repeat' (first|(with_reducible refine isCv ?_;intro hc;(try simp only [bls,reduceCtorEq] at hc);(try (exfalso;omega)))|(with_reducible refine isRet ?_;refine RetV (rs:=[.tmp 2]) (by with_unfolding_all rfl) rfl ?_<;>simp only [seval,go_sem]<;>(repeat' (with_reducible apply And.intro))<;>(try rfl))|(with_reducible (first|refine TVq (st:=[]) ?_|refine TVb (st:=[]) ?_|refine TVc (st:=[]) ?_|refine TVr (st:=[]) ?_))|simp only [seval,go_sem,rowOb,rowV,hZ]|(with_reducible refine oV_st (by simp (disch:=omega) only [seval,go_sem,cnd,intV,shV,convV,strV,rowOb,rowV,hZ];rfl) ?_)|(with_reducible refine gV_split (by simp only [seval,go_sem,rowOb,rowV,hZ];rfl) (by simp only [seval,go_sem,rowOb,rowV,hZ];rfl) (by simp only [seval,go_sem,rowOb,rowV,hZ];first|done|rfl) (cvI ?_) (cvI ?_) (by simp only [seval,go_sem,rowOb,rowV,hZ]))|(with_reducible refine cV_split (cvI ?_) (cvI ?_))))<;>(try (first|(with_reducible assumption)|((with_reducible show (_:Int)≤_);omega)|((with_reducible show (_:Nat)≤_);omega)));all_goals (try clear hZ))
       all_goals (try (refine isNextM (j+1) (by (first|refine leQL_spec ?_|refine leQH_spec ?_|refine leQOs_spec ?_|refine leQ_spec ?_);(try simp only [seval,go_sem]);first|done|((repeat' (with_reducible apply And.intro))<;>first|rfl|omega|(simp [];done)|(simp [];omega));first|done|fail) (by (first|refine leQL_spec ?_|refine leQH_spec ?_|refine leQOs_spec ?_|refine leQ_spec ?_);(try simp only [seval,go_sem]);first|done|((repeat' (with_reducible apply And.intro))<;>first|rfl|omega|(simp [];done)|(simp [];omega));first|done|fail) ?_ ?_<;>(try (first|omega|(simp;done)|(simp;omega)))))
       all_goals (try exact ⟨by omega,g5⟩)
      ·have g5:=g1 (g3 (by simp;omega))
       subst g5
       (all_goals (try have hZ:=(And.intro ho' hw'));(repeat' (first|(with_reducible refine isCv ?_;intro hc;(try simp only [bls,reduceCtorEq] at hc);(try (exfalso;omega)))|(with_reducible refine isRet ?_;refine RetV (rs:=[.tmp 2]) (by with_unfolding_all rfl) rfl ?_<;>simp only [seval,go_sem]<;>(repeat' (with_reducible apply And.intro))<;>(try rfl))|(with_reducible (first|refine TVq (st:=[]) ?_|refine TVb (st:=[]) ?_|refine TVc (st:=[]) ?_|refine TVr (st:=[]) ?_))|simp only [seval,go_sem,rowOb,rowV,hZ]|(with_reducible refine oV_st (by simp (disch:=omega) only [seval,go_sem,cnd,intV,shV,convV,strV,rowOb,rowV,hZ];rfl) ?_)|(with_reducible refine gV_split (by simp only [seval,go_sem,rowOb,rowV,hZ];rfl) (by simp only [seval,go_sem,rowOb,rowV,hZ];rfl) (by simp only [seval,go_sem,rowOb,rowV,hZ];first|done|rfl) (cvI ?_) (cvI ?_) (by simp only [seval,go_sem,rowOb,rowV,hZ]))|(with_reducible refine cV_split (cvI ?_) (cvI ?_))))<;>(try (first|(with_reducible assumption)|((with_reducible show (_:Int)≤_);omega)|((with_reducible show (_:Nat)≤_);omega)));all_goals (try clear hZ))
     ·rw [List.drop_eq_nil_of_le (by omega)] at hf2
      have g5:=g2 hf2.symm
      ((repeat' (first|(with_reducible refine isCv ?_;intro hc;(try simp only [bls,reduceCtorEq] at hc);(try (exfalso;omega)))|(with_reducible refine isRet ?_;refine RetV (rs:=[.tmp 2]) (by with_unfolding_all rfl) rfl ?_<;>simp only [seval,go_sem]<;>(repeat' (with_reducible apply And.intro))<;>(try rfl))|(with_reducible (first|refine TVq (st:=[]) ?_|refine TVb (st:=[]) ?_|refine TVc (st:=[]) ?_|refine TVr (st:=[]) ?_))|simp only [seval,go_sem,ho',rowOb]|(with_reducible refine oV_st (by simp (disch:=omega) only [seval,go_sem,cnd,intV,shV,convV,strV,ho',rowOb];rfl) ?_)|(with_reducible refine gV_split (by simp only [seval,go_sem,ho',rowOb];rfl) (by simp only [seval,go_sem,ho',rowOb];rfl) (by simp only [seval,go_sem,ho',rowOb];first|done|rfl) (cvI ?_) (cvI ?_) (by simp only [seval,go_sem,ho',rowOb]))|(with_reducible refine cV_split (cvI ?_) (cvI ?_))))<;>(try (first|(with_reducible assumption)|((with_reducible show (_:Int)≤_);omega)|((with_reducible show (_:Nat)≤_);omega))))
      all_goals (try (refine isNextM (k+1) (by (first|refine leQL_spec ?_|refine leQH_spec ?_|refine leQOs_spec ?_|refine leQ_spec ?_);(try simp only [seval,go_sem]);first|done|((repeat' (with_reducible apply And.intro))<;>first|rfl|omega|(simp [];done)|(simp [];omega));first|done|fail) (by (first|refine leQL_spec ?_|refine leQH_spec ?_|refine leQOs_spec ?_|refine leQ_spec ?_);(try simp only [seval,go_sem]);first|done|((repeat' (with_reducible apply And.intro))<;>first|rfl|omega|(simp [];done)|(simp [];omega));first|done|fail) ?_ ?_<;>(try (first|omega|(simp;done)|(simp;omega)))))
      all_goals (try exact ⟨by omega,g5⟩)
    ·have g5:=g1 (by simp [okO20];omega)
     subst g5
     ((repeat' (first|(with_reducible refine isCv ?_;intro hc;(try simp only [bls,reduceCtorEq] at hc);(try (exfalso;omega)))|(with_reducible refine isRet ?_;refine RetV (rs:=[.tmp 2]) (by with_unfolding_all rfl) rfl ?_<;>simp only [seval,go_sem]<;>(repeat' (with_reducible apply And.intro))<;>(try rfl))|(with_reducible (first|refine TVq (st:=[]) ?_|refine TVb (st:=[]) ?_|refine TVc (st:=[]) ?_|refine TVr (st:=[]) ?_))|simp only [seval,go_sem,ho',rowOb]|(with_reducible refine oV_st (by simp (disch:=omega) only [seval,go_sem,cnd,intV,shV,convV,strV,ho',rowOb];rfl) ?_)|(with_reducible refine gV_split (by simp only [seval,go_sem,ho',rowOb];rfl) (by simp only [seval,go_sem,ho',rowOb];rfl) (by simp only [seval,go_sem,ho',rowOb];first|done|rfl) (cvI ?_) (cvI ?_) (by simp only [seval,go_sem,ho',rowOb]))|(with_reducible refine cV_split (cvI ?_) (cvI ?_))))<;>(try (first|(with_reducible assumption)|((with_reducible show (_:Int)≤_);omega)|((with_reducible show (_:Nat)≤_);omega))))
   ·rw [List.drop_eq_nil_of_le (by omega)] at hf
    rw [show A=true from hf.symm]
    ((repeat' (first|(with_reducible refine isCv ?_;intro hc;(try simp only [bls,reduceCtorEq] at hc);(try (exfalso;omega)))|(with_reducible refine isRet ?_;refine RetV (rs:=[.tmp 2]) (by with_unfolding_all rfl) rfl ?_<;>simp only [seval,go_sem]<;>(repeat' (with_reducible apply And.intro))<;>(try rfl))|(with_reducible (first|refine TVq (st:=[]) ?_|refine TVb (st:=[]) ?_|refine TVc (st:=[]) ?_|refine TVr (st:=[]) ?_))|simp only [seval,go_sem]|(with_reducible refine oV_st (by simp (disch:=omega) only [seval,go_sem,cnd,intV,shV,convV,strV];rfl) ?_)|(with_reducible refine gV_split (by simp only [seval,go_sem];rfl) (by simp only [seval,go_sem];rfl) (by simp only [seval,go_sem];first|done|rfl) (cvI ?_) (cvI ?_) (by simp only [seval,go_sem]))|(with_reducible refine cV_split (cvI ?_) (cvI ?_))))<;>(try (first|(with_reducible assumption)|((with_reducible show (_:Int)≤_);omega)|((with_reducible show (_:Nat)≤_);omega))))
  ·have e:light20 ⟨com,os,bs,ps,pg⟩=false:=by simp [light20];omega
   rw [e]
   refine of_tri [] [1] Try.func23 rfl call23 rfl (by decide) (by decide) rfl rfl Try.ntmps23 (by simp (disch:=omega) only [seval,go_sem,cnd,intV,shV,convV,strV,List.replicate,l_2,l_1];rfl) (by simp (disch:=omega) only [seval,go_sem,cnd,intV,shV,convV,strV,l_2,l_1];rfl) ?_
   ((repeat' (first|(with_reducible refine isCv ?_;intro hc;(try simp only [bls,reduceCtorEq] at hc);(try (exfalso;omega)))|(with_reducible refine isRet ?_;refine RetV (rs:=[.tmp 2]) (by with_unfolding_all rfl) rfl ?_<;>simp only [seval,go_sem]<;>(repeat' (with_reducible apply And.intro))<;>(try rfl))|(with_reducible (first|refine TVq (st:=[]) ?_|refine TVb (st:=[]) ?_|refine TVc (st:=[]) ?_|refine TVr (st:=[]) ?_))|simp only [seval,go_sem]|(with_reducible refine oV_st (by simp (disch:=omega) only [seval,go_sem,cnd,intV,shV,convV,strV];rfl) ?_)|(with_reducible refine gV_split (by simp only [seval,go_sem];rfl) (by simp only [seval,go_sem];rfl) (by simp only [seval,go_sem];first|done|rfl) (cvI ?_) (cvI ?_) (by simp only [seval,go_sem]))|(with_reducible refine cV_split (cvI ?_) (cvI ?_))))<;>(try (first|(with_reducible assumption)|((with_reducible show (_:Int)≤_);omega)|((with_reducible show (_:Nat)≤_);omega))))
 ·have e:light20 ⟨com,os,bs,ps,pg⟩=false:=by simp [light20];omega
  rw [e]
  refine of_tri [] [1] Try.func23 rfl call23 rfl (by decide) (by decide) rfl rfl Try.ntmps23 (by simp (disch:=omega) only [seval,go_sem,cnd,intV,shV,convV,strV,List.replicate,l_2,l_1];rfl) (by simp (disch:=omega) only [seval,go_sem,cnd,intV,shV,convV,strV,l_2,l_1];rfl) ?_
  ((repeat' (first|(with_reducible refine isCv ?_;intro hc;(try simp only [bls,reduceCtorEq] at hc);(try (exfalso;omega)))|(with_reducible refine isRet ?_;refine RetV (rs:=[.tmp 2]) (by with_unfolding_all rfl) rfl ?_<;>simp only [seval,go_sem]<;>(repeat' (with_reducible apply And.intro))<;>(try rfl))|(with_reducible (first|refine TVq (st:=[]) ?_|refine TVb (st:=[]) ?_|refine TVc (st:=[]) ?_|refine TVr (st:=[]) ?_))|simp only [seval,go_sem]|(with_reducible refine oV_st (by simp (disch:=omega) only [seval,go_sem,cnd,intV,shV,convV,strV];rfl) ?_)|(with_reducible refine gV_split (by simp only [seval,go_sem];rfl) (by simp only [seval,go_sem];rfl) (by simp only [seval,go_sem];first|done|rfl) (cvI ?_) (cvI ?_) (by simp only [seval,go_sem]))|(with_reducible refine cV_split (cvI ?_) (cvI ?_))))<;>(try (first|(with_reducible assumption)|((with_reducible show (_:Int)≤_);omega)|((with_reducible show (_:Nat)≤_);omega))))
theorem light20_ok {d:Dm} (h:light20 d=true) (hw:DmWf20 d):d.objs.length≤10∧d.pins.length≤20∧(d.objs.flatMap vnsO).length≤100∧(∀ x∈versR d.objs [],x.v.pages.length≤1000)∧ ∀ x∈versR d.objs [], -9223372036854775808≤x.v.from_:=by
 simp only [light20,okO20,Bool.and_eq_true,decide_eq_true_eq,List.all_eq_true] at h
 obtain ⟨⟨h1,h2⟩,h3⟩:=h
 have hm: ∀ x∈versR d.objs [], ∃ o∈d.objs, ∃ v∈o.vers,x=⟨o.id,v⟩:=fun x hx=>by
  have hx2:=(by simpa using versR_perm d.objs []:(versR d.objs []).Perm (d.objs.flatMap vnsO)).mem_iff.1 hx
  obtain ⟨o,ho,hxo⟩:=List.mem_flatMap.1 hx2
  obtain ⟨v,hv,rfl⟩:=List.mem_map.1 hxo
  exact ⟨o,ho,v,hv,rfl⟩
 refine ⟨h1,h2,?_,fun x hx=>?_,fun x hx=>?_⟩
 ·have key: ∀ l:List Ob,(∀ o∈l,o.vers.length≤10)→(l.flatMap vnsO).length≤10*l.length:=by
   intro l
   induction l with
   | nil=>intro _;exact Nat.le_refl _
   | cons o l ih=>
     intro h
     have e1:=ih fun y hy=>h y (by simp [hy])
     have e2:=h o (by simp)
     simp only [List.flatMap_cons,List.length_append,vnsO,List.length_map,List.length_cons] at e1 ⊢
     omega
  have:=key d.objs fun o ho=>(h3 o ho).1
  omega
 ·obtain ⟨o,ho,v,hv,rfl⟩:=hm x hx
  have:=(h3 o ho).2 v hv
  simp only;omega
 ·obtain ⟨o,ho,v,hv,rfl⟩:=hm x hx
  exact ((hw.vers o ho).2 v hv).1
-- SNAP sketchstore/sketchstorelaw20.CollectorRaw | b3 b4
set_option maxRecDepth 100000 in set_option maxHeartbeats 6400000 in
theorem collectorRaw_calls {d:Dm} {p:Vc} {n:Int} (hw:DmWf20 d) (hn:n≤9223372036854775807):ACalls Try.prog 8 [.agg (dDm d), .agg (rowVc p), .sc (.int .i64 n)] (.sc (.bool true)) []:=by
 have hli:=light20_calls (com:=d.commit) (os:=d.objs) (bs:=d.binds) (ps:=d.pins) (pg:=d.pages) hw.ol hw.pl (fun o ho=>⟨(hw.vers o ho).1,fun v hv=>((hw.vers o ho).2 v hv).2⟩)
 have hlo:=light20_ok (d:=d) (hw:=hw)
 have hkn:=known20B_calls
 obtain ⟨com,os,bs,ps,pg⟩:=d
 obtain ⟨pa,pb⟩:=p
 simp only [dDm,rowVc] at hli ⊢
 cases hL:light20 ⟨com,os,bs,ps,pg⟩ with
 | false=>
   rw [hL] at hli
   refine of_tri [] [3,4,8,10,14,20,23] Try.func8 rfl call8 rfl (by decide) (by decide) rfl rfl Try.ntmps8 (by simp (disch:=omega) only [seval,go_sem,cnd,intV,shV,convV,strV,List.replicate,l_2,l_1];rfl) (by simp (disch:=omega) only [seval,go_sem,cnd,intV,shV,convV,strV,l_2,l_1];rfl) ?_
   ((repeat' (first|(with_reducible refine isCv ?_;intro hc;(try simp only [bls,reduceCtorEq] at hc);(try (exfalso;omega)))|((with_reducible refine isTriD ?_);first|((with_reducible refine isCallD ?_);((with_reducible refine LVcall (st:=[20,23]) ?_);simp only [seval,go_sem];first|(refine CallL.c (hli) ?_)|(refine CallL.c (hkn) ?_)|(refine CallL.c (light20_calls ?_ ?_ ?_) ?_)|(refine CallL.c (known20_calls) ?_)|(refine CallL.c (known20B_calls) ?_)|(refine CallL.c (same20_calls ?_ ?_ ?_ ?_ ?_ ?_) ?_)|(refine CallL.c (same20B_calls ?_ ?_ ?_ ?_ ?_ ?_) ?_)))|((with_reducible first|refine TriD.step (by simp only [seval,go_sem];rfl) ?_|refine TriD.step (by simp (disch:=omega) only [seval,go_sem,cnd,intV,shV,convV,strV];rfl) ?_);refine LVs (st:=[20,23]) ?_)|(with_reducible (first|refine isAnd2 21 ?_|refine isAnd2 24 ?_);with_reducible refine TriD.and2 (by simp only [seval,go_sem];first|done|rfl) (by simp only [seval,go_sem];first|done|rfl) (by decide) (by simp only [seval,go_sem,List.length_cons,List.length_nil]) (by simp only [seval,go_sem]) (by first|(simp only [seval,go_sem];rfl)|(simp (disch:=omega) only [seval,go_sem,cnd,intV,shV,convV,strV];rfl)) (by simp only [seval,go_sem];rfl) ?_;refine LVs (st:=[20,23]) ?_))|(with_reducible refine isRet ?_;refine RetV (rs:=[.tmp 6]) (by with_unfolding_all rfl) rfl ?_<;>simp only [seval,go_sem]<;>(repeat' (with_reducible apply And.intro))<;>(try rfl))|(with_reducible (first|refine TVq (st:=[20,23]) ?_|refine TVb (st:=[20,23]) ?_|refine TVc (st:=[20,23]) ?_|refine TVr (st:=[20,23]) ?_))|simp only [seval,go_sem]|(with_reducible refine oV_st (by simp (disch:=omega) only [seval,go_sem,cnd,intV,shV,convV,strV];rfl) ?_)|(with_reducible refine gV_split (by simp only [seval,go_sem];rfl) (by simp only [seval,go_sem];rfl) (by simp only [seval,go_sem];first|done|rfl) (cvI ?_) (cvI ?_) (by simp only [seval,go_sem]))|(with_reducible refine cV_split (cvI ?_) (cvI ?_))))<;>(try (first|(with_reducible assumption)|((with_reducible show (_:Int)≤_);omega)|((with_reducible show (_:Nat)≤_);omega))))
 | true=>
   rw [hL] at hli
   obtain ⟨o1,o2,o3,o4,o5⟩:=hlo hL
   simp only at o1 o2 o3 o4 o5
   have s1:=same20B_calls (com:=com) (c:=n) (os:=os) (ps:=ps) (bd:=bs.map rowBd) (pg:=pg.map rowPg) (p:=⟨pa,pb⟩) (by omega) o3 (by omega) o4 hn o5
   have s2:=same20B_calls (com:=com) (c:=n%8) (os:=os) (ps:=ps) (bd:=bs.map rowBd) (pg:=pg.map rowPg) (p:=⟨pa,pb⟩) (by omega) o3 (by omega) o4 (by omega) o5
   simp only [rowVc] at s1 s2
   refine of_tri [] [3,4,8,10,14,20,23] Try.func8 rfl call8 rfl (by decide) (by decide) rfl rfl Try.ntmps8 (by simp (disch:=omega) only [seval,go_sem,cnd,intV,shV,convV,strV,List.replicate,l_2,l_1];rfl) (by simp (disch:=omega) only [seval,go_sem,cnd,intV,shV,convV,strV,l_2,l_1];rfl) ?_
   ((repeat' (first|(with_reducible refine isCv ?_;intro hc;(try simp only [bls,reduceCtorEq] at hc);(try (exfalso;omega)))|((with_reducible refine isTriD ?_);first|((with_reducible refine isCallD ?_);((with_reducible refine LVcall (st:=[20,23]) ?_);simp only [seval,go_sem];first|(refine CallL.c (hli) ?_)|(refine CallL.c (s1) ?_)|(refine CallL.c (s2) ?_)|(refine CallL.c (hkn) ?_)|(refine CallL.c (light20_calls ?_ ?_ ?_) ?_)|(refine CallL.c (known20_calls) ?_)|(refine CallL.c (known20B_calls) ?_)|(refine CallL.c (same20_calls ?_ ?_ ?_ ?_ ?_ ?_) ?_)|(refine CallL.c (same20B_calls ?_ ?_ ?_ ?_ ?_ ?_) ?_)))|((with_reducible first|refine TriD.step (by simp only [seval,go_sem];rfl) ?_|refine TriD.step (by simp (disch:=omega) only [seval,go_sem,cnd,intV,shV,convV,strV];rfl) ?_);refine LVs (st:=[20,23]) ?_)|(with_reducible (first|refine isAnd2 21 ?_|refine isAnd2 24 ?_);with_reducible refine TriD.and2 (by simp only [seval,go_sem];first|done|rfl) (by simp only [seval,go_sem];first|done|rfl) (by decide) (by simp only [seval,go_sem,List.length_cons,List.length_nil]) (by simp only [seval,go_sem]) (by first|(simp only [seval,go_sem];rfl)|(simp (disch:=omega) only [seval,go_sem,cnd,intV,shV,convV,strV];rfl)) (by simp only [seval,go_sem];rfl) ?_;refine LVs (st:=[20,23]) ?_))|(with_reducible refine isRet ?_;refine RetV (rs:=[.tmp 6]) (by with_unfolding_all rfl) rfl ?_<;>simp only [seval,go_sem]<;>(repeat' (with_reducible apply And.intro))<;>(try rfl))|(with_reducible (first|refine TVq (st:=[20,23]) ?_|refine TVb (st:=[20,23]) ?_|refine TVc (st:=[20,23]) ?_|refine TVr (st:=[20,23]) ?_))|simp only [seval,go_sem]|(with_reducible refine oV_st (by simp (disch:=omega) only [seval,go_sem,cnd,intV,shV,convV,strV];rfl) ?_)|(with_reducible refine gV_split (by simp only [seval,go_sem];rfl) (by simp only [seval,go_sem];rfl) (by simp only [seval,go_sem];first|done|rfl) (cvI ?_) (cvI ?_) (by simp only [seval,go_sem]))|(with_reducible refine cV_split (cvI ?_) (cvI ?_))))<;>(try (first|(with_reducible assumption)|((with_reducible show (_:Int)≤_);omega)|((with_reducible show (_:Nat)≤_);omega))))
theorem conv_i (row:List D) (h:Rok [.int .i64] row): ∃ z:Int,row=rowI z∧True:=by
 simp only [Rok,Cok] at h
 obtain ⟨_,_,rfl,⟨z,rfl,_⟩,rfl⟩:=h
 exact ⟨z,rfl,trivial⟩
theorem conv_w (row:List D) (h:Rok [.int .u8] row): ∃ z:Int,row=rowW z∧True:=by
 simp only [Rok,Cok] at h
 obtain ⟨_,_,rfl,⟨z,rfl,_⟩,rfl⟩:=h
 exact ⟨z,rfl,trivial⟩
theorem wf_i64 {z:Int} (h:(Lit.int .i64 z).wf=true):z≤9223372036854775807:=by
 revert h
 simp [Lit.wf,IntKind.min,IntKind.max,IntKind.bits,IntKind.signed]
theorem wf_lo {z:Int} (h:(Lit.int .i64 z).wf=true): -9223372036854775808≤z:=by
 revert h
 simp [Lit.wf,IntKind.min,IntKind.max,IntKind.bits,IntKind.signed]
 omega
theorem conv_vr (row:List D) (h:Rok [.int .i64, .int .i64, .int .i64, .sl [.int .i64]] row): ∃ v:Ver,row=rowV v∧ -9223372036854775808≤v.from_∧v.pages.length≤9223372036854775807:=by
 simp only [Rok,Cok] at h
 obtain ⟨_,_,rfl,⟨f,rfl,hs⟩,_,_,rfl,⟨t,rfl,_⟩,_,_,rfl,⟨s,rfl,_⟩,_,_,rfl,⟨rows,rfl,hl,hr⟩,rfl⟩:=h
 obtain ⟨p,rfl,_⟩:=rows_map conv_i hr
 exact ⟨⟨f,t,s,p⟩,rfl,wf_lo hs,by simpa [maxLen] using hl⟩
theorem conv_ob (row:List D) (h:Rok [.int .i64, .sl [.int .i64, .int .i64, .int .i64, .sl [.int .i64]]] row): ∃ o:Ob,row=rowOb o∧o.vers.length≤9223372036854775807∧ ∀ v∈o.vers, -9223372036854775808≤v.from_∧v.pages.length≤9223372036854775807:=by
 simp only [Rok,Cok] at h
 obtain ⟨_,_,rfl,⟨f,rfl,_⟩,_,_,rfl,⟨rows,rfl,hl,hr⟩,rfl⟩:=h
 obtain ⟨p,rfl,hp⟩:=rows_map conv_vr (fun row hm=>by have:=hr row hm;simpa only [Rok,Cok] using this)
 exact ⟨⟨f,p⟩,rfl,by simpa [maxLen] using hl,hp⟩
theorem conv_bdA (row:List D) (h:Rok [.str, .int .i64, .int .i64, .int .i64] row): ∃ v:Bd,row=rowBd v∧True:=by
 simp only [Rok,Cok] at h
 obtain ⟨_,_,rfl,⟨s,rfl,_⟩,_,_,rfl,⟨o,rfl,_⟩,_,_,rfl,⟨f,rfl,_⟩,_,_,rfl,⟨t,rfl,_⟩,rfl⟩:=h
 exact ⟨⟨s,o,f,t⟩,rfl,trivial⟩
theorem conv_pinA (row:List D) (h:Rok [.int .i64, .int .i64] row): ∃ v:Pn,row=rowP v∧True:=by
 simp only [Rok,Cok] at h
 obtain ⟨_,_,rfl,⟨f,rfl,_⟩,_,_,rfl,⟨t,rfl,_⟩,rfl⟩:=h
 exact ⟨⟨f,t⟩,rfl,trivial⟩
theorem conv_pg (row:List D) (h:Rok [.int .i64, .int .i64, .sl [.int .u8]] row): ∃ q:Pg,row=rowPg q∧q.data.length≤9223372036854775807:=by
 simp only [Rok,Cok] at h
 obtain ⟨_,_,rfl,⟨f,rfl,_⟩,_,_,rfl,⟨t,rfl,_⟩,_,_,rfl,⟨rows,rfl,hl,hr⟩,rfl⟩:=h
 obtain ⟨p,rfl,_⟩:=rows_map conv_w hr
 exact ⟨⟨f,t,p⟩,rfl,by simpa [maxLen] using hl⟩
theorem conv_dm (row:List D) (h:Rok [.int .i64, .sl [.int .i64, .sl [.int .i64, .int .i64, .int .i64, .sl [.int .i64]]], .sl [.str, .int .i64, .int .i64, .int .i64], .sl [.int .i64, .int .i64], .sl [.int .i64, .int .i64, .sl [.int .u8]]] row): ∃ d:Dm,row=dDm d∧DmWf20 d:=by
 rw [Rok] at h
 obtain ⟨c1,_,rfl,h1,h⟩:=h
 rw [Rok] at h
 obtain ⟨c2,_,rfl,h2,h⟩:=h
 rw [Rok] at h
 obtain ⟨c3,_,rfl,h3,h⟩:=h
 rw [Rok] at h
 obtain ⟨c4,_,rfl,h4,h⟩:=h
 rw [Rok] at h
 obtain ⟨c5,_,rfl,h5,h⟩:=h
 rw [Rok] at h
 subst h
 simp only [Cok] at h1 h2 h3 h4 h5
 obtain ⟨com,rfl,hcom⟩:=h1
 obtain ⟨r2,rfl,l2,m2⟩:=h2
 obtain ⟨r3,rfl,l3,m3⟩:=h3
 obtain ⟨r4,rfl,l4,m4⟩:=h4
 obtain ⟨r5,rfl,l5,m5⟩:=h5
 obtain ⟨os,rfl,ho⟩:=rows_map conv_ob m2
 obtain ⟨bs,rfl,_⟩:=rows_map conv_bdA m3
 obtain ⟨ps,rfl,_⟩:=rows_map conv_pinA m4
 obtain ⟨pg,rfl,hg⟩:=rows_map conv_pg m5
 exact ⟨⟨com,os,bs,ps,pg⟩,rfl,by simpa [maxLen] using l2,by simpa [maxLen] using l4,ho⟩
theorem conv_pt (row:List D) (h:Rok [.int .i64, .int .i64] row): ∃ v:Vc,row=rowVc v∧True:=by
 simp only [Rok,Cok] at h
 obtain ⟨_,_,rfl,⟨f,rfl,_⟩,_,_,rfl,⟨t,rfl,_⟩,rfl⟩:=h
 exact ⟨⟨f,t⟩,rfl,trivial⟩
theorem collectorRaw_own:ownKnob Try.prog.godebug=none:=by kernel_rfl
theorem collectorRaw_laid:laidOutB Try.prog=true:=by kernel_rfl
set_option maxRecDepth 100000 in
theorem collectorRaw_lifted (os:Os) (started:os.Started) (H:Type) (enc:TypeId×Value→H):
  ReturnsInHanded {} Try.checked os 8 .any (Rows.collectorRawSpec.pre6 enc Try.prog Try.f8 Rows.collectorRawRow.domain false) (Rows.collectorRawSpec.post enc Try.prog Try.f8 false true false false):=by
 refine returnsInHanded_of_change (C:=Try.checked) collectorRaw_own started (by kernel_rfl) Try.func8
  (ChangeSpec.witness6 (enc:=enc) (C:=Try.checked) false ⟨#[], #[.agg #[.int .i64 0, .slice none 0 0, .slice none 0 0, .slice none 0 0, .slice none 0 0], .agg #[.int .i64 0, .int .i64 0], .int .i64 0],[]⟩ 8 (by kernel_rfl) (by kernel_rfl) (by kernel_rfl) (by kernel_rfl)) ?_
 intro W base args ds gs before hval0 hW hcnd _
 have hval: ∀ (j:Nat) t v,Try.f8.params[j]? = some t→args[j]? = some v→Value.okWide Try.prog W .any base t v:=hval0
 have hW':=hW
 obtain ⟨p,q,hA0,hV,rfl,hfz,hnd⟩:=hW
 have hA:DataW.TrodAll enc Try.prog W 0 (fun _=>true) true Try.f8.params.toList args.toList ds p:=hA0
 rw [Try.params8] at hA hval
 obtain ⟨v0,vs0,d0,ds0,p0,q0,hargs,rfl,rfl,h0,r0⟩:=trodAll_cons hA
 obtain ⟨v1,vs1,d1,ds1,p1,q1,rfl,rfl,rfl,h1,r1⟩:=trodAll_cons r0
 obtain ⟨v2,vs2,d2,ds2,p2,q2,rfl,rfl,rfl,h2,r2⟩:=trodAll_cons r1
 obtain ⟨rfl,rfl,rfl⟩:=trodAll_nil r2
 obtain rfl:args = #[v0,v1,v2]:=by cases args;simp_all
 obtain ⟨A0,x0,k0⟩:=arg_agg (base:=base) (n:=8) (r:=[.int .i64,.sl [.int .i64,.sl [.int .i64,.int .i64,.int .i64,.sl [.int .i64]]],.sl [.str,.int .i64,.int .i64,.int .i64],.sl [.int .i64,.int .i64],.sl [.int .i64,.int .i64,.sl [.int .u8]]]) (by kernel_rfl) Try.underlying35 (hval 0 35 v0 rfl rfl) h0
 obtain ⟨a0,rfl,w0⟩:=conv_dm _ k0
 obtain ⟨A1,x1,k1⟩:=arg_agg (base:=base) (n:=8) (r:=[.int .i64,.int .i64]) (by kernel_rfl) Try.underlying61 (hval 1 61 v1 rfl rfl) h1
 obtain ⟨a1,rfl,w1⟩:=conv_pt _ k1
 obtain ⟨a2,x2,w2⟩:=arg_int Try.underlying3 (hval 2 3 v2 rfl rfl) h2
 exact law_step (xs:=[.agg (dDm a0), .agg (rowVc a1), .sc (.int .i64 a2)]) hW' rfl collectorRaw_laid (by kernel_rfl) (fun gs' h=>by subst h;rfl) rfl Try.underlying4 (by simp only [RL];exact ⟨_,_,rfl,x0,⟨_,_,rfl,x1,⟨_,_,rfl,x2,rfl⟩⟩⟩) (collectorRaw_calls w0 (wf_i64 w2))
theorem collectorRaw_over:Rows.collectorRawRow.holds Try.pinned (OpenSpec.ofChange Rows.collectorRawSpec):=
 OpenClaim.holds_of_wide 8 Try.f8 rfl rfl rfl rfl rfl rfl rfl ⟨rfl,rfl,rfl,rfl,rfl⟩ rfl rfl rfl rfl rfl (by kernel_rfl) Try.func8 (by kernel_rfl)
  (of_decide_eq_true (by kernel_rfl)) (by unfold Func.isWrapper;first|(rw [if_pos (by decide +kernel)];kernel_rfl)|(rw [if_neg (by decide +kernel)];exact ⟨rfl,rfl⟩))
  (fun os started H enc _=>collectorRaw_lifted os started H enc)
theorem collectorRaw_holds:Rows.CollectorRawSaid:=collectorRaw_over

end Go.Proofs.Ytmgodadmafcliaa
