/- Directory: the walks of Validate of the program and of the reference. -/
import Derived.Test.YteemiclhnfkekaaZCov
import Derived.Test.YteemiclhnfkekaaZBase
import Derived.Test.YteemiclhnfkekaaZAvmU
set_option linter.unusedSimpArgs false
set_option linter.unusedVariables false
namespace Go.Proofs.Yteemiclhnfkekaa
open Go.RowKit Go.Avm
def prevB (l:List Bd) (k:Nat):Option Bd:=if k=0 then none else l[k-1]?
theorem prevB_succ {vs:List Bd} {k:Nat} {v:Bd} (h:vs[k]? = some v):prevB vs (k+1)=some v:=by simp [prevB,h]
theorem prevB_pos {vs:List Bd} {k:Nat} {u:Bd} (h:0<k) (hu:vs[k-1]? = some u):prevB vs k=some u:=by simp [prevB,hu];omega
theorem prevB_zero (vs:List Bd):prevB vs 0=none:=rfl
def dupAt (l:List Bd) (k:Nat) (b:Bd):Bool:=(l.take k).any (fun a=>a.obj==b.obj&&ovB a b)
set_option maxRecDepth 100000 in set_option maxHeartbeats 6400000 in
theorem validd_calls {l:List Bd} (hl:l.length≤100000):ACalls Try.prog 59 [.sl 4 (l.map rowBd)] (.sc (.int .i64 (validB l))) []:=by
 refine of_tri [] [4,5,7,9,20,109] Try.func59 rfl call59 rfl (by decide) (by decide) rfl rfl Try.ntmps59 (by simp (disch:=omega) only [seval,go_sem,cnd,intV,shV,convV,strV,List.replicate,l_2,l_1];rfl) (by simp (disch:=omega) only [seval,go_sem,cnd,intV,shV,convV,strV,l_2,l_1];rfl) ?_
 ((repeat' (first|(with_reducible (first|refine Tri.seq ?_|refine Tri.block ?_|refine TriD.nil ?_|refine thenQ_n ?_|refine Tri.regionD (by simp only [l_3,l_4];rfl) ?_))|((with_reducible refine isTriD ?_);(with_reducible refine TriD.step (by simp only [seval,go_sem];rfl) ?_))))<;>(try (fail)))
 (with_reducible refine Tri.loopU (fun (k:Nat)=>[(12,.sc (.int .i64 k)),(2,.any),(3,.any),(4,.any),(5,.any),(13,.any),(14,.any),(15,.any),(16,.any),(17,.any),(18,.any),(19,.any),(20,.any),(21,.any),(22,.any),(23,.any),(24,.any),(25,.any),(26,.any),(27,.any),(28,.any),(29,.any),(30,.any),(31,.any),(32,.any),(33,.any),(34,.any),(35,.any),(36,.any),(37,.any),(38,.any),(39,.any),(40,.any),(41,.any),(42,.any),(43,.any),(44,.any),(45,.any),(46,.any),(47,.any),(48,.any),(49,.any),(50,.any),(51,.any),(52,.any),(53,.any),(54,.any),(55,.any),(56,.any),(57,.any),(58,.any),(59,.any),(60,.any),(61,.any),(62,.any),(63,.any),(64,.any),(65,.any),(66,.any),(67,.any),(68,.any),(69,.any),(70,.any),(71,.any),(72,.any),(73,.any),(74,.any),(75,.any),(76,.any),(77,.any),(78,.any),(79,.any),(80,.any),(81,.any),(82,.any),(83,.any),(84,.any),(85,.any)]) (fun (k:Nat)=>[(4,.dead),(5,.dead),(20,.dead)]) (fun (k:Nat)=>k≤l.length∧valid1 (prevB l k) (l.drop k)=valid1 none l) (fun (k:Nat)=>l.length-k) (0) (⟨Nat.zero_le _,rfl⟩) (by intro _;simp (disch:=omega) only [seval,go_sem,cnd,intV,shV,convV,strV];rfl) (by intro _;simp (disch:=omega) only [seval,go_sem,cnd,intV,shV,convV,strV];rfl) (by (refine leQL_spec ?_);(try simp only [seval,go_sem]);first|done|fail) (by (refine leQH_spec ?_);(try simp only [seval,go_sem]);first|done|fail) (fun k hI=>?_))
 obtain ⟨hk,hf⟩:=hI
 by_cases hlt:k<l.length
 ·obtain ⟨b,hb⟩:=get_lt hlt
  have hb':=get_map rowBd hb
  rw [drop_get hb,valid1] at hf
  by_cases hz:badB b=0
  ·rw [if_neg (by simp [hz])] at hf
   have hz2:=hz
   unfold badB at hz
   have n1:nameOk b.name=true:=by cases h:nameOk b.name<;>simp_all
   rw [if_neg (by simp [n1])] at hz
   have n2: ¬ (b.obj<1∨b.frm<1∨b.to<0):=fun h=>by rw [if_pos h] at hz;cases hz
   rw [if_neg n2] at hz
   have n3: ¬ (b.to≠0∧b.to≤b.frm):=fun h=>by rw [if_pos h] at hz;cases hz
   by_cases h0:k=0
   ·subst h0
    rw [prevB_zero] at hf
    simp only [Option.any_none,Bool.false_eq_true,if_false] at hf
    ((repeat' (first|(with_reducible (first|refine Tri.seq ?_|refine Tri.block ?_|refine Tri.skip ?_|refine Tri.exit ?_|refine TriD.nil ?_|refine thenQ_n ?_|refine thenQ_e ?_|refine inBlockQ_n ?_|refine inBlockQ_e ?_|refine loopQ_n ?_|refine Tri.regionD (by simp only [l_3,l_4];rfl) ?_))|((with_reducible refine isTriD ?_);first|(with_reducible refine TriD.step (by simp only [seval,go_sem,hb',rowBd,n1];rfl) ?_)|((with_reducible refine isCallD ?_);((with_reducible (refine TriD.dE (by simp only [seval,go_sem,hb',rowBd,n1];rfl) (by simp only [seval,go_sem,hb',rowBd,n1];rfl) ?_));refine CallK.c [] (isname_calls) (by simp only [seval,go_sem,hb',rowBd,n1];rfl) ?_))|(with_reducible first|refine TriD.step (by simp (disch:=omega) only [seval,go_sem,cnd,intV,shV,convV,strV,hb',rowBd,n1];rfl) ?_|refine TriD.byGuard (by simp only [seval,go_sem,hb',rowBd,n1];rfl) (by simp only [seval,go_sem,hb',rowBd,n1];rfl) (by (fail_if_success (with_reducible exact nlT));(fail_if_success (with_reducible exact nlF));exact nlI) (cvI ?_) (cvI ?_)))|(with_reducible refine isCond ?_;with_reducible refine Tri.cond (by simp only [seval,go_sem,hb',rowBd,n1];rfl) (cvI ?_) (cvI ?_))|(with_reducible refine isCv ?_;intro hc;(try simp only [bls,reduceCtorEq] at hc);(try (exfalso;omega)))))<;>(try (fail)))
    all_goals (try (exfalso;omega))
    all_goals (try (refine isNext (1) (by (refine leQL_spec ?_);(try simp only [seval,go_sem]);first|done|fail) (by (refine leQH_spec ?_);(try simp only [seval,go_sem]);first|done|fail) ?_ ?_<;>(try (omega))))
    all_goals (try (exact ⟨by omega,by rw [prevB_succ hb];exact hf⟩))
   ·obtain ⟨a,ha⟩:=get_lt (show k-1<l.length by omega)
    have ha':=get_map rowBd ha
    rw [prevB_pos (by omega) ha,Option.any_some] at hf
    cases hp:badP a b with
    | true=>
      rw [if_pos hp] at hf
      have hv:validB l=19:=by unfold validB;rw [if_pos (by omega)];exact hf.symm
      rw [hv]
      unfold badP ltN eqN at hp
      cases c1:Op.bytesLess b.name.toList a.name.toList with
      | true=>(all_goals (try have hZ:=(And.intro hb' ha'));(repeat' (first|(with_reducible (first|refine Tri.seq ?_|refine Tri.block ?_|refine Tri.skip ?_|refine Tri.ret ?_|refine TriD.nil ?_|refine thenQ_n ?_|refine thenQ_r ?_|refine inBlockQ_n ?_|refine inBlockQ_r ?_|refine loopQ_r ?_|refine Tri.regionD (by simp only [l_3,l_4];rfl) ?_))|((with_reducible refine isTriD ?_);first|(with_reducible refine TriD.step (by simp only [seval,go_sem,rowBd,n1,c1,hZ];rfl) ?_)|((with_reducible refine isCallD ?_);((with_reducible (refine TriD.dE (by simp only [seval,go_sem,rowBd,n1,c1,hZ];rfl) (by simp only [seval,go_sem,rowBd,n1,c1,hZ];rfl) ?_));refine CallK.c [] (isname_calls) (by simp only [seval,go_sem,rowBd,n1,c1,hZ];rfl) ?_))|(with_reducible first|refine TriD.step (by simp (disch:=omega) only [seval,go_sem,cnd,intV,shV,convV,strV,rowBd,n1,c1,hZ];rfl) ?_|refine TriD.byGuard (by simp only [seval,go_sem,rowBd,n1,c1,hZ];rfl) (by simp only [seval,go_sem,rowBd,n1,c1,hZ];rfl) (by (fail_if_success (with_reducible exact nlT));(fail_if_success (with_reducible exact nlF));exact nlI) (cvI ?_) (cvI ?_)))|(with_reducible refine isCond ?_;with_reducible refine Tri.cond (by simp only [seval,go_sem,rowBd,n1,c1,hZ];rfl) (cvI ?_) (cvI ?_))|(with_reducible refine isCv ?_;intro hc;(try simp only [bls,reduceCtorEq] at hc);(try (exfalso;omega)))|(with_reducible refine isRet ?_;refine RetOK.q rfl rfl (by simp only [seval,go_sem];rfl) (by decide) (by simp only [seval,go_sem];rfl) (by simp only [seval,go_sem];rfl) rfl ?_<;>(try simp only [seval,go_sem])<;>(repeat' (with_reducible apply And.intro))<;>(try rfl))))<;>(try (fail));all_goals (try clear hZ))
      | false=>
        rw [c1] at hp
        cases c2:(b.name.toList==a.name.toList) with
        | false=>rw [c2] at hp;simp at hp
        | true=>
          simp only [c2,Bool.false_or,Bool.true_and,Bool.or_eq_true,decide_eq_true_eq,beq_iff_eq] at hp
          by_cases c3:b.frm≤a.frm
          ·(all_goals (try have hZ:=(And.intro hb' ha'));(repeat' (first|(with_reducible (first|refine Tri.seq ?_|refine Tri.block ?_|refine Tri.skip ?_|refine Tri.ret ?_|refine TriD.nil ?_|refine thenQ_n ?_|refine thenQ_r ?_|refine inBlockQ_n ?_|refine inBlockQ_r ?_|refine loopQ_r ?_|refine Tri.regionD (by simp only [l_3,l_4];rfl) ?_))|((with_reducible refine isTriD ?_);first|(with_reducible refine TriD.step (by simp only [seval,go_sem,rowBd,n1,c1,c2,hZ];rfl) ?_)|((with_reducible refine isCallD ?_);((with_reducible (refine TriD.dE (by simp only [seval,go_sem,rowBd,n1,c1,c2,hZ];rfl) (by simp only [seval,go_sem,rowBd,n1,c1,c2,hZ];rfl) ?_));refine CallK.c [] (isname_calls) (by simp only [seval,go_sem,rowBd,n1,c1,c2,hZ];rfl) ?_))|(with_reducible first|refine TriD.step (by simp (disch:=omega) only [seval,go_sem,cnd,intV,shV,convV,strV,rowBd,n1,c1,c2,hZ];rfl) ?_|refine TriD.byGuard (by simp only [seval,go_sem,rowBd,n1,c1,c2,hZ];rfl) (by simp only [seval,go_sem,rowBd,n1,c1,c2,hZ];rfl) (by (fail_if_success (with_reducible exact nlT));(fail_if_success (with_reducible exact nlF));exact nlI) (cvI ?_) (cvI ?_)))|(with_reducible refine isCond ?_;with_reducible refine Tri.cond (by simp only [seval,go_sem,rowBd,n1,c1,c2,hZ];rfl) (cvI ?_) (cvI ?_))|(with_reducible refine isCv ?_;intro hc;(try simp only [bls,reduceCtorEq] at hc);(try (exfalso;omega)))|(with_reducible refine isRet ?_;refine RetOK.q rfl rfl (by simp only [seval,go_sem];rfl) (by decide) (by simp only [seval,go_sem];rfl) (by simp only [seval,go_sem];rfl) rfl ?_<;>(try simp only [seval,go_sem])<;>(repeat' (with_reducible apply And.intro))<;>(try rfl))))<;>(try (fail));all_goals (try clear hZ))
          ·by_cases c4:a.to=0
           ·(all_goals (try have hZ:=(And.intro hb' ha'));(repeat' (first|(with_reducible (first|refine Tri.seq ?_|refine Tri.block ?_|refine Tri.skip ?_|refine Tri.ret ?_|refine TriD.nil ?_|refine thenQ_n ?_|refine thenQ_r ?_|refine inBlockQ_n ?_|refine inBlockQ_r ?_|refine loopQ_r ?_|refine Tri.regionD (by simp only [l_3,l_4];rfl) ?_))|((with_reducible refine isTriD ?_);first|(with_reducible refine TriD.step (by simp only [seval,go_sem,rowBd,n1,c1,c2,hZ];rfl) ?_)|((with_reducible refine isCallD ?_);((with_reducible (refine TriD.dE (by simp only [seval,go_sem,rowBd,n1,c1,c2,hZ];rfl) (by simp only [seval,go_sem,rowBd,n1,c1,c2,hZ];rfl) ?_));refine CallK.c [] (isname_calls) (by simp only [seval,go_sem,rowBd,n1,c1,c2,hZ];rfl) ?_))|(with_reducible first|refine TriD.step (by simp (disch:=omega) only [seval,go_sem,cnd,intV,shV,convV,strV,rowBd,n1,c1,c2,hZ];rfl) ?_|refine TriD.byGuard (by simp only [seval,go_sem,rowBd,n1,c1,c2,hZ];rfl) (by simp only [seval,go_sem,rowBd,n1,c1,c2,hZ];rfl) (by (fail_if_success (with_reducible exact nlT));(fail_if_success (with_reducible exact nlF));exact nlI) (cvI ?_) (cvI ?_)))|(with_reducible refine isCond ?_;with_reducible refine Tri.cond (by simp only [seval,go_sem,rowBd,n1,c1,c2,hZ];rfl) (cvI ?_) (cvI ?_))|(with_reducible refine isCv ?_;intro hc;(try simp only [bls,reduceCtorEq] at hc);(try (exfalso;omega)))|(with_reducible refine isRet ?_;refine RetOK.q rfl rfl (by simp only [seval,go_sem];rfl) (by decide) (by simp only [seval,go_sem];rfl) (by simp only [seval,go_sem];rfl) rfl ?_<;>(try simp only [seval,go_sem])<;>(repeat' (with_reducible apply And.intro))<;>(try rfl))))<;>(try (fail));all_goals (try clear hZ))
           ·have c5:b.frm<a.to:=by omega
            (all_goals (try have hZ:=(And.intro hb' ha'));(repeat' (first|(with_reducible (first|refine Tri.seq ?_|refine Tri.block ?_|refine Tri.skip ?_|refine Tri.ret ?_|refine TriD.nil ?_|refine thenQ_n ?_|refine thenQ_r ?_|refine inBlockQ_n ?_|refine inBlockQ_r ?_|refine loopQ_r ?_|refine Tri.regionD (by simp only [l_3,l_4];rfl) ?_))|((with_reducible refine isTriD ?_);first|(with_reducible refine TriD.step (by simp only [seval,go_sem,rowBd,n1,c1,c2,hZ];rfl) ?_)|((with_reducible refine isCallD ?_);((with_reducible (refine TriD.dE (by simp only [seval,go_sem,rowBd,n1,c1,c2,hZ];rfl) (by simp only [seval,go_sem,rowBd,n1,c1,c2,hZ];rfl) ?_));refine CallK.c [] (isname_calls) (by simp only [seval,go_sem,rowBd,n1,c1,c2,hZ];rfl) ?_))|(with_reducible first|refine TriD.step (by simp (disch:=omega) only [seval,go_sem,cnd,intV,shV,convV,strV,rowBd,n1,c1,c2,hZ];rfl) ?_|refine TriD.byGuard (by simp only [seval,go_sem,rowBd,n1,c1,c2,hZ];rfl) (by simp only [seval,go_sem,rowBd,n1,c1,c2,hZ];rfl) (by (fail_if_success (with_reducible exact nlT));(fail_if_success (with_reducible exact nlF));exact nlI) (cvI ?_) (cvI ?_)))|(with_reducible refine isCond ?_;with_reducible refine Tri.cond (by simp only [seval,go_sem,rowBd,n1,c1,c2,hZ];rfl) (cvI ?_) (cvI ?_))|(with_reducible refine isCv ?_;intro hc;(try simp only [bls,reduceCtorEq] at hc);(try (exfalso;omega)))|(with_reducible refine isRet ?_;refine RetOK.q rfl rfl (by simp only [seval,go_sem];rfl) (by decide) (by simp only [seval,go_sem];rfl) (by simp only [seval,go_sem];rfl) rfl ?_<;>(try simp only [seval,go_sem])<;>(repeat' (with_reducible apply And.intro))<;>(try rfl))))<;>(try (fail));all_goals (try clear hZ))
    | false=>
      rw [hp] at hf
      simp only [Bool.false_eq_true,if_false] at hf
      unfold badP ltN eqN at hp
      cases c1:Op.bytesLess b.name.toList a.name.toList with
      | true=>rw [c1] at hp;simp at hp
      | false=>
        rw [c1] at hp
        cases c2:(b.name.toList==a.name.toList) with
        | false=>
          (all_goals (try have hZ:=(And.intro hb' ha'));(repeat' (first|(with_reducible (first|refine Tri.seq ?_|refine Tri.block ?_|refine Tri.skip ?_|refine TriD.nil ?_|refine thenQ_n ?_|refine inBlockQ_n ?_|refine loopQ_n ?_|refine Tri.regionD (by simp only [l_3,l_4];rfl) ?_))|((with_reducible refine isTriD ?_);first|(with_reducible refine TriD.step (by simp only [seval,go_sem,rowBd,n1,c1,c2,hZ];rfl) ?_)|((with_reducible refine isCallD ?_);((with_reducible (refine TriD.dE (by simp only [seval,go_sem,rowBd,n1,c1,c2,hZ];rfl) (by simp only [seval,go_sem,rowBd,n1,c1,c2,hZ];rfl) ?_));refine CallK.c [] (isname_calls) (by simp only [seval,go_sem,rowBd,n1,c1,c2,hZ];rfl) ?_))|(with_reducible first|refine TriD.step (by simp (disch:=omega) only [seval,go_sem,cnd,intV,shV,convV,strV,rowBd,n1,c1,c2,hZ];rfl) ?_|refine TriD.byGuard (by simp only [seval,go_sem,rowBd,n1,c1,c2,hZ];rfl) (by simp only [seval,go_sem,rowBd,n1,c1,c2,hZ];rfl) (by (fail_if_success (with_reducible exact nlT));(fail_if_success (with_reducible exact nlF));exact nlI) (cvI ?_) (cvI ?_)))|(with_reducible refine isCond ?_;with_reducible refine Tri.cond (by simp only [seval,go_sem,rowBd,n1,c1,c2,hZ];rfl) (cvI ?_) (cvI ?_))|(with_reducible refine isCv ?_;intro hc;(try simp only [bls,reduceCtorEq] at hc);(try (exfalso;omega)))))<;>(try (fail));all_goals (try clear hZ))
          all_goals (try (refine isNext (k+1) (by (refine leQL_spec ?_);(try simp only [seval,go_sem]);first|((repeat' (with_reducible apply And.intro))<;>first|rfl);first|done|fail) (by (refine leQH_spec ?_);(try simp only [seval,go_sem]);first|done|fail) ?_ ?_<;>(try (omega))))
          all_goals (try (exact ⟨by omega,by rw [prevB_succ hb];exact hf⟩))
        | true=>
          simp only [c2,Bool.false_or,Bool.true_and,Bool.or_eq_false_iff,decide_eq_false_iff_not,beq_eq_false_iff_ne,ne_eq] at hp
          obtain ⟨⟨c3,c4⟩,c5⟩:=hp
          (all_goals (try have hZ:=(And.intro hb' ha'));(repeat' (first|(with_reducible (first|refine Tri.seq ?_|refine Tri.block ?_|refine Tri.skip ?_|refine TriD.nil ?_|refine thenQ_n ?_|refine inBlockQ_n ?_|refine loopQ_n ?_|refine Tri.regionD (by simp only [l_3,l_4];rfl) ?_))|((with_reducible refine isTriD ?_);first|(with_reducible refine TriD.step (by simp only [seval,go_sem,rowBd,n1,c1,c2,hZ];rfl) ?_)|((with_reducible refine isCallD ?_);((with_reducible (refine TriD.dE (by simp only [seval,go_sem,rowBd,n1,c1,c2,hZ];rfl) (by simp only [seval,go_sem,rowBd,n1,c1,c2,hZ];rfl) ?_));refine CallK.c [] (isname_calls) (by simp only [seval,go_sem,rowBd,n1,c1,c2,hZ];rfl) ?_))|(with_reducible first|refine TriD.step (by simp (disch:=omega) only [seval,go_sem,cnd,intV,shV,convV,strV,rowBd,n1,c1,c2,hZ];rfl) ?_|refine TriD.byGuard (by simp only [seval,go_sem,rowBd,n1,c1,c2,hZ];rfl) (by simp only [seval,go_sem,rowBd,n1,c1,c2,hZ];rfl) (by (fail_if_success (with_reducible exact nlT));(fail_if_success (with_reducible exact nlF));exact nlI) (cvI ?_) (cvI ?_)))|(with_reducible refine isCond ?_;with_reducible refine Tri.cond (by simp only [seval,go_sem,rowBd,n1,c1,c2,hZ];rfl) (cvI ?_) (cvI ?_))|(with_reducible refine isCv ?_;intro hc;(try simp only [bls,reduceCtorEq] at hc);(try (exfalso;omega)))))<;>(try (fail));all_goals (try clear hZ))
          all_goals (try (refine isNext (k+1) (by (refine leQL_spec ?_);(try simp only [seval,go_sem]);first|((repeat' (with_reducible apply And.intro))<;>first|rfl);first|done|fail) (by (refine leQH_spec ?_);(try simp only [seval,go_sem]);first|done|fail) ?_ ?_<;>(try (omega))))
          all_goals (try (exact ⟨by omega,by rw [prevB_succ hb];exact hf⟩))
  ·rw [if_pos hz] at hf
   have hv:validB l=badB b:=by unfold validB;rw [if_pos (by omega)];exact hf.symm
   rw [hv]
   unfold badB
   cases n1:nameOk b.name with
   | false=>((repeat' (first|(with_reducible (first|refine Tri.seq ?_|refine Tri.block ?_|refine Tri.skip ?_|refine Tri.ret ?_|refine TriD.nil ?_|refine thenQ_n ?_|refine thenQ_r ?_|refine inBlockQ_r ?_|refine loopQ_r ?_|refine Tri.regionD (by simp only [l_3,l_4];rfl) ?_))|((with_reducible refine isTriD ?_);first|(with_reducible refine TriD.step (by simp only [seval,go_sem,hb',rowBd,n1];rfl) ?_)|((with_reducible refine isCallD ?_);((with_reducible (refine TriD.dE (by simp only [seval,go_sem,hb',rowBd,n1];rfl) (by simp only [seval,go_sem,hb',rowBd,n1];rfl) ?_));refine CallK.c [] (isname_calls) (by simp only [seval,go_sem,hb',rowBd,n1];rfl) ?_))|(with_reducible refine TriD.step (by simp (disch:=omega) only [seval,go_sem,cnd,intV,shV,convV,strV,hb',rowBd,n1];rfl) ?_))|(with_reducible refine isCond ?_;with_reducible refine Tri.cond (by simp only [seval,go_sem,hb',rowBd,n1];rfl) (cvI ?_) (cvI ?_))|(with_reducible refine isCv ?_;intro hc;(try simp only [bls,reduceCtorEq] at hc);(try (exfalso;omega)))|(with_reducible refine isRet ?_;refine RetOK.q rfl rfl (by simp only [seval,go_sem];rfl) (by decide) (by simp only [seval,go_sem];rfl) (by simp only [seval,go_sem];rfl) rfl ?_<;>(try simp only [seval,go_sem])<;>(repeat' (with_reducible apply And.intro))<;>(try rfl))))<;>(try (fail)))
   | true=>
     simp only [Bool.true_eq_false,if_false]
     by_cases n2:b.obj<1∨b.frm<1∨b.to<0
     ·rw [if_pos n2]
      ((repeat' (first|(with_reducible (first|refine Tri.seq ?_|refine Tri.block ?_|refine Tri.skip ?_|refine Tri.ret ?_|refine TriD.nil ?_|refine thenQ_n ?_|refine thenQ_r ?_|refine inBlockQ_r ?_|refine loopQ_r ?_|refine Tri.regionD (by simp only [l_3,l_4];rfl) ?_))|((with_reducible refine isTriD ?_);first|(with_reducible refine TriD.step (by simp only [seval,go_sem,hb',rowBd,n1];rfl) ?_)|((with_reducible refine isCallD ?_);((with_reducible (refine TriD.dE (by simp only [seval,go_sem,hb',rowBd,n1];rfl) (by simp only [seval,go_sem,hb',rowBd,n1];rfl) ?_));refine CallK.c [] (isname_calls) (by simp only [seval,go_sem,hb',rowBd,n1];rfl) ?_))|(with_reducible first|refine TriD.step (by simp (disch:=omega) only [seval,go_sem,cnd,intV,shV,convV,strV,hb',rowBd,n1];rfl) ?_|refine TriD.byGuard (by simp only [seval,go_sem,hb',rowBd,n1];rfl) (by simp only [seval,go_sem,hb',rowBd,n1];rfl) (by (fail_if_success (with_reducible exact nlT));(fail_if_success (with_reducible exact nlF));exact nlI) (cvI ?_) (cvI ?_)))|(with_reducible refine isCond ?_;with_reducible refine Tri.cond (by simp only [seval,go_sem,hb',rowBd,n1];rfl) (cvI ?_) (cvI ?_))|(with_reducible refine isCv ?_;intro hc;(try simp only [bls,reduceCtorEq] at hc);(try (exfalso;omega)))|(with_reducible refine isRet ?_;refine RetOK.q rfl rfl (by simp only [seval,go_sem];rfl) (by decide) (by simp only [seval,go_sem];rfl) (by simp only [seval,go_sem];rfl) rfl ?_<;>(try simp only [seval,go_sem])<;>(repeat' (with_reducible apply And.intro))<;>(try rfl))))<;>(try (fail)))
      all_goals (try (exfalso;omega))
     ·rw [if_neg n2]
      have n3:b.to≠0∧b.to≤b.frm:=by
       refine Decidable.byContradiction fun h=>hz ?_
       unfold badB
       rw [if_neg (by simp [n1]),if_neg n2,if_neg h]
      rw [if_pos n3]
      ((repeat' (first|(with_reducible (first|refine Tri.seq ?_|refine Tri.block ?_|refine Tri.skip ?_|refine Tri.ret ?_|refine TriD.nil ?_|refine thenQ_n ?_|refine thenQ_r ?_|refine inBlockQ_r ?_|refine loopQ_r ?_|refine Tri.regionD (by simp only [l_3,l_4];rfl) ?_))|((with_reducible refine isTriD ?_);first|(with_reducible refine TriD.step (by simp only [seval,go_sem,hb',rowBd,n1];rfl) ?_)|((with_reducible refine isCallD ?_);((with_reducible (refine TriD.dE (by simp only [seval,go_sem,hb',rowBd,n1];rfl) (by simp only [seval,go_sem,hb',rowBd,n1];rfl) ?_));refine CallK.c [] (isname_calls) (by simp only [seval,go_sem,hb',rowBd,n1];rfl) ?_))|(with_reducible refine TriD.step (by simp (disch:=omega) only [seval,go_sem,cnd,intV,shV,convV,strV,hb',rowBd,n1];rfl) ?_))|(with_reducible refine isCond ?_;with_reducible refine Tri.cond (by simp only [seval,go_sem,hb',rowBd,n1];rfl) (cvI ?_) (cvI ?_))|(with_reducible refine isCv ?_;intro hc;(try simp only [bls,reduceCtorEq] at hc);(try (exfalso;omega)))|(with_reducible refine isRet ?_;refine RetOK.q rfl rfl (by simp only [seval,go_sem];rfl) (by decide) (by simp only [seval,go_sem];rfl) (by simp only [seval,go_sem];rfl) rfl ?_<;>(try simp only [seval,go_sem])<;>(repeat' (with_reducible apply And.intro))<;>(try rfl))))<;>(try (fail)))
 ·rw [List.drop_eq_nil_of_le (by omega),valid1] at hf
  have hv:validB l=if dupB l l 0=true then 9 else 0:=by unfold validB;rw [if_neg (by omega)]
  rw [hv]
  ((repeat' (first|(with_reducible (first|refine Tri.seq ?_|refine Tri.block ?_|refine Tri.exit ?_|refine TriD.nil ?_|refine thenQ_n ?_|refine thenQ_e ?_|refine inBlockQ_e ?_|refine loopQ_e ?_|refine Tri.regionD (by simp only [l_3,l_4];rfl) ?_))|((with_reducible refine isTriD ?_);(with_reducible first|refine TriD.step (by simp only [seval,go_sem];rfl) ?_|refine TriD.step (by simp (disch:=omega) only [seval,go_sem,cnd,intV,shV,convV,strV];rfl) ?_))|(with_reducible refine isCond ?_;with_reducible refine Tri.cond (by simp only [seval,go_sem];rfl) (cvI ?_) (cvI ?_))|(with_reducible refine isCv ?_;intro hc;(try simp only [bls,reduceCtorEq] at hc);(try (exfalso;omega)))))<;>(try (fail)))
  (with_reducible refine Tri.loopU (fun (k:Nat)=>[(88,.sc (.int .i64 k)),(2,.any),(6,.any),(7,.any),(9,.any),(89,.any),(90,.any),(91,.any),(92,.any),(93,.any),(94,.any),(95,.any),(96,.any),(97,.any),(98,.any),(99,.any),(100,.any),(101,.any),(102,.any),(103,.any),(104,.any),(105,.any),(106,.any),(107,.any),(108,.any),(109,.any),(110,.any),(111,.any),(112,.any)]) (fun (k:Nat)=>[(7,.dead),(9,.dead),(109,.dead)]) (fun (k:Nat)=>k≤l.length∧dupB l (l.drop k) k=dupB l l 0) (fun (k:Nat)=>l.length-k) (0) (⟨Nat.zero_le _,rfl⟩) (by intro _;simp (disch:=omega) only [seval,go_sem,cnd,intV,shV,convV,strV];rfl) (by intro _;simp (disch:=omega) only [seval,go_sem,cnd,intV,shV,convV,strV];rfl) (by (refine leQL_spec ?_);(try simp only [seval,go_sem]);first|done|fail) (by (refine leQH_spec ?_);(try simp only [seval,go_sem]);first|done|fail) (fun k hI=>?_))
  clear hlt hk
  obtain ⟨hk,hg⟩:=hI
  by_cases hlt:k<l.length
  ·obtain ⟨b,hb⟩:=get_lt hlt
   have hb':=get_map rowBd hb
   rw [drop_get hb,dupB] at hg
   have htl:((l.map rowBd).take k).length=k:=by rw [List.length_take,List.length_map];omega
   (all_goals (try have hZ:=(And.intro hb' htl));(repeat' (first|(with_reducible (first|refine Tri.seq ?_|refine Tri.block ?_|refine Tri.skip ?_|refine TriD.nil ?_|refine thenQ_n ?_|refine Tri.regionD (by simp only [l_3,l_4];rfl) ?_))|((with_reducible refine isTriD ?_);(with_reducible first|refine TriD.step (by simp only [seval,go_sem,rowBd,hZ];rfl) ?_|refine TriD.step (by simp (disch:=omega) only [seval,go_sem,cnd,intV,shV,convV,strV,rowBd,hZ];rfl) ?_))|(with_reducible refine isCond ?_;with_reducible refine Tri.cond (by simp only [seval,go_sem,rowBd,hZ];rfl) (cvI ?_) (cvI ?_))|(with_reducible refine isCv ?_;intro hc;(try simp only [bls,reduceCtorEq] at hc);(try (exfalso;omega)))))<;>(try (fail));all_goals (try clear hZ))
   (with_reducible refine Tri.loopU (fun (j:Nat)=>[(97,.sc (.int .i64 j)),(2,.any),(9,.any),(98,.any),(99,.any),(100,.any),(101,.any),(102,.any),(103,.any),(104,.any),(105,.any),(106,.any),(107,.any),(108,.any),(109,.any),(110,.any),(111,.any)]) (fun (j:Nat)=>[(9,.dead),(109,.dead)]) (fun (j:Nat)=>j≤k∧((l.take k).drop j).any (fun a=>a.obj==b.obj&&ovB a b)=(l.take k).any (fun a=>a.obj==b.obj&&ovB a b)) (fun (j:Nat)=>k-j) (0) (⟨Nat.zero_le _,rfl⟩) (by intro _;simp (disch:=omega) only [seval,go_sem,cnd,intV,shV,convV,strV];rfl) (by intro _;simp (disch:=omega) only [seval,go_sem,cnd,intV,shV,convV,strV];rfl) (by (refine leQL_spec ?_);(try simp only [seval,go_sem]);first|done|fail) (by (refine leQH_spec ?_);(try simp only [seval,go_sem]);first|done|fail) (fun j hI=>?_))
   obtain ⟨hj,hh⟩:=hI
   by_cases hjk:j<k
   ·obtain ⟨a,ha⟩:=get_lt (show j<l.length by omega)
    have hat:(l.take k)[j]? = some a:=by rw [List.getElem?_take_of_lt hjk];exact ha
    have ha':=get_map rowBd hat
    rw [List.map_take] at ha'
    have hov:=overlap_calls (a:=a) (b:=b)
    simp only [rowBd] at hov
    rw [drop_get hat,List.any_cons] at hh
    by_cases c1:a.obj=b.obj
    ·rw [beq_iff_eq.2 c1,Bool.true_and] at hh
     cases c2:ovB a b with
     | false=>
       rw [c2,Bool.false_or] at hh
       ((repeat' (first|(with_reducible (first|refine Tri.seq ?_|refine Tri.block ?_|refine Tri.skip ?_|refine TriD.nil ?_|refine thenQ_n ?_|refine inBlockQ_n ?_|refine loopQ_n ?_|refine Tri.regionD (by simp only [l_3,l_4];rfl) ?_))|((with_reducible refine isTriD ?_);first|(with_reducible refine TriD.step (by simp only [seval,go_sem,ha',rowBd,c2];rfl) ?_)|((with_reducible refine isCallD ?_);((with_reducible (refine TriD.dE (by simp only [seval,go_sem,ha',rowBd,c2];rfl) (by simp only [seval,go_sem,ha',rowBd,c2];rfl) ?_));refine CallK.c [] (hov) (by simp only [seval,go_sem,ha',rowBd,c2];rfl) ?_))|(with_reducible refine TriD.step (by simp (disch:=omega) only [seval,go_sem,cnd,intV,shV,convV,strV,ha',rowBd,c2];rfl) ?_))|(with_reducible refine isCond ?_;with_reducible refine Tri.cond (by simp only [seval,go_sem,ha',rowBd,c2];rfl) (cvI ?_) (cvI ?_))|(with_reducible refine isCv ?_;intro hc;(try simp only [bls,reduceCtorEq] at hc);(try (exfalso;omega)))))<;>(try (fail)))
       all_goals (try (refine isNext (j+1) (by (refine leQL_spec ?_);(try simp only [seval,go_sem]);first|((repeat' (with_reducible apply And.intro))<;>first|rfl);first|done|fail) (by (refine leQH_spec ?_);(try simp only [seval,go_sem]);first|done|fail) ?_ ?_<;>(try (omega))))
       all_goals (try (exact ⟨by omega,hh⟩))
     | true=>
       rw [c2,Bool.true_or] at hh
       rw [← hh,Bool.true_or] at hg
       rw [← hg,if_pos rfl]
       ((repeat' (first|(with_reducible (first|refine Tri.seq ?_|refine Tri.block ?_|refine Tri.skip ?_|refine Tri.ret ?_|refine TriD.nil ?_|refine thenQ_n ?_|refine thenQ_r ?_|refine inBlockQ_r ?_|refine loopQ_r ?_|refine Tri.regionD (by simp only [l_3,l_4];rfl) ?_))|((with_reducible refine isTriD ?_);first|(with_reducible refine TriD.step (by simp only [seval,go_sem,ha',rowBd,c2];rfl) ?_)|((with_reducible refine isCallD ?_);((with_reducible (refine TriD.dE (by simp only [seval,go_sem,ha',rowBd,c2];rfl) (by simp only [seval,go_sem,ha',rowBd,c2];rfl) ?_));refine CallK.c [] (hov) (by simp only [seval,go_sem,ha',rowBd,c2];rfl) ?_))|(with_reducible refine TriD.step (by simp (disch:=omega) only [seval,go_sem,cnd,intV,shV,convV,strV,ha',rowBd,c2];rfl) ?_))|(with_reducible refine isCond ?_;with_reducible refine Tri.cond (by simp only [seval,go_sem,ha',rowBd,c2];rfl) (cvI ?_) (cvI ?_))|(with_reducible refine isCv ?_;intro hc;(try simp only [bls,reduceCtorEq] at hc);(try (exfalso;omega)))|(with_reducible refine isRet ?_;refine RetOK.q rfl rfl (by simp only [seval,go_sem];rfl) (by decide) (by simp only [seval,go_sem];rfl) (by simp only [seval,go_sem];rfl) rfl ?_<;>(try simp only [seval,go_sem])<;>(repeat' (with_reducible apply And.intro))<;>(try rfl))))<;>(try (fail)))
    ·rw [beq_eq_false_iff_ne.2 c1,Bool.false_and,Bool.false_or] at hh
     ((repeat' (first|(with_reducible (first|refine Tri.seq ?_|refine Tri.block ?_|refine Tri.skip ?_|refine TriD.nil ?_|refine thenQ_n ?_|refine inBlockQ_n ?_|refine loopQ_n ?_|refine Tri.regionD (by simp only [l_3,l_4];rfl) ?_))|((with_reducible refine isTriD ?_);(with_reducible first|refine TriD.step (by simp only [seval,go_sem,ha',rowBd];rfl) ?_|refine TriD.step (by simp (disch:=omega) only [seval,go_sem,cnd,intV,shV,convV,strV,ha',rowBd];rfl) ?_))|(with_reducible refine isCond ?_;with_reducible refine Tri.cond (by simp only [seval,go_sem,ha',rowBd];rfl) (cvI ?_) (cvI ?_))|(with_reducible refine isCv ?_;intro hc;(try simp only [bls,reduceCtorEq] at hc);(try (exfalso;omega)))))<;>(try (fail)))
     all_goals (try (refine isNext (j+1) (by (refine leQL_spec ?_);(try simp only [seval,go_sem]);first|((repeat' (with_reducible apply And.intro))<;>first|rfl);first|done|fail) (by (refine leQH_spec ?_);(try simp only [seval,go_sem]);first|done|fail) ?_ ?_<;>(try (omega))))
     all_goals (try (exact ⟨by omega,hh⟩))
   ·have:j=k:=by omega
    subst this
    rw [List.drop_eq_nil_of_le (by rw [List.length_take];omega),List.any_nil] at hh
    rw [← hh,Bool.false_or] at hg
    ((repeat' (first|(with_reducible (first|refine Tri.seq ?_|refine Tri.exit ?_|refine TriD.nil ?_|refine thenQ_n ?_|refine thenQ_e ?_|refine inBlockQ_n ?_|refine inBlockQ_e ?_|refine loopQ_n ?_|refine loopQ_e ?_|refine Tri.regionD (by simp only [l_3,l_4];rfl) ?_))|((with_reducible refine isTriD ?_);(with_reducible first|refine TriD.step (by simp only [seval,go_sem];rfl) ?_|refine TriD.step (by simp (disch:=omega) only [seval,go_sem,cnd,intV,shV,convV,strV];rfl) ?_))|(with_reducible refine isCond ?_;with_reducible refine Tri.cond (by simp only [seval,go_sem];rfl) (cvI ?_) (cvI ?_))|(with_reducible refine isCv ?_;intro hc;(try simp only [bls,reduceCtorEq] at hc);(try (exfalso;omega)))))<;>(try (fail)))
    all_goals (try (refine isNext (j+1) (by (refine leQL_spec ?_);(try simp only [seval,go_sem]);first|((repeat' (with_reducible apply And.intro))<;>first|rfl);first|done|fail) (by (refine leQH_spec ?_);(try simp only [seval,go_sem]);first|done|fail) ?_ ?_<;>(try (omega))))
    all_goals (try (exact ⟨by omega,hg⟩))
  ·rw [List.drop_eq_nil_of_le (by omega),dupB] at hg
   rw [← hg]
   ((repeat' (first|(with_reducible (first|refine Tri.seq ?_|refine Tri.exit ?_|refine Tri.ret ?_|refine TriD.nil ?_|refine thenQ_n ?_|refine thenQ_e ?_|refine inBlockQ_e ?_|refine loopQ_e ?_|refine Tri.regionD (by simp only [l_3,l_4];rfl) ?_))|((with_reducible refine isTriD ?_);(with_reducible first|refine TriD.step (by simp only [seval,go_sem];rfl) ?_|refine TriD.step (by simp (disch:=omega) only [seval,go_sem,cnd,intV,shV,convV,strV];rfl) ?_))|(with_reducible refine isCond ?_;with_reducible refine Tri.cond (by simp only [seval,go_sem];rfl) (cvI ?_) (cvI ?_))|(with_reducible refine isCv ?_;intro hc;(try simp only [bls,reduceCtorEq] at hc);(try (exfalso;omega)))|(with_reducible refine isRet ?_;refine RetOK.q rfl rfl (by simp only [seval,go_sem];rfl) (by decide) (by simp only [seval,go_sem];rfl) (by simp only [seval,go_sem];rfl) rfl ?_<;>(try simp only [seval,go_sem])<;>(repeat' (with_reducible apply And.intro))<;>(try rfl))))<;>(try (fail)))
end Go.Proofs.Yteemiclhnfkekaa
/- Directory: facts about valid bindings (plain). -/
set_option linter.unusedSimpArgs false
set_option linter.unusedVariables false
namespace Go.Proofs.Yteemiclhnfkekaa
open Go.RowKit Go.Avm
theorem valid1_all: ∀ (l:List Bd) (p:Option Bd),valid1 p l=0→ ∀ b∈l,badB b=0
 | [],_,_,b,hb=>by cases hb
 | x::l,p,h,b,hb=>by
   rw [valid1] at h
   by_cases h1:badB x=0
   ·rw [if_neg (by simp [h1])] at h
    split at h
    ·cases h
    ·rcases List.mem_cons.1 hb with rfl|hb
     ·exact h1
     ·exact valid1_all l _ h b hb
   ·rw [if_pos h1] at h;exact absurd h h1
theorem badB_ok {b:Bd} (h:badB b=0):nameOk b.name=true∧1≤b.obj∧1≤b.frm∧0≤b.to∧(b.to=0∨b.frm<b.to):=by
 unfold badB at h
 split at h
 ·cases h
 ·rename_i h1
  split at h
  ·cases h
  ·split at h
   ·cases h
   ·exact ⟨by simpa using h1,by omega,by omega,by omega,by omega⟩
end Go.Proofs.Yteemiclhnfkekaa
/- Directory: the walk of Validate of the reference. -/
set_option linter.unusedSimpArgs false
set_option linter.unusedVariables false
namespace Go.Proofs.Yteemiclhnfkekaa
open Go.RowKit Go.Avm
end Go.Proofs.Yteemiclhnfkekaa
/- Audit: the data of a dump; what the checks of the program and of the reference compute (plain). -/
set_option linter.unusedSimpArgs false
set_option linter.unusedVariables false
namespace Go.Proofs.Yteemiclhnfkekaa
open Go.RowKit Go.Avm
structure Cf where
 ses:Int
 nam:Int
 pag:Int
 psz:Int
 pin:Int
 com:Int
 chk:Int
 deriving DecidableEq
def dCf (c:Cf):List D:=[.sc (.int .i64 c.ses), .sc (.int .i64 c.nam), .sc (.int .i64 c.pag), .sc (.int .i64 c.psz), .sc (.int .i64 c.pin), .sc (.int .i64 c.com), .sc (.int .i64 c.chk)]
structure Pg where
 num:Int
 refs:Int
 data:List Int
 deriving DecidableEq
def rowW (z:Int):List D:=[.sc (.int .u8 z)]
def rowPg (p:Pg):List D:=[.sc (.int .i64 p.num), .sc (.int .i64 p.refs), .sl 1 (p.data.map rowW)]
structure Ob where
 id:Int
 vers:List Ver
 deriving DecidableEq
def rowOb (o:Ob):List D:=[.sc (.int .i64 o.id), .sl 4 (o.vers.map rowV)]
structure Dm where
 commit:Int
 objs:List Ob
 binds:List Bd
 pins:List Pn
 pages:List Pg
def dDm (d:Dm):List D:=[.sc (.int .i64 d.commit), .sl 2 (d.objs.map rowOb), .sl 4 (d.binds.map rowBd), .sl 2 (d.pins.map rowP), .sl 3 (d.pages.map rowPg)]
def inR (n lo hi:Int):Bool:=decide (lo≤n)&&decide (n≤hi)
def cfOk (c:Cf):Bool:=inR c.ses 1 64&&inR c.nam 1 64&&inR c.pag 1 16384&&inR c.psz 8 1024&&inR c.pin 1 1024&&inR c.com 1 1048576&&inR c.chk 1 64
def cntE (n sz:Int):Int:=if n%sz>0 then n/sz+1 else n/sz
def pinsE (c:Cf) (com:Int) (l:List Pn):Int:=if validP none l≠0 then validP none l else if l.any (fun p=>decide (com<p.commit))=true then 5 else if c.pin<totalP l 0 then 14 else 0
def openN:List Bd→Int
 | []=>0
 | b::l=>if b.to=0 then openN l+1 else openN l
def bindsE (c:Cf) (com:Int) (l:List Bd):Int:=if validB l≠0 then validB l else if lateB com l=true then 5 else if c.nam<openN l then 14 else 0
def lateV (com:Int) (l:List Ver):Bool:=l.any fun v=>decide (com<v.from_)||decide (com<v.to)
def fitV (psz:Int) (l:List Ver):Bool:=l.all fun v=>cntE v.size psz==(v.pages.length:Int)
def obE (psz com:Int) (prev:Option Int) (o:Ob):Int:=
 if o.id<1 then 5 else if prev.any (fun p=>decide (o.id≤p))=true then 19 else if (o.vers.length:Int)=0 then 18 else if validV none o.vers≠0 then validV none o.vers else
 if lateV com o.vers=true then 5 else if fitV psz o.vers=false then 18 else 0
def objsE (psz com:Int):Option Int→List Ob→Int
 | _,[]=>0
 | prev,o::l=>if obE psz com prev o≠0 then obE psz com prev o else objsE psz com (some o.id) l
def pgE (psz:Int) (prev:Option Int) (p:Pg):Int:=if p.num<1 then 5 else if prev.any (fun q=>decide (p.num≤q))=true then 19 else if psz<(p.data.length:Int) then 18 else 0
def pgsE (psz:Int):Option Int→List Pg→Int
 | _,[]=>0
 | prev,p::l=>if pgE psz prev p≠0 then pgE psz prev p else pgsE psz (some p.num) l
def pagesE (c:Cf) (l:List Pg):Int:=if pgsE c.psz none l≠0 then pgsE c.psz none l else if c.pag<(l.length:Int) then 14 else 0
def pgAt (n:Int):List Pg→Nat→Int
 | [],_=> -1
 | p::l,k=>if p.num=n then (k:Int) else pgAt n l (k+1)
def pgLen (ps:List Pg) (n:Int):Option Int:=if pgAt n ps 0<0 then none else some ((((ps[(pgAt n ps 0).toNat]?).map (·.data)).getD []).length:Int)
def wr (n:Int):Int:=IntKind.i64.wrap n
def sumE (ps:List Pg) (size:Int):List Int→Int→Int
 | [],s=>if s≠size then 18 else 0
 | n::l,s=>match pgLen ps n with
   | none=>8
   | some k=>sumE ps size l (wr (s+k))
def versD (ps:List Pg):List Ver→Int
 | []=>0
 | v::l=>if sumE ps v.size v.pages 0≠0 then sumE ps v.size v.pages 0 else versD ps l
def dataE (ps:List Pg):List Ob→Int
 | []=>0
 | o::l=>if versD ps o.vers≠0 then versD ps o.vers else dataE ps l
/-- How often a number stands in a list, reckoned as the machine does. -/
def cntW (n:Int):List Int→Int→Int
 | [],s=>s
 | x::l,s=>if x=n then cntW n l (wr (s+1)) else cntW n l s
def pgsV (l:List Ver):List Int:=l.flatMap (·.pages)
def pgsO (l:List Ob):List Int:=l.flatMap fun o=>pgsV o.vers
def refsOk (d:Dm):Bool:=d.pages.all fun p=>p.refs==cntW p.num (pgsO d.objs) 0
def curO (o:Ob):Bool:=((o.vers[o.vers.length-1]?).map (·.to)).getD 0==0
def openO (id:Int):List Bd→Int
 | []=>0
 | b::l=>if b.obj=id∧b.to=0 then openO id l+1 else openO id l
def objAt (id:Int):List Ob→Nat→Int
 | [],_=> -1
 | o::l,k=>if o.id=id then (k:Int) else objAt id l (k+1)
def versAt (id:Int) (l:List Ob):List Ver:=if objAt id l 0<0 then [] else ((l[(objAt id l 0).toNat]?).map (·.vers)).getD []
def nameOne (d:Dm):Bool:=d.objs.all fun o=> !curO o||openO o.id d.binds==1
def nameCur (d:Dm):Bool:=d.binds.all fun b=> !(b.to==0)||(!decide (objAt b.obj d.objs 0<0)&&((d.objs[(objAt b.obj d.objs 0).toNat]?).map curO).getD false)
def keptB (d:Dm) (b:Bd):Bool:=d.pins.all fun p=> !holdsB b.frm b.to p.commit||(findN p.commit (versAt b.obj d.objs) 0).2
def keptOk (d:Dm):Bool:=d.binds.all (keptB d)
def checkE (c:Cf) (d:Dm):Int:=
 if cfOk c=false then 5 else if inR d.commit 0 c.com=false then 5 else if pinsE c d.commit d.pins≠0 then pinsE c d.commit d.pins else if bindsE c d.commit d.binds≠0 then bindsE c d.commit d.binds else
 if objsE c.psz d.commit none d.objs≠0 then objsE c.psz d.commit none d.objs else if pagesE c d.pages≠0 then pagesE c d.pages else if dataE d.pages d.objs≠0 then dataE d.pages d.objs else
 if (refsOk d&&nameOne d&&nameCur d&&keptOk d)=true then 0 else 20
end Go.Proofs.Yteemiclhnfkekaa
/- Audit: the maps of the program, told as lists; the verdicts of the program and of the reference agree (plain). -/
set_option linter.unusedSimpArgs false
set_option linter.unusedVariables false
namespace Go.Proofs.Yteemiclhnfkekaa
open Go.RowKit Go.Avm
def mapI (l:List (Int×Int)):List (Value×D):=l.map fun x=>(.int .i64 x.1, .sc (.int .i64 x.2))
def aFind (n:Int):List (Int×Int)→Option Int
 | []=>none
 | x::l=>if x.1=n then some x.2 else aFind n l
def aSet (n v:Int):List (Int×Int)→List (Int×Int)
 | []=>[(n,v)]
 | x::l=>if x.1=n then (n,v)::l else x::aSet n v l
def aDel (n:Int):List (Int×Int)→List (Int×Int)
 | []=>[]
 | x::l=>if x.1=n then l else x::aDel n l
def aGet (n:Int) (l:List (Int×Int)):Int:=(aFind n l).getD 0
def bump (l:List (Int×Int)) (n:Int):List (Int×Int):=aSet n (wr (aGet n l+1)) l
/-- Ascending without repetitions. -/
def AscI (l:List Int):Prop:=l.Pairwise (· < ·)
/-- The sizes of the pages. -/
def szM (ps:List Pg):List (Int×Int):=ps.map fun p=>(p.num,(p.data.length:Int))
theorem pgAt_cases (n:Int): ∀ (l:List Pg) (k:Nat),(pgAt n l k = -1∧ ∀ p∈l,p.num≠n)∨ ∃ j p,l[j]? = some p∧p.num=n∧pgAt n l k=((k+j:Nat):Int)∧ ∀ i q,i<j→l[i]? = some q→q.num≠n
 | [],k=> .inl ⟨rfl,by simp⟩
 | p::l,k=>by
   unfold pgAt
   by_cases h:p.num=n
   ·exact .inr ⟨0,p,rfl,h,by rw [if_pos h];simp,by omega⟩
   ·rw [if_neg h]
    rcases pgAt_cases n l (k+1) with ⟨h1,h1'⟩|⟨j,u,h1,h2,h3,h4⟩
    ·exact .inl ⟨h1,fun q hq=>by rcases List.mem_cons.1 hq with rfl|hq;exact h;exact h1' q hq⟩
    ·refine .inr ⟨j+1,u,by simpa using h1,h2,by rw [h3];congr 1;omega,fun i q hi hq=>?_⟩
     cases i with
     | zero=>simp only [l_6,l_5] at hq;subst hq;exact h
     | succ i=>exact h4 i q (by omega) (by simpa using hq)
/-- The pins' counts against what is left. -/
def gtP (left:Int):List Pn→Bool
 | []=>false
 | p::l=>decide (left<p.count)||gtP (left-p.count) l
/-- The program's walk through the objects with the names that are left. -/
def nmGo:List Ob→List (Int×Int)→Bool
 | [],l=>decide ((l.length:Int)=0)
 | o::os,l=>if curO o=true then (if aGet o.id l=1 then nmGo os (aDel o.id l) else false) else nmGo os l
def opens (l:List Bd):List Int:=(l.filter fun b=>b.to==0).map (·.obj)
def KN (l:List (Int×Int)):Prop:=(l.map (·.1)).Nodup
theorem aSet_keys (n v:Int): ∀ l,((aSet n v l).map (·.1))=if n∈l.map (·.1) then l.map (·.1) else l.map (·.1)++[n]
 | []=>by simp [aSet]
 | x::l=>by
   have ih:=aSet_keys n v l
   by_cases h:x.1=n
   ·rw [aSet,if_pos h];simp [h]
   ·rw [aSet,if_neg h,l_3,ih]
    by_cases h2:n∈l.map (·.1)
    ·rw [if_pos h2,if_pos (by simp only [l_3,List.mem_cons];exact .inr h2)];rfl
    ·rw [if_neg h2,if_neg (by simp only [l_3,List.mem_cons,not_or];exact ⟨Ne.symm h,h2⟩)];rfl
theorem KN.set {n v:Int} {l:List (Int×Int)} (h:KN l):KN (aSet n v l):=by
 unfold KN
 rw [aSet_keys]
 split
 ·exact h
 ·rename_i hn
  rw [List.nodup_append]
  exact ⟨h,by simp,fun a ha b hb=>by rw [List.mem_singleton] at hb;subst hb;exact fun e=>hn (e▸ha)⟩
/-- The versions of the objects, as a map. -/
def obM (os:List Ob):List (Value×D):=os.map fun o=>(.int .i64 o.id, .sl 4 (o.vers.map rowV))
end Go.Proofs.Yteemiclhnfkekaa
/- An element that comes into a list from the end; the versions of a dump in their order (plain). -/
set_option linter.unusedSimpArgs false
set_option linter.unusedVariables false
namespace Go.Proofs.Yteemiclhnfkekaa
open Go.RowKit Go.Avm
/-- Where an element that comes in from the end stops. -/
def stopAt (p:Nat→Bool):Nat→Nat
 | 0=>0
 | k+1=>if p k=true then stopAt p k else k+1
def insAt {α:Type} (l:List α) (j:Nat) (x:α):List α:=l.take j++[x]++l.drop j
structure Vn where
 id:Int
 v:Ver
 deriving DecidableEq
def rowVn (x:Vn):List D:=[.sc (.int .i64 x.id), .sc (.int .i64 x.v.from_), .sc (.int .i64 x.v.to), .sc (.int .i64 x.v.size), .sl 1 (x.v.pages.map rowI)]
def vnGet (l:List Vn) (i:Nat):Vn:=(l[i]?).getD ⟨0,⟨0,0,0,[]⟩⟩
def ptLt (a b c d:Int):Bool:=decide (a<c)||(decide (a=c)&&decide (b<d))
def befV (x y:Vn):Bool:=ptLt x.id x.v.from_ y.id y.v.from_
def insV (x:Vn) (l:List Vn):List Vn:=insAt l (stopAt (fun k=>befV x (vnGet l k)) l.length) x
def versO (id:Int):List Ver→List Vn→List Vn
 | [],a=>a
 | v::l,a=>versO id l (insV ⟨id,v⟩ a)
def versR:List Ob→List Vn→List Vn
 | [],a=>a
 | o::l,a=>versR l (versO o.id o.vers a)
def vnsO (o:Ob):List Vn:=o.vers.map fun v=>⟨o.id,v⟩
def pgsN (l:List Vn):List Int:=l.flatMap fun x=>x.v.pages
/-- The reference's verdict. -/
def conR (d:Dm):Bool:=(d.pages.all fun p=>cntW p.num (pgsN (versR d.objs [])) 0==p.refs)&&nameOne d&&d.binds.all fun b=>(!(b.to==0)||(!decide (objAt b.obj d.objs 0<0)&&((d.objs[(objAt b.obj d.objs 0).toNat]?).map curO).getD false))&&keptB d b
end Go.Proofs.Yteemiclhnfkekaa
