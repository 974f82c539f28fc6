/- Directory: the walks of Validate of the program and of the reference. -/
import Derived.Test.YtmgodadmafcliaaZDiA
import Derived.Test.YtmgodadmafcliaaZPiA
set_option linter.unusedSimpArgs false
set_option linter.unusedVariables false
namespace Go.Proofs.Ytmgodadmafcliaa
open Go.RowKit Go.Avm
def prevB (l:List Bd) (k:Nat):Option Bd:=if k=0 then none else l[k-1]?
theorem prevB_succ {vs:List Bd} {k:Nat} {v:Bd} (h:vs[k]? = some v):prevB vs (k+1)=some v:=by simp [prevB,h]
theorem prevB_pos {vs:List Bd} {k:Nat} {u:Bd} (h:0<k) (hu:vs[k-1]? = some u):prevB vs k=some u:=by simp [prevB,hu];omega
theorem prevB_zero (vs:List Bd):prevB vs 0=none:=rfl
def dupAt (l:List Bd) (k:Nat) (b:Bd):Bool:=(l.take k).any (fun a=>a.obj==b.obj&&ovB a b)
set_option maxRecDepth 100000 in set_option maxHeartbeats 6400000 in
theorem validd_calls {l:List Bd} (hl:l.length≤100000):ACalls Try.prog 75 [.sl 4 (l.map rowBd)] (.sc (.int .i64 (validB l))) []:=by
 refine of_tri [] [4,5,7,9,20,109] Try.func75 rfl call75 rfl (by decide) (by decide) rfl rfl Try.ntmps75 (by simp (disch:=omega) only [seval,go_sem,cnd,intV,shV,convV,strV,List.replicate,l_2,l_1];rfl) (by simp (disch:=omega) only [seval,go_sem,cnd,intV,shV,convV,strV,l_2,l_1];rfl) ?_
 ((repeat' (first|(with_reducible (first|refine Tri.seq ?_|refine Tri.block ?_|refine TriD.nil ?_|refine thenQ_n ?_|refine Tri.regionD (by simp only [l_3,l_4];rfl) ?_))|((with_reducible refine isTriD ?_);(with_reducible refine TriD.step (by simp only [seval,go_sem];rfl) ?_))))<;>(try (fail)))
 (with_reducible refine Tri.loopU (fun (k:Nat)=>[(12,.sc (.int .i64 k)),(2,.any),(3,.any),(4,.any),(5,.any),(13,.any),(14,.any),(15,.any),(16,.any),(17,.any),(18,.any),(19,.any),(20,.any),(21,.any),(22,.any),(23,.any),(24,.any),(25,.any),(26,.any),(27,.any),(28,.any),(29,.any),(30,.any),(31,.any),(32,.any),(33,.any),(34,.any),(35,.any),(36,.any),(37,.any),(38,.any),(39,.any),(40,.any),(41,.any),(42,.any),(43,.any),(44,.any),(45,.any),(46,.any),(47,.any),(48,.any),(49,.any),(50,.any),(51,.any),(52,.any),(53,.any),(54,.any),(55,.any),(56,.any),(57,.any),(58,.any),(59,.any),(60,.any),(61,.any),(62,.any),(63,.any),(64,.any),(65,.any),(66,.any),(67,.any),(68,.any),(69,.any),(70,.any),(71,.any),(72,.any),(73,.any),(74,.any),(75,.any),(76,.any),(77,.any),(78,.any),(79,.any),(80,.any),(81,.any),(82,.any),(83,.any),(84,.any),(85,.any)]) (fun (k:Nat)=>[(4,.dead),(5,.dead),(20,.dead)]) (fun (k:Nat)=>k≤l.length∧valid1 (prevB l k) (l.drop k)=valid1 none l) (fun (k:Nat)=>l.length-k) (0) (⟨Nat.zero_le _,rfl⟩) (by intro _;simp (disch:=omega) only [seval,go_sem,cnd,intV,shV,convV,strV];rfl) (by intro _;simp (disch:=omega) only [seval,go_sem,cnd,intV,shV,convV,strV];rfl) (by (refine leQL_spec ?_);(try simp only [seval,go_sem]);done) (by (refine leQH_spec ?_);(try simp only [seval,go_sem]);done) (fun k hI=>?_))
 obtain ⟨hk,hf⟩:=hI
 by_cases hlt:k<l.length
 ·obtain ⟨b,hb⟩:=get_lt hlt
  have hb':=get_map rowBd hb
  rw [drop_get hb,valid1] at hf
  by_cases hz:badB b=0
  ·rw [if_neg (by simp [hz])] at hf
   have hz2:=hz
   unfold badB at hz
   have n1:nameOk b.name=true:=by cases h:nameOk b.name<;>simp_all
   rw [if_neg (by simp [n1])] at hz
   have n2: ¬ (b.obj<1∨b.frm<1∨b.to<0):=fun h=>by rw [if_pos h] at hz;cases hz
   rw [if_neg n2] at hz
   have n3: ¬ (b.to≠0∧b.to≤b.frm):=fun h=>by rw [if_pos h] at hz;cases hz
   by_cases h0:k=0
   ·subst h0
    rw [prevB_zero] at hf
    simp only [Option.any_none,Bool.false_eq_true,if_false] at hf
    ((repeat' (first|(with_reducible (first|refine Tri.seq ?_|refine Tri.block ?_|refine Tri.skip ?_|refine Tri.exit ?_|refine TriD.nil ?_|refine thenQ_n ?_|refine thenQ_e ?_|refine inBlockQ_n ?_|refine inBlockQ_e ?_|refine loopQ_n ?_|refine Tri.regionD (by simp only [l_3,l_4];rfl) ?_))|((with_reducible refine isTriD ?_);first|(with_reducible refine TriD.step (by simp only [seval,go_sem,hb',rowBd,n1];rfl) ?_)|((with_reducible refine isCallD ?_);((with_reducible (refine TriD.dE (by simp only [seval,go_sem,hb',rowBd,n1];rfl) (by simp only [seval,go_sem,hb',rowBd,n1];rfl) ?_));refine CallK.c [] (isname_calls) (by simp only [seval,go_sem,hb',rowBd,n1];rfl) ?_))|(with_reducible first|refine TriD.step (by simp (disch:=omega) only [seval,go_sem,cnd,intV,shV,convV,strV,hb',rowBd,n1];rfl) ?_|refine TriD.byGuard (by simp only [seval,go_sem,hb',rowBd,n1];rfl) (by simp only [seval,go_sem,hb',rowBd,n1];rfl) (by (fail_if_success (with_reducible exact nlT));(fail_if_success (with_reducible exact nlF));exact nlI) (cvI ?_) (cvI ?_)))|(with_reducible refine isCond ?_;with_reducible refine Tri.cond (by simp only [seval,go_sem,hb',rowBd,n1];rfl) (cvI ?_) (cvI ?_))|(with_reducible refine isCv ?_;intro hc;(try simp only [bls,reduceCtorEq] at hc);(try (exfalso;omega)))))<;>(try (fail)))
    all_goals (try (exfalso;omega))
    all_goals (try (refine isNext (1) (by (refine leQL_spec ?_);(try simp only [seval,go_sem]);done) (by (refine leQH_spec ?_);(try simp only [seval,go_sem]);done) ?_ ?_<;>(try (omega))))
    all_goals (try (exact ⟨by omega,by rw [prevB_succ hb];exact hf⟩))
   ·obtain ⟨a,ha⟩:=get_lt (show k-1<l.length by omega)
    have ha':=get_map rowBd ha
    rw [prevB_pos (by omega) ha,Option.any_some] at hf
    cases hp:badP a b with
    | true=>
      rw [if_pos hp] at hf
      have hv:validB l=19:=by unfold validB;rw [if_pos (by omega)];exact hf.symm
      rw [hv]
      unfold badP ltN eqN at hp
      cases c1:Op.bytesLess b.name.toList a.name.toList with
      | true=>(all_goals (try have hZ:=(And.intro hb' ha'));(repeat' (first|(with_reducible (first|refine Tri.seq ?_|refine Tri.block ?_|refine Tri.skip ?_|refine Tri.ret ?_|refine TriD.nil ?_|refine thenQ_n ?_|refine thenQ_r ?_|refine inBlockQ_n ?_|refine inBlockQ_r ?_|refine loopQ_r ?_|refine Tri.regionD (by simp only [l_3,l_4];rfl) ?_))|((with_reducible refine isTriD ?_);first|(with_reducible refine TriD.step (by simp only [seval,go_sem,rowBd,n1,c1,hZ];rfl) ?_)|((with_reducible refine isCallD ?_);((with_reducible (refine TriD.dE (by simp only [seval,go_sem,rowBd,n1,c1,hZ];rfl) (by simp only [seval,go_sem,rowBd,n1,c1,hZ];rfl) ?_));refine CallK.c [] (isname_calls) (by simp only [seval,go_sem,rowBd,n1,c1,hZ];rfl) ?_))|(with_reducible first|refine TriD.step (by simp (disch:=omega) only [seval,go_sem,cnd,intV,shV,convV,strV,rowBd,n1,c1,hZ];rfl) ?_|refine TriD.byGuard (by simp only [seval,go_sem,rowBd,n1,c1,hZ];rfl) (by simp only [seval,go_sem,rowBd,n1,c1,hZ];rfl) (by (fail_if_success (with_reducible exact nlT));(fail_if_success (with_reducible exact nlF));exact nlI) (cvI ?_) (cvI ?_)))|(with_reducible refine isCond ?_;with_reducible refine Tri.cond (by simp only [seval,go_sem,rowBd,n1,c1,hZ];rfl) (cvI ?_) (cvI ?_))|(with_reducible refine isCv ?_;intro hc;(try simp only [bls,reduceCtorEq] at hc);(try (exfalso;omega)))|(with_reducible refine isRet ?_;refine RetOK.q rfl rfl (by simp only [seval,go_sem];rfl) (by decide) (by simp only [seval,go_sem];rfl) (by simp only [seval,go_sem];rfl) rfl ?_<;>(try simp only [seval,go_sem])<;>(repeat' (with_reducible apply And.intro))<;>(try rfl))))<;>(try (fail));all_goals (try clear hZ))
      | false=>
        rw [c1] at hp
        cases c2:(b.name.toList==a.name.toList) with
        | false=>rw [c2] at hp;simp at hp
        | true=>
          simp only [c2,Bool.false_or,Bool.true_and,Bool.or_eq_true,decide_eq_true_eq,beq_iff_eq] at hp
          by_cases c3:b.frm≤a.frm
          ·(all_goals (try have hZ:=(And.intro hb' ha'));(repeat' (first|(with_reducible (first|refine Tri.seq ?_|refine Tri.block ?_|refine Tri.skip ?_|refine Tri.ret ?_|refine TriD.nil ?_|refine thenQ_n ?_|refine thenQ_r ?_|refine inBlockQ_n ?_|refine inBlockQ_r ?_|refine loopQ_r ?_|refine Tri.regionD (by simp only [l_3,l_4];rfl) ?_))|((with_reducible refine isTriD ?_);first|(with_reducible refine TriD.step (by simp only [seval,go_sem,rowBd,n1,c1,c2,hZ];rfl) ?_)|((with_reducible refine isCallD ?_);((with_reducible (refine TriD.dE (by simp only [seval,go_sem,rowBd,n1,c1,c2,hZ];rfl) (by simp only [seval,go_sem,rowBd,n1,c1,c2,hZ];rfl) ?_));refine CallK.c [] (isname_calls) (by simp only [seval,go_sem,rowBd,n1,c1,c2,hZ];rfl) ?_))|(with_reducible first|refine TriD.step (by simp (disch:=omega) only [seval,go_sem,cnd,intV,shV,convV,strV,rowBd,n1,c1,c2,hZ];rfl) ?_|refine TriD.byGuard (by simp only [seval,go_sem,rowBd,n1,c1,c2,hZ];rfl) (by simp only [seval,go_sem,rowBd,n1,c1,c2,hZ];rfl) (by (fail_if_success (with_reducible exact nlT));(fail_if_success (with_reducible exact nlF));exact nlI) (cvI ?_) (cvI ?_)))|(with_reducible refine isCond ?_;with_reducible refine Tri.cond (by simp only [seval,go_sem,rowBd,n1,c1,c2,hZ];rfl) (cvI ?_) (cvI ?_))|(with_reducible refine isCv ?_;intro hc;(try simp only [bls,reduceCtorEq] at hc);(try (exfalso;omega)))|(with_reducible refine isRet ?_;refine RetOK.q rfl rfl (by simp only [seval,go_sem];rfl) (by decide) (by simp only [seval,go_sem];rfl) (by simp only [seval,go_sem];rfl) rfl ?_<;>(try simp only [seval,go_sem])<;>(repeat' (with_reducible apply And.intro))<;>(try rfl))))<;>(try (fail));all_goals (try clear hZ))
          ·by_cases c4:a.to=0
           ·(all_goals (try have hZ:=(And.intro hb' ha'));(repeat' (first|(with_reducible (first|refine Tri.seq ?_|refine Tri.block ?_|refine Tri.skip ?_|refine Tri.ret ?_|refine TriD.nil ?_|refine thenQ_n ?_|refine thenQ_r ?_|refine inBlockQ_n ?_|refine inBlockQ_r ?_|refine loopQ_r ?_|refine Tri.regionD (by simp only [l_3,l_4];rfl) ?_))|((with_reducible refine isTriD ?_);first|(with_reducible refine TriD.step (by simp only [seval,go_sem,rowBd,n1,c1,c2,hZ];rfl) ?_)|((with_reducible refine isCallD ?_);((with_reducible (refine TriD.dE (by simp only [seval,go_sem,rowBd,n1,c1,c2,hZ];rfl) (by simp only [seval,go_sem,rowBd,n1,c1,c2,hZ];rfl) ?_));refine CallK.c [] (isname_calls) (by simp only [seval,go_sem,rowBd,n1,c1,c2,hZ];rfl) ?_))|(with_reducible first|refine TriD.step (by simp (disch:=omega) only [seval,go_sem,cnd,intV,shV,convV,strV,rowBd,n1,c1,c2,hZ];rfl) ?_|refine TriD.byGuard (by simp only [seval,go_sem,rowBd,n1,c1,c2,hZ];rfl) (by simp only [seval,go_sem,rowBd,n1,c1,c2,hZ];rfl) (by (fail_if_success (with_reducible exact nlT));(fail_if_success (with_reducible exact nlF));exact nlI) (cvI ?_) (cvI ?_)))|(with_reducible refine isCond ?_;with_reducible refine Tri.cond (by simp only [seval,go_sem,rowBd,n1,c1,c2,hZ];rfl) (cvI ?_) (cvI ?_))|(with_reducible refine isCv ?_;intro hc;(try simp only [bls,reduceCtorEq] at hc);(try (exfalso;omega)))|(with_reducible refine isRet ?_;refine RetOK.q rfl rfl (by simp only [seval,go_sem];rfl) (by decide) (by simp only [seval,go_sem];rfl) (by simp only [seval,go_sem];rfl) rfl ?_<;>(try simp only [seval,go_sem])<;>(repeat' (with_reducible apply And.intro))<;>(try rfl))))<;>(try (fail));all_goals (try clear hZ))
           ·have c5:b.frm<a.to:=by omega
            (all_goals (try have hZ:=(And.intro hb' ha'));(repeat' (first|(with_reducible (first|refine Tri.seq ?_|refine Tri.block ?_|refine Tri.skip ?_|refine Tri.ret ?_|refine TriD.nil ?_|refine thenQ_n ?_|refine thenQ_r ?_|refine inBlockQ_n ?_|refine inBlockQ_r ?_|refine loopQ_r ?_|refine Tri.regionD (by simp only [l_3,l_4];rfl) ?_))|((with_reducible refine isTriD ?_);first|(with_reducible refine TriD.step (by simp only [seval,go_sem,rowBd,n1,c1,c2,hZ];rfl) ?_)|((with_reducible refine isCallD ?_);((with_reducible (refine TriD.dE (by simp only [seval,go_sem,rowBd,n1,c1,c2,hZ];rfl) (by simp only [seval,go_sem,rowBd,n1,c1,c2,hZ];rfl) ?_));refine CallK.c [] (isname_calls) (by simp only [seval,go_sem,rowBd,n1,c1,c2,hZ];rfl) ?_))|(with_reducible first|refine TriD.step (by simp (disch:=omega) only [seval,go_sem,cnd,intV,shV,convV,strV,rowBd,n1,c1,c2,hZ];rfl) ?_|refine TriD.byGuard (by simp only [seval,go_sem,rowBd,n1,c1,c2,hZ];rfl) (by simp only [seval,go_sem,rowBd,n1,c1,c2,hZ];rfl) (by (fail_if_success (with_reducible exact nlT));(fail_if_success (with_reducible exact nlF));exact nlI) (cvI ?_) (cvI ?_)))|(with_reducible refine isCond ?_;with_reducible refine Tri.cond (by simp only [seval,go_sem,rowBd,n1,c1,c2,hZ];rfl) (cvI ?_) (cvI ?_))|(with_reducible refine isCv ?_;intro hc;(try simp only [bls,reduceCtorEq] at hc);(try (exfalso;omega)))|(with_reducible refine isRet ?_;refine RetOK.q rfl rfl (by simp only [seval,go_sem];rfl) (by decide) (by simp only [seval,go_sem];rfl) (by simp only [seval,go_sem];rfl) rfl ?_<;>(try simp only [seval,go_sem])<;>(repeat' (with_reducible apply And.intro))<;>(try rfl))))<;>(try (fail));all_goals (try clear hZ))
    | false=>
      rw [hp] at hf
      simp only [Bool.false_eq_true,if_false] at hf
      unfold badP ltN eqN at hp
      cases c1:Op.bytesLess b.name.toList a.name.toList with
      | true=>rw [c1] at hp;simp at hp
      | false=>
        rw [c1] at hp
        cases c2:(b.name.toList==a.name.toList) with
        | false=>
          (all_goals (try have hZ:=(And.intro hb' ha'));(repeat' (first|(with_reducible (first|refine Tri.seq ?_|refine Tri.block ?_|refine Tri.skip ?_|refine TriD.nil ?_|refine thenQ_n ?_|refine inBlockQ_n ?_|refine loopQ_n ?_|refine Tri.regionD (by simp only [l_3,l_4];rfl) ?_))|((with_reducible refine isTriD ?_);first|(with_reducible refine TriD.step (by simp only [seval,go_sem,rowBd,n1,c1,c2,hZ];rfl) ?_)|((with_reducible refine isCallD ?_);((with_reducible (refine TriD.dE (by simp only [seval,go_sem,rowBd,n1,c1,c2,hZ];rfl) (by simp only [seval,go_sem,rowBd,n1,c1,c2,hZ];rfl) ?_));refine CallK.c [] (isname_calls) (by simp only [seval,go_sem,rowBd,n1,c1,c2,hZ];rfl) ?_))|(with_reducible first|refine TriD.step (by simp (disch:=omega) only [seval,go_sem,cnd,intV,shV,convV,strV,rowBd,n1,c1,c2,hZ];rfl) ?_|refine TriD.byGuard (by simp only [seval,go_sem,rowBd,n1,c1,c2,hZ];rfl) (by simp only [seval,go_sem,rowBd,n1,c1,c2,hZ];rfl) (by (fail_if_success (with_reducible exact nlT));(fail_if_success (with_reducible exact nlF));exact nlI) (cvI ?_) (cvI ?_)))|(with_reducible refine isCond ?_;with_reducible refine Tri.cond (by simp only [seval,go_sem,rowBd,n1,c1,c2,hZ];rfl) (cvI ?_) (cvI ?_))|(with_reducible refine isCv ?_;intro hc;(try simp only [bls,reduceCtorEq] at hc);(try (exfalso;omega)))))<;>(try (fail));all_goals (try clear hZ))
          all_goals (try (refine isNext (k+1) (by (refine leQL_spec ?_);(try simp only [seval,go_sem]);first|((repeat' (with_reducible apply And.intro))<;>first|rfl);done) (by (refine leQH_spec ?_);(try simp only [seval,go_sem]);done) ?_ ?_<;>(try (omega))))
          all_goals (try (exact ⟨by omega,by rw [prevB_succ hb];exact hf⟩))
        | true=>
          simp only [c2,Bool.false_or,Bool.true_and,Bool.or_eq_false_iff,decide_eq_false_iff_not,beq_eq_false_iff_ne,ne_eq] at hp
          obtain ⟨⟨c3,c4⟩,c5⟩:=hp
          (all_goals (try have hZ:=(And.intro hb' ha'));(repeat' (first|(with_reducible (first|refine Tri.seq ?_|refine Tri.block ?_|refine Tri.skip ?_|refine TriD.nil ?_|refine thenQ_n ?_|refine inBlockQ_n ?_|refine loopQ_n ?_|refine Tri.regionD (by simp only [l_3,l_4];rfl) ?_))|((with_reducible refine isTriD ?_);first|(with_reducible refine TriD.step (by simp only [seval,go_sem,rowBd,n1,c1,c2,hZ];rfl) ?_)|((with_reducible refine isCallD ?_);((with_reducible (refine TriD.dE (by simp only [seval,go_sem,rowBd,n1,c1,c2,hZ];rfl) (by simp only [seval,go_sem,rowBd,n1,c1,c2,hZ];rfl) ?_));refine CallK.c [] (isname_calls) (by simp only [seval,go_sem,rowBd,n1,c1,c2,hZ];rfl) ?_))|(with_reducible first|refine TriD.step (by simp (disch:=omega) only [seval,go_sem,cnd,intV,shV,convV,strV,rowBd,n1,c1,c2,hZ];rfl) ?_|refine TriD.byGuard (by simp only [seval,go_sem,rowBd,n1,c1,c2,hZ];rfl) (by simp only [seval,go_sem,rowBd,n1,c1,c2,hZ];rfl) (by (fail_if_success (with_reducible exact nlT));(fail_if_success (with_reducible exact nlF));exact nlI) (cvI ?_) (cvI ?_)))|(with_reducible refine isCond ?_;with_reducible refine Tri.cond (by simp only [seval,go_sem,rowBd,n1,c1,c2,hZ];rfl) (cvI ?_) (cvI ?_))|(with_reducible refine isCv ?_;intro hc;(try simp only [bls,reduceCtorEq] at hc);(try (exfalso;omega)))))<;>(try (fail));all_goals (try clear hZ))
          all_goals (try (refine isNext (k+1) (by (refine leQL_spec ?_);(try simp only [seval,go_sem]);first|((repeat' (with_reducible apply And.intro))<;>first|rfl);done) (by (refine leQH_spec ?_);(try simp only [seval,go_sem]);done) ?_ ?_<;>(try (omega))))
          all_goals (try (exact ⟨by omega,by rw [prevB_succ hb];exact hf⟩))
  ·rw [if_pos hz] at hf
   have hv:validB l=badB b:=by unfold validB;rw [if_pos (by omega)];exact hf.symm
   rw [hv]
   unfold badB
   cases n1:nameOk b.name with
   | false=>((repeat' (first|(with_reducible (first|refine Tri.seq ?_|refine Tri.block ?_|refine Tri.skip ?_|refine Tri.ret ?_|refine TriD.nil ?_|refine thenQ_n ?_|refine thenQ_r ?_|refine inBlockQ_r ?_|refine loopQ_r ?_|refine Tri.regionD (by simp only [l_3,l_4];rfl) ?_))|((with_reducible refine isTriD ?_);first|(with_reducible refine TriD.step (by simp only [seval,go_sem,hb',rowBd,n1];rfl) ?_)|((with_reducible refine isCallD ?_);((with_reducible (refine TriD.dE (by simp only [seval,go_sem,hb',rowBd,n1];rfl) (by simp only [seval,go_sem,hb',rowBd,n1];rfl) ?_));refine CallK.c [] (isname_calls) (by simp only [seval,go_sem,hb',rowBd,n1];rfl) ?_))|(with_reducible refine TriD.step (by simp (disch:=omega) only [seval,go_sem,cnd,intV,shV,convV,strV,hb',rowBd,n1];rfl) ?_))|(with_reducible refine isCond ?_;with_reducible refine Tri.cond (by simp only [seval,go_sem,hb',rowBd,n1];rfl) (cvI ?_) (cvI ?_))|(with_reducible refine isCv ?_;intro hc;(try simp only [bls,reduceCtorEq] at hc);(try (exfalso;omega)))|(with_reducible refine isRet ?_;refine RetOK.q rfl rfl (by simp only [seval,go_sem];rfl) (by decide) (by simp only [seval,go_sem];rfl) (by simp only [seval,go_sem];rfl) rfl ?_<;>(try simp only [seval,go_sem])<;>(repeat' (with_reducible apply And.intro))<;>(try rfl))))<;>(try (fail)))
   | true=>
     simp only [Bool.true_eq_false,if_false]
     by_cases n2:b.obj<1∨b.frm<1∨b.to<0
     ·rw [if_pos n2]
      ((repeat' (first|(with_reducible (first|refine Tri.seq ?_|refine Tri.block ?_|refine Tri.skip ?_|refine Tri.ret ?_|refine TriD.nil ?_|refine thenQ_n ?_|refine thenQ_r ?_|refine inBlockQ_r ?_|refine loopQ_r ?_|refine Tri.regionD (by simp only [l_3,l_4];rfl) ?_))|((with_reducible refine isTriD ?_);first|(with_reducible refine TriD.step (by simp only [seval,go_sem,hb',rowBd,n1];rfl) ?_)|((with_reducible refine isCallD ?_);((with_reducible (refine TriD.dE (by simp only [seval,go_sem,hb',rowBd,n1];rfl) (by simp only [seval,go_sem,hb',rowBd,n1];rfl) ?_));refine CallK.c [] (isname_calls) (by simp only [seval,go_sem,hb',rowBd,n1];rfl) ?_))|(with_reducible first|refine TriD.step (by simp (disch:=omega) only [seval,go_sem,cnd,intV,shV,convV,strV,hb',rowBd,n1];rfl) ?_|refine TriD.byGuard (by simp only [seval,go_sem,hb',rowBd,n1];rfl) (by simp only [seval,go_sem,hb',rowBd,n1];rfl) (by (fail_if_success (with_reducible exact nlT));(fail_if_success (with_reducible exact nlF));exact nlI) (cvI ?_) (cvI ?_)))|(with_reducible refine isCond ?_;with_reducible refine Tri.cond (by simp only [seval,go_sem,hb',rowBd,n1];rfl) (cvI ?_) (cvI ?_))|(with_reducible refine isCv ?_;intro hc;(try simp only [bls,reduceCtorEq] at hc);(try (exfalso;omega)))|(with_reducible refine isRet ?_;refine RetOK.q rfl rfl (by simp only [seval,go_sem];rfl) (by decide) (by simp only [seval,go_sem];rfl) (by simp only [seval,go_sem];rfl) rfl ?_<;>(try simp only [seval,go_sem])<;>(repeat' (with_reducible apply And.intro))<;>(try rfl))))<;>(try (fail)))
      all_goals (try (exfalso;omega))
     ·rw [if_neg n2]
      have n3:b.to≠0∧b.to≤b.frm:=by
       refine Decidable.byContradiction fun h=>hz ?_
       unfold badB
       rw [if_neg (by simp [n1]),if_neg n2,if_neg h]
      rw [if_pos n3]
      ((repeat' (first|(with_reducible (first|refine Tri.seq ?_|refine Tri.block ?_|refine Tri.skip ?_|refine Tri.ret ?_|refine TriD.nil ?_|refine thenQ_n ?_|refine thenQ_r ?_|refine inBlockQ_r ?_|refine loopQ_r ?_|refine Tri.regionD (by simp only [l_3,l_4];rfl) ?_))|((with_reducible refine isTriD ?_);first|(with_reducible refine TriD.step (by simp only [seval,go_sem,hb',rowBd,n1];rfl) ?_)|((with_reducible refine isCallD ?_);((with_reducible (refine TriD.dE (by simp only [seval,go_sem,hb',rowBd,n1];rfl) (by simp only [seval,go_sem,hb',rowBd,n1];rfl) ?_));refine CallK.c [] (isname_calls) (by simp only [seval,go_sem,hb',rowBd,n1];rfl) ?_))|(with_reducible refine TriD.step (by simp (disch:=omega) only [seval,go_sem,cnd,intV,shV,convV,strV,hb',rowBd,n1];rfl) ?_))|(with_reducible refine isCond ?_;with_reducible refine Tri.cond (by simp only [seval,go_sem,hb',rowBd,n1];rfl) (cvI ?_) (cvI ?_))|(with_reducible refine isCv ?_;intro hc;(try simp only [bls,reduceCtorEq] at hc);(try (exfalso;omega)))|(with_reducible refine isRet ?_;refine RetOK.q rfl rfl (by simp only [seval,go_sem];rfl) (by decide) (by simp only [seval,go_sem];rfl) (by simp only [seval,go_sem];rfl) rfl ?_<;>(try simp only [seval,go_sem])<;>(repeat' (with_reducible apply And.intro))<;>(try rfl))))<;>(try (fail)))
 ·rw [List.drop_eq_nil_of_le (by omega),valid1] at hf
  have hv:validB l=if dupB l l 0=true then 9 else 0:=by unfold validB;rw [if_neg (by omega)]
  rw [hv]
  ((repeat' (first|(with_reducible (first|refine Tri.seq ?_|refine Tri.block ?_|refine Tri.exit ?_|refine TriD.nil ?_|refine thenQ_n ?_|refine thenQ_e ?_|refine inBlockQ_e ?_|refine loopQ_e ?_|refine Tri.regionD (by simp only [l_3,l_4];rfl) ?_))|((with_reducible refine isTriD ?_);(with_reducible first|refine TriD.step (by simp only [seval,go_sem];rfl) ?_|refine TriD.step (by simp (disch:=omega) only [seval,go_sem,cnd,intV,shV,convV,strV];rfl) ?_))|(with_reducible refine isCond ?_;with_reducible refine Tri.cond (by simp only [seval,go_sem];rfl) (cvI ?_) (cvI ?_))|(with_reducible refine isCv ?_;intro hc;(try simp only [bls,reduceCtorEq] at hc);(try (exfalso;omega)))))<;>(try (fail)))
  (with_reducible refine Tri.loopU (fun (k:Nat)=>[(88,.sc (.int .i64 k)),(2,.any),(6,.any),(7,.any),(9,.any),(89,.any),(90,.any),(91,.any),(92,.any),(93,.any),(94,.any),(95,.any),(96,.any),(97,.any),(98,.any),(99,.any),(100,.any),(101,.any),(102,.any),(103,.any),(104,.any),(105,.any),(106,.any),(107,.any),(108,.any),(109,.any),(110,.any),(111,.any),(112,.any)]) (fun (k:Nat)=>[(7,.dead),(9,.dead),(109,.dead)]) (fun (k:Nat)=>k≤l.length∧dupB l (l.drop k) k=dupB l l 0) (fun (k:Nat)=>l.length-k) (0) (⟨Nat.zero_le _,rfl⟩) (by intro _;simp (disch:=omega) only [seval,go_sem,cnd,intV,shV,convV,strV];rfl) (by intro _;simp (disch:=omega) only [seval,go_sem,cnd,intV,shV,convV,strV];rfl) (by (refine leQL_spec ?_);(try simp only [seval,go_sem]);done) (by (refine leQH_spec ?_);(try simp only [seval,go_sem]);done) (fun k hI=>?_))
  clear hlt hk
  obtain ⟨hk,hg⟩:=hI
  by_cases hlt:k<l.length
  ·obtain ⟨b,hb⟩:=get_lt hlt
   have hb':=get_map rowBd hb
   rw [drop_get hb,dupB] at hg
   have htl:((l.map rowBd).take k).length=k:=by rw [List.length_take,List.length_map];omega
   (all_goals (try have hZ:=(And.intro hb' htl));(repeat' (first|(with_reducible (first|refine Tri.seq ?_|refine Tri.block ?_|refine Tri.skip ?_|refine TriD.nil ?_|refine thenQ_n ?_|refine Tri.regionD (by simp only [l_3,l_4];rfl) ?_))|((with_reducible refine isTriD ?_);(with_reducible first|refine TriD.step (by simp only [seval,go_sem,rowBd,hZ];rfl) ?_|refine TriD.step (by simp (disch:=omega) only [seval,go_sem,cnd,intV,shV,convV,strV,rowBd,hZ];rfl) ?_))|(with_reducible refine isCond ?_;with_reducible refine Tri.cond (by simp only [seval,go_sem,rowBd,hZ];rfl) (cvI ?_) (cvI ?_))|(with_reducible refine isCv ?_;intro hc;(try simp only [bls,reduceCtorEq] at hc);(try (exfalso;omega)))))<;>(try (fail));all_goals (try clear hZ))
   (with_reducible refine Tri.loopU (fun (j:Nat)=>[(97,.sc (.int .i64 j)),(2,.any),(9,.any),(98,.any),(99,.any),(100,.any),(101,.any),(102,.any),(103,.any),(104,.any),(105,.any),(106,.any),(107,.any),(108,.any),(109,.any),(110,.any),(111,.any)]) (fun (j:Nat)=>[(9,.dead),(109,.dead)]) (fun (j:Nat)=>j≤k∧((l.take k).drop j).any (fun a=>a.obj==b.obj&&ovB a b)=(l.take k).any (fun a=>a.obj==b.obj&&ovB a b)) (fun (j:Nat)=>k-j) (0) (⟨Nat.zero_le _,rfl⟩) (by intro _;simp (disch:=omega) only [seval,go_sem,cnd,intV,shV,convV,strV];rfl) (by intro _;simp (disch:=omega) only [seval,go_sem,cnd,intV,shV,convV,strV];rfl) (by (refine leQL_spec ?_);(try simp only [seval,go_sem]);done) (by (refine leQH_spec ?_);(try simp only [seval,go_sem]);done) (fun j hI=>?_))
   obtain ⟨hj,hh⟩:=hI
   by_cases hjk:j<k
   ·obtain ⟨a,ha⟩:=get_lt (show j<l.length by omega)
    have hat:(l.take k)[j]? = some a:=by rw [List.getElem?_take_of_lt hjk];exact ha
    have ha':=get_map rowBd hat
    rw [List.map_take] at ha'
    have hov:=overlap_calls (a:=a) (b:=b)
    simp only [rowBd] at hov
    rw [drop_get hat,List.any_cons] at hh
    by_cases c1:a.obj=b.obj
    ·rw [beq_iff_eq.2 c1,Bool.true_and] at hh
     cases c2:ovB a b with
     | false=>
       rw [c2,Bool.false_or] at hh
       ((repeat' (first|(with_reducible (first|refine Tri.seq ?_|refine Tri.block ?_|refine Tri.skip ?_|refine TriD.nil ?_|refine thenQ_n ?_|refine inBlockQ_n ?_|refine loopQ_n ?_|refine Tri.regionD (by simp only [l_3,l_4];rfl) ?_))|((with_reducible refine isTriD ?_);first|(with_reducible refine TriD.step (by simp only [seval,go_sem,ha',rowBd,c2];rfl) ?_)|((with_reducible refine isCallD ?_);((with_reducible (refine TriD.dE (by simp only [seval,go_sem,ha',rowBd,c2];rfl) (by simp only [seval,go_sem,ha',rowBd,c2];rfl) ?_));refine CallK.c [] (hov) (by simp only [seval,go_sem,ha',rowBd,c2];rfl) ?_))|(with_reducible refine TriD.step (by simp (disch:=omega) only [seval,go_sem,cnd,intV,shV,convV,strV,ha',rowBd,c2];rfl) ?_))|(with_reducible refine isCond ?_;with_reducible refine Tri.cond (by simp only [seval,go_sem,ha',rowBd,c2];rfl) (cvI ?_) (cvI ?_))|(with_reducible refine isCv ?_;intro hc;(try simp only [bls,reduceCtorEq] at hc);(try (exfalso;omega)))))<;>(try (fail)))
       all_goals (try (refine isNext (j+1) (by (refine leQL_spec ?_);(try simp only [seval,go_sem]);first|((repeat' (with_reducible apply And.intro))<;>first|rfl);done) (by (refine leQH_spec ?_);(try simp only [seval,go_sem]);done) ?_ ?_<;>(try (omega))))
       all_goals (try (exact ⟨by omega,hh⟩))
     | true=>
       rw [c2,Bool.true_or] at hh
       rw [← hh,Bool.true_or] at hg
       rw [← hg,if_pos rfl]
       ((repeat' (first|(with_reducible (first|refine Tri.seq ?_|refine Tri.block ?_|refine Tri.skip ?_|refine Tri.ret ?_|refine TriD.nil ?_|refine thenQ_n ?_|refine thenQ_r ?_|refine inBlockQ_r ?_|refine loopQ_r ?_|refine Tri.regionD (by simp only [l_3,l_4];rfl) ?_))|((with_reducible refine isTriD ?_);first|(with_reducible refine TriD.step (by simp only [seval,go_sem,ha',rowBd,c2];rfl) ?_)|((with_reducible refine isCallD ?_);((with_reducible (refine TriD.dE (by simp only [seval,go_sem,ha',rowBd,c2];rfl) (by simp only [seval,go_sem,ha',rowBd,c2];rfl) ?_));refine CallK.c [] (hov) (by simp only [seval,go_sem,ha',rowBd,c2];rfl) ?_))|(with_reducible refine TriD.step (by simp (disch:=omega) only [seval,go_sem,cnd,intV,shV,convV,strV,ha',rowBd,c2];rfl) ?_))|(with_reducible refine isCond ?_;with_reducible refine Tri.cond (by simp only [seval,go_sem,ha',rowBd,c2];rfl) (cvI ?_) (cvI ?_))|(with_reducible refine isCv ?_;intro hc;(try simp only [bls,reduceCtorEq] at hc);(try (exfalso;omega)))|(with_reducible refine isRet ?_;refine RetOK.q rfl rfl (by simp only [seval,go_sem];rfl) (by decide) (by simp only [seval,go_sem];rfl) (by simp only [seval,go_sem];rfl) rfl ?_<;>(try simp only [seval,go_sem])<;>(repeat' (with_reducible apply And.intro))<;>(try rfl))))<;>(try (fail)))
    ·rw [beq_eq_false_iff_ne.2 c1,Bool.false_and,Bool.false_or] at hh
     ((repeat' (first|(with_reducible (first|refine Tri.seq ?_|refine Tri.block ?_|refine Tri.skip ?_|refine TriD.nil ?_|refine thenQ_n ?_|refine inBlockQ_n ?_|refine loopQ_n ?_|refine Tri.regionD (by simp only [l_3,l_4];rfl) ?_))|((with_reducible refine isTriD ?_);(with_reducible first|refine TriD.step (by simp only [seval,go_sem,ha',rowBd];rfl) ?_|refine TriD.step (by simp (disch:=omega) only [seval,go_sem,cnd,intV,shV,convV,strV,ha',rowBd];rfl) ?_))|(with_reducible refine isCond ?_;with_reducible refine Tri.cond (by simp only [seval,go_sem,ha',rowBd];rfl) (cvI ?_) (cvI ?_))|(with_reducible refine isCv ?_;intro hc;(try simp only [bls,reduceCtorEq] at hc);(try (exfalso;omega)))))<;>(try (fail)))
     all_goals (try (refine isNext (j+1) (by (refine leQL_spec ?_);(try simp only [seval,go_sem]);first|((repeat' (with_reducible apply And.intro))<;>first|rfl);done) (by (refine leQH_spec ?_);(try simp only [seval,go_sem]);done) ?_ ?_<;>(try (omega))))
     all_goals (try (exact ⟨by omega,hh⟩))
   ·have:j=k:=by omega
    subst this
    rw [List.drop_eq_nil_of_le (by rw [List.length_take];omega),List.any_nil] at hh
    rw [← hh,Bool.false_or] at hg
    ((repeat' (first|(with_reducible (first|refine Tri.seq ?_|refine Tri.exit ?_|refine TriD.nil ?_|refine thenQ_n ?_|refine thenQ_e ?_|refine inBlockQ_n ?_|refine inBlockQ_e ?_|refine loopQ_n ?_|refine loopQ_e ?_|refine Tri.regionD (by simp only [l_3,l_4];rfl) ?_))|((with_reducible refine isTriD ?_);(with_reducible first|refine TriD.step (by simp only [seval,go_sem];rfl) ?_|refine TriD.step (by simp (disch:=omega) only [seval,go_sem,cnd,intV,shV,convV,strV];rfl) ?_))|(with_reducible refine isCond ?_;with_reducible refine Tri.cond (by simp only [seval,go_sem];rfl) (cvI ?_) (cvI ?_))|(with_reducible refine isCv ?_;intro hc;(try simp only [bls,reduceCtorEq] at hc);(try (exfalso;omega)))))<;>(try (fail)))
    all_goals (try (refine isNext (j+1) (by (refine leQL_spec ?_);(try simp only [seval,go_sem]);first|((repeat' (with_reducible apply And.intro))<;>first|rfl);done) (by (refine leQH_spec ?_);(try simp only [seval,go_sem]);done) ?_ ?_<;>(try (omega))))
    all_goals (try (exact ⟨by omega,hg⟩))
  ·rw [List.drop_eq_nil_of_le (by omega),dupB] at hg
   rw [← hg]
   ((repeat' (first|(with_reducible (first|refine Tri.seq ?_|refine Tri.exit ?_|refine Tri.ret ?_|refine TriD.nil ?_|refine thenQ_n ?_|refine thenQ_e ?_|refine inBlockQ_e ?_|refine loopQ_e ?_|refine Tri.regionD (by simp only [l_3,l_4];rfl) ?_))|((with_reducible refine isTriD ?_);(with_reducible first|refine TriD.step (by simp only [seval,go_sem];rfl) ?_|refine TriD.step (by simp (disch:=omega) only [seval,go_sem,cnd,intV,shV,convV,strV];rfl) ?_))|(with_reducible refine isCond ?_;with_reducible refine Tri.cond (by simp only [seval,go_sem];rfl) (cvI ?_) (cvI ?_))|(with_reducible refine isCv ?_;intro hc;(try simp only [bls,reduceCtorEq] at hc);(try (exfalso;omega)))|(with_reducible refine isRet ?_;refine RetOK.q rfl rfl (by simp only [seval,go_sem];rfl) (by decide) (by simp only [seval,go_sem];rfl) (by simp only [seval,go_sem];rfl) rfl ?_<;>(try simp only [seval,go_sem])<;>(repeat' (with_reducible apply And.intro))<;>(try rfl))))<;>(try (fail)))
end Go.Proofs.Ytmgodadmafcliaa
/- Directory: facts about valid bindings (plain). -/
set_option linter.unusedSimpArgs false
set_option linter.unusedVariables false
namespace Go.Proofs.Ytmgodadmafcliaa
open Go.RowKit Go.Avm
theorem bl_gt (x y:List UInt8):(!(Op.bytesLess x y||x==y))=Op.bytesLess y x:=by
 rcases bl_total x y with h|h|h
 ·rw [h,bl_asymm h];rfl
 ·subst h;simp [bl_irrefl]
 ·rw [h,bl_asymm h,beq_eq_false_iff_ne.2 (bl_ne h).symm];rfl
theorem valid1_all: ∀ (l:List Bd) (p:Option Bd),valid1 p l=0→ ∀ b∈l,badB b=0
 | [],_,_,b,hb=>by cases hb
 | x::l,p,h,b,hb=>by
   rw [valid1] at h
   by_cases h1:badB x=0
   ·rw [if_neg (by simp [h1])] at h
    split at h
    ·cases h
    ·rcases List.mem_cons.1 hb with rfl|hb
     ·exact h1
     ·exact valid1_all l _ h b hb
   ·rw [if_pos h1] at h;exact absurd h h1
theorem badB_ok {b:Bd} (h:badB b=0):nameOk b.name=true∧1≤b.obj∧1≤b.frm∧0≤b.to∧(b.to=0∨b.frm<b.to):=by
 unfold badB at h
 split at h
 ·cases h
 ·rename_i h1
  split at h
  ·cases h
  ·split at h
   ·cases h
   ·exact ⟨by simpa using h1,by omega,by omega,by omega,by omega⟩
theorem ov_holds {a b:Bd} (ha:badB a=0) (hb:badB b=0):(holdsB a.frm a.to b.frm||holdsB b.frm b.to a.frm)=ovB a b:=by
 obtain ⟨_,a1,a2,a3,a4⟩:=badB_ok ha
 obtain ⟨_,b1,b2,b3,b4⟩:=badB_ok hb
 rw [Bool.eq_iff_iff]
 simp only [holdsB,ovB,Bool.or_eq_true,Bool.and_eq_true,decide_eq_true_eq,beq_iff_eq]
 omega
end Go.Proofs.Ytmgodadmafcliaa
