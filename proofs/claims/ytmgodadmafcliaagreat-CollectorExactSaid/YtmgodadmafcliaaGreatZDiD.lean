/- Directory: the walks of Lookup, open, late of the program and of the reference, and of the searches with a test. -/
import Derived.Test.YtmgodadmafcliaaGreatZDiA
import Derived.Test.YtmgodadmafcliaaGreatZBase
set_option linter.unusedSimpArgs false
set_option linter.unusedVariables false
namespace Go.Proofs.YtmgodadmafcliaaGreat
open Go.RowKit Go.Avm
set_option maxRecDepth 100000 in set_option maxHeartbeats 3200000 in
theorem rlate_calls {l:List Bd} {c:Int} (hl:l.length≤100000):ACalls Tryz.prog 72 [.sl 4 (l.map rowBd), .sc (.int .i64 c)] (.sc (.bool (lateB c l))) []:=by
 refine of_tri [] [] Tryz.func72 rfl call72 rfl (by decide) (by decide) rfl rfl Tryz.ntmps72 (by simp (disch:=omega) only [seval,go_sem,cnd,intV,shV,convV,strV,List.replicate,l_2,l_1];rfl) (by simp (disch:=omega) only [seval,go_sem,cnd,intV,shV,convV,strV,l_2,l_1];rfl) ?_
 ((repeat' (first|(with_reducible (first|refine Tri.seq ?_|refine Tri.block ?_|refine TriD.nil ?_|refine thenQ_n ?_|refine Tri.regionD (by simp only [l_3,l_4];rfl) ?_))|((with_reducible refine isTriD ?_);(with_reducible refine TriD.step (by simp only [seval,go_sem];rfl) ?_))))<;>(try (fail)))
 (with_reducible refine Tri.loopU (fun (k:Nat)=>[(5,.sc (.int .i64 k)),(4,.any),(6,.any),(7,.any),(8,.any),(9,.any),(10,.any),(11,.any),(12,.any),(13,.any),(14,.any),(15,.any),(16,.any),(17,.any),(18,.any),(19,.any),(20,.any),(21,.any),(22,.any),(23,.any),(24,.any),(25,.any),(26,.any),(27,.any)]) (fun (k:Nat)=>[]) (fun (k:Nat)=>k≤l.length∧lateB c (l.drop k)=lateB c l) (fun (k:Nat)=>l.length-k) (0) (⟨Nat.zero_le _,rfl⟩) (by intro _;simp (disch:=omega) only [seval,go_sem,cnd,intV,shV,convV,strV];rfl) (by intro _;simp (disch:=omega) only [seval,go_sem,cnd,intV,shV,convV,strV];rfl) (by (refine leQL_spec ?_);(try simp only [seval,go_sem]);done) (by (refine leQH_spec ?_);(try simp only [seval,go_sem]);done) (fun k hI=>?_))
 obtain ⟨hk,hf⟩:=hI
 by_cases hlt:k<l.length
 ·obtain ⟨b,hb⟩:=get_lt hlt
  have hb':=get_map rowBd hb
  rw [drop_get hb,lateB,List.any_cons] at hf
  by_cases h1:c<b.frm
  ·rw [decide_eq_true h1,Bool.true_or,Bool.true_or] at hf
   rw [← hf]
   ((repeat' (first|(with_reducible (first|refine Tri.seq ?_|refine Tri.block ?_|refine Tri.skip ?_|refine Tri.ret ?_|refine TriD.nil ?_|refine thenQ_n ?_|refine thenQ_r ?_|refine inBlockQ_r ?_|refine loopQ_r ?_|refine Tri.regionD (by simp only [l_3,l_4];rfl) ?_))|((with_reducible refine isTriD ?_);(with_reducible first|refine TriD.step (by simp only [seval,go_sem,hb',rowBd];rfl) ?_|refine TriD.step (by simp (disch:=omega) only [seval,go_sem,cnd,intV,shV,convV,strV,hb',rowBd];rfl) ?_))|(with_reducible refine isCond ?_;with_reducible refine Tri.cond (by simp only [seval,go_sem,hb',rowBd];rfl) (cvI ?_) (cvI ?_))|(with_reducible refine isCv ?_;intro hc;(try simp only [bls,reduceCtorEq] at hc);(try (exfalso;omega)))|(with_reducible refine isRet ?_;refine RetOK.q rfl rfl (by simp only [seval,go_sem];rfl) (by decide) (by simp only [seval,go_sem];rfl) (by simp only [seval,go_sem];rfl) rfl ?_<;>(try simp only [seval,go_sem])<;>(repeat' (with_reducible apply And.intro))<;>(try rfl))))<;>(try (fail)))
  ·by_cases h2:c<b.to
   ·rw [decide_eq_true h2,Bool.or_true,Bool.true_or] at hf
    rw [← hf]
    ((repeat' (first|(with_reducible (first|refine Tri.seq ?_|refine Tri.block ?_|refine Tri.skip ?_|refine Tri.ret ?_|refine TriD.nil ?_|refine thenQ_n ?_|refine thenQ_r ?_|refine inBlockQ_r ?_|refine loopQ_r ?_|refine Tri.regionD (by simp only [l_3,l_4];rfl) ?_))|((with_reducible refine isTriD ?_);(with_reducible first|refine TriD.step (by simp only [seval,go_sem,hb',rowBd];rfl) ?_|refine TriD.step (by simp (disch:=omega) only [seval,go_sem,cnd,intV,shV,convV,strV,hb',rowBd];rfl) ?_))|(with_reducible refine isCond ?_;with_reducible refine Tri.cond (by simp only [seval,go_sem,hb',rowBd];rfl) (cvI ?_) (cvI ?_))|(with_reducible refine isCv ?_;intro hc;(try simp only [bls,reduceCtorEq] at hc);(try (exfalso;omega)))|(with_reducible refine isRet ?_;refine RetOK.q rfl rfl (by simp only [seval,go_sem];rfl) (by decide) (by simp only [seval,go_sem];rfl) (by simp only [seval,go_sem];rfl) rfl ?_<;>(try simp only [seval,go_sem])<;>(repeat' (with_reducible apply And.intro))<;>(try rfl))))<;>(try (fail)))
   ·rw [decide_eq_false h1,decide_eq_false h2,Bool.false_or,Bool.false_or] at hf
    ((repeat' (first|(with_reducible (first|refine Tri.seq ?_|refine Tri.block ?_|refine Tri.skip ?_|refine TriD.nil ?_|refine thenQ_n ?_|refine inBlockQ_n ?_|refine loopQ_n ?_|refine Tri.regionD (by simp only [l_3,l_4];rfl) ?_))|((with_reducible refine isTriD ?_);(with_reducible first|refine TriD.step (by simp only [seval,go_sem,hb',rowBd];rfl) ?_|refine TriD.step (by simp (disch:=omega) only [seval,go_sem,cnd,intV,shV,convV,strV,hb',rowBd];rfl) ?_))|(with_reducible refine isCond ?_;with_reducible refine Tri.cond (by simp only [seval,go_sem,hb',rowBd];rfl) (cvI ?_) (cvI ?_))|(with_reducible refine isCv ?_;intro hc;(try simp only [bls,reduceCtorEq] at hc);(try (exfalso;omega)))))<;>(try (fail)))
    all_goals (try (refine isNext (k+1) (by (refine leQL_spec ?_);(try simp only [seval,go_sem]);first|((repeat' (with_reducible apply And.intro))<;>first|rfl);done) (by (refine leQH_spec ?_);(try simp only [seval,go_sem]);done) ?_ ?_<;>(try (omega))))
    all_goals (try (exact ⟨by omega,hf⟩))
 ·rw [List.drop_eq_nil_of_le (by omega),lateB,List.any_nil] at hf
  rw [← hf]
  ((repeat' (first|(with_reducible (first|refine Tri.seq ?_|refine Tri.exit ?_|refine Tri.ret ?_|refine TriD.nil ?_|refine thenQ_n ?_|refine thenQ_e ?_|refine inBlockQ_e ?_|refine loopQ_e ?_|refine Tri.regionD (by simp only [l_3,l_4];rfl) ?_))|((with_reducible refine isTriD ?_);(with_reducible first|refine TriD.step (by simp only [seval,go_sem];rfl) ?_|refine TriD.step (by simp (disch:=omega) only [seval,go_sem,cnd,intV,shV,convV,strV];rfl) ?_))|(with_reducible refine isCond ?_;with_reducible refine Tri.cond (by simp only [seval,go_sem];rfl) (cvI ?_) (cvI ?_))|(with_reducible refine isCv ?_;intro hc;(try simp only [bls,reduceCtorEq] at hc);(try (exfalso;omega)))|(with_reducible refine isRet ?_;refine RetOK.q rfl rfl (by simp only [seval,go_sem];rfl) (by decide) (by simp only [seval,go_sem];rfl) (by simp only [seval,go_sem];rfl) rfl ?_<;>(try simp only [seval,go_sem])<;>(repeat' (with_reducible apply And.intro))<;>(try rfl))))<;>(try (fail)))
set_option maxRecDepth 100000 in set_option maxHeartbeats 3200000 in
theorem ropen_calls {l:List Bd} {n:ByteArray} (hl:l.length≤100000):ACalls Tryz.prog 78 [.sl 4 (l.map rowBd), .sc (.string n)] (.sc (.int .i64 (openB n l))) []:=by
 refine of_tri [] [] Tryz.func78 rfl call78 rfl (by decide) (by decide) rfl rfl Tryz.ntmps78 (by simp (disch:=omega) only [seval,go_sem,cnd,intV,shV,convV,strV,List.replicate,l_2,l_1];rfl) (by simp (disch:=omega) only [seval,go_sem,cnd,intV,shV,convV,strV,l_2,l_1];rfl) ?_
 ((repeat' (first|(with_reducible (first|refine Tri.seq ?_|refine Tri.block ?_|refine TriD.nil ?_|refine thenQ_n ?_|refine Tri.regionD (by simp only [l_3,l_4];rfl) ?_))|((with_reducible refine isTriD ?_);(with_reducible refine TriD.step (by simp only [seval,go_sem];rfl) ?_))))<;>(try (fail)))
 (with_reducible refine Tri.loopU (fun (k:Nat)=>[(5,.sc (.int .i64 k)),(4,.any),(6,.any),(7,.any),(8,.any),(9,.any),(10,.any),(11,.any),(12,.any),(13,.any),(14,.any),(15,.any),(16,.any),(17,.any),(18,.any),(19,.any),(20,.any),(21,.any),(22,.any),(23,.any),(24,.any),(25,.any),(26,.any),(27,.any)]) (fun (k:Nat)=>[]) (fun (k:Nat)=>k≤l.length∧idxB (openP n) (l.drop k) k=openB n l) (fun (k:Nat)=>l.length-k) (0) (⟨Nat.zero_le _,rfl⟩) (by intro _;simp (disch:=omega) only [seval,go_sem,cnd,intV,shV,convV,strV];rfl) (by intro _;simp (disch:=omega) only [seval,go_sem,cnd,intV,shV,convV,strV];rfl) (by (refine leQL_spec ?_);(try simp only [seval,go_sem]);done) (by (refine leQH_spec ?_);(try simp only [seval,go_sem]);done) (fun k hI=>?_))
 obtain ⟨hk,hf⟩:=hI
 by_cases hlt:k<l.length
 ·obtain ⟨b,hb⟩:=get_lt hlt
  have hb':=get_map rowBd hb
  rw [drop_get hb,idxB] at hf
  cases h1:(b.name.toList==n.toList) with
  | false=>
    have hp:openP n b=false:=by unfold openP eqN;rw [h1];rfl
    rw [if_neg (by simp [hp])] at hf
    (all_goals (try have hZ:=(And.intro hb' h1));(repeat' (first|(with_reducible (first|refine Tri.seq ?_|refine Tri.block ?_|refine Tri.skip ?_|refine TriD.nil ?_|refine thenQ_n ?_|refine inBlockQ_n ?_|refine loopQ_n ?_|refine Tri.regionD (by simp only [l_3,l_4];rfl) ?_))|((with_reducible refine isTriD ?_);(with_reducible first|refine TriD.step (by simp only [seval,go_sem,rowBd,hZ];rfl) ?_|refine TriD.step (by simp (disch:=omega) only [seval,go_sem,cnd,intV,shV,convV,strV,rowBd,hZ];rfl) ?_))|(with_reducible refine isCond ?_;with_reducible refine Tri.cond (by simp only [seval,go_sem,rowBd,hZ];rfl) (cvI ?_) (cvI ?_))|(with_reducible refine isCv ?_;intro hc;(try simp only [bls,reduceCtorEq] at hc);(try (exfalso;omega)))))<;>(try (fail));all_goals (try clear hZ))
    all_goals (try (refine isNext (k+1) (by (refine leQL_spec ?_);(try simp only [seval,go_sem]);first|((repeat' (with_reducible apply And.intro))<;>first|rfl);done) (by (refine leQH_spec ?_);(try simp only [seval,go_sem]);done) ?_ ?_<;>(try (omega))))
    all_goals (try (exact ⟨by omega,hf⟩))
  | true=>
    by_cases h2:b.to=0
    ·have hp:openP n b=true:=by unfold openP eqN;rw [h1,h2];rfl
     rw [if_pos hp] at hf
     rw [← hf]
     (all_goals (try have hZ:=(And.intro hb' h1));(repeat' (first|(with_reducible (first|refine Tri.seq ?_|refine Tri.block ?_|refine Tri.skip ?_|refine Tri.ret ?_|refine TriD.nil ?_|refine thenQ_n ?_|refine thenQ_r ?_|refine inBlockQ_r ?_|refine loopQ_r ?_|refine Tri.regionD (by simp only [l_3,l_4];rfl) ?_))|((with_reducible refine isTriD ?_);(with_reducible first|refine TriD.step (by simp only [seval,go_sem,rowBd,hZ];rfl) ?_|refine TriD.step (by simp (disch:=omega) only [seval,go_sem,cnd,intV,shV,convV,strV,rowBd,hZ];rfl) ?_))|(with_reducible refine isCond ?_;with_reducible refine Tri.cond (by simp only [seval,go_sem,rowBd,hZ];rfl) (cvI ?_) (cvI ?_))|(with_reducible refine isCv ?_;intro hc;(try simp only [bls,reduceCtorEq] at hc);(try (exfalso;omega)))|(with_reducible refine isRet ?_;refine RetOK.q rfl rfl (by simp only [seval,go_sem];rfl) (by decide) (by simp only [seval,go_sem];rfl) (by simp only [seval,go_sem];rfl) rfl ?_<;>(try simp only [seval,go_sem])<;>(repeat' (with_reducible apply And.intro))<;>(try rfl))))<;>(try (fail));all_goals (try clear hZ))
    ·have hp:openP n b=false:=by unfold openP eqN;rw [beq_eq_false_iff_ne.2 h2,Bool.and_false]
     rw [if_neg (by simp [hp])] at hf
     (all_goals (try have hZ:=(And.intro hb' h1));(repeat' (first|(with_reducible (first|refine Tri.seq ?_|refine Tri.block ?_|refine Tri.skip ?_|refine TriD.nil ?_|refine thenQ_n ?_|refine inBlockQ_n ?_|refine loopQ_n ?_|refine Tri.regionD (by simp only [l_3,l_4];rfl) ?_))|((with_reducible refine isTriD ?_);(with_reducible first|refine TriD.step (by simp only [seval,go_sem,rowBd,hZ];rfl) ?_|refine TriD.step (by simp (disch:=omega) only [seval,go_sem,cnd,intV,shV,convV,strV,rowBd,hZ];rfl) ?_))|(with_reducible refine isCond ?_;with_reducible refine Tri.cond (by simp only [seval,go_sem,rowBd,hZ];rfl) (cvI ?_) (cvI ?_))|(with_reducible refine isCv ?_;intro hc;(try simp only [bls,reduceCtorEq] at hc);(try (exfalso;omega)))))<;>(try (fail));all_goals (try clear hZ))
     all_goals (try (refine isNext (k+1) (by (refine leQL_spec ?_);(try simp only [seval,go_sem]);first|((repeat' (with_reducible apply And.intro))<;>first|rfl);done) (by (refine leQH_spec ?_);(try simp only [seval,go_sem]);done) ?_ ?_<;>(try (omega))))
     all_goals (try (exact ⟨by omega,hf⟩))
 ·rw [List.drop_eq_nil_of_le (by omega),idxB] at hf
  rw [← hf]
  ((repeat' (first|(with_reducible (first|refine Tri.seq ?_|refine Tri.exit ?_|refine Tri.ret ?_|refine TriD.nil ?_|refine thenQ_n ?_|refine thenQ_e ?_|refine inBlockQ_e ?_|refine loopQ_e ?_|refine Tri.regionD (by simp only [l_3,l_4];rfl) ?_))|((with_reducible refine isTriD ?_);(with_reducible first|refine TriD.step (by simp only [seval,go_sem];rfl) ?_|refine TriD.step (by simp (disch:=omega) only [seval,go_sem,cnd,intV,shV,convV,strV];rfl) ?_))|(with_reducible refine isCond ?_;with_reducible refine Tri.cond (by simp only [seval,go_sem];rfl) (cvI ?_) (cvI ?_))|(with_reducible refine isCv ?_;intro hc;(try simp only [bls,reduceCtorEq] at hc);(try (exfalso;omega)))|(with_reducible refine isRet ?_;refine RetOK.q rfl rfl (by simp only [seval,go_sem];rfl) (by decide) (by simp only [seval,go_sem];rfl) (by simp only [seval,go_sem];rfl) rfl ?_<;>(try simp only [seval,go_sem])<;>(repeat' (with_reducible apply And.intro))<;>(try rfl))))<;>(try (fail)))
set_option maxRecDepth 100000 in set_option maxHeartbeats 3200000 in
theorem rlook_calls {l:List Bd} {n:ByteArray} {c:Int} (hl:l.length≤100000):ACalls Tryz.prog 68 [.sl 4 (l.map rowBd), .sc (.string n), .sc (.int .i64 c)] (.tup [.sc (.int .i64 (lookB n c l).1), .sc (.bool (lookB n c l).2)]) []:=by
 refine of_tri [] [34] Tryz.func68 rfl call68 rfl (by decide) (by decide) rfl rfl Tryz.ntmps68 (by simp (disch:=omega) only [seval,go_sem,cnd,intV,shV,convV,strV,List.replicate,l_2,l_1];rfl) (by simp (disch:=omega) only [seval,go_sem,cnd,intV,shV,convV,strV,l_2,l_1];rfl) ?_
 ((repeat' (first|(with_reducible (first|refine Tri.seq ?_|refine Tri.block ?_|refine TriD.nil ?_|refine thenQ_n ?_|refine Tri.regionD (by simp only [l_3,l_4];rfl) ?_))|((with_reducible refine isTriD ?_);(with_reducible refine TriD.step (by simp only [seval,go_sem];rfl) ?_))))<;>(try (fail)))
 (with_reducible refine Tri.loopU (fun (k:Nat)=>[(8,.sc (.int .i64 k)),(6,.any),(7,.any),(9,.any),(10,.any),(11,.any),(12,.any),(13,.any),(14,.any),(15,.any),(16,.any),(17,.any),(18,.any),(19,.any),(20,.any),(21,.any),(22,.any),(23,.any),(24,.any),(25,.any),(26,.any),(27,.any),(28,.any),(29,.any),(30,.any),(31,.any),(32,.any),(33,.any),(34,.any),(35,.any),(36,.any),(37,.any),(38,.any),(39,.any),(40,.any)]) (fun (k:Nat)=>[(34,.dead)]) (fun (k:Nat)=>k≤l.length∧lookB n c (l.drop k)=lookB n c l) (fun (k:Nat)=>l.length-k) (0) (⟨Nat.zero_le _,rfl⟩) (by intro _;simp (disch:=omega) only [seval,go_sem,cnd,intV,shV,convV,strV];rfl) (by intro _;simp (disch:=omega) only [seval,go_sem,cnd,intV,shV,convV,strV];rfl) (by (refine leQL_spec ?_);(try simp only [seval,go_sem]);done) (by (refine leQH_spec ?_);(try simp only [seval,go_sem]);done) (fun k hI=>?_))
 obtain ⟨hk,hf⟩:=hI
 by_cases hlt:k<l.length
 ·obtain ⟨b,hb⟩:=get_lt hlt
  have hb':=get_map rowBd hb
  rw [drop_get hb,lookB,eqN] at hf
  cases h1:(b.name.toList==n.toList) with
  | false=>
    rw [h1,Bool.false_and,if_neg (by decide)] at hf
    (all_goals (try have hZ:=(And.intro hb' h1));(repeat' (first|(with_reducible (first|refine Tri.seq ?_|refine Tri.block ?_|refine Tri.skip ?_|refine TriD.nil ?_|refine ListD.nil ?_|refine thenQ_n ?_|refine inBlockQ_n ?_|refine loopQ_n ?_|refine Tri.regionD (by simp only [l_3,l_4];rfl) ?_))|((with_reducible refine isTriD ?_);(with_reducible first|refine TriD.step (by simp only [seval,go_sem,rowBd,hZ];rfl) ?_|refine TriD.step (by simp (disch:=omega) only [seval,go_sem,cnd,intV,shV,convV,strV,rowBd,hZ];rfl) ?_))|((with_reducible refine isListD ?_);(with_reducible first|refine ListD.step (by simp only [seval,go_sem,rowBd,hZ];rfl) ?_|refine ListD.step (by simp (disch:=omega) only [seval,go_sem,cnd,intV,shV,convV,strV,rowBd,hZ];rfl) ?_))|(with_reducible refine isCond ?_;with_reducible refine Tri.cond (by simp only [seval,go_sem,rowBd,hZ];rfl) (cvI ?_) (cvI ?_))|(with_reducible refine isCv ?_;intro hc;(try simp only [bls,reduceCtorEq] at hc);(try (exfalso;omega)))|(with_reducible refine isDrawn ?_;refine Tri.drawnD mix (by kernel_rfl) (by simp only [l_3,l_4];rfl) ?_)))<;>(try (fail));all_goals (try clear hZ))
    all_goals (try (refine isNext (k+1) (by (refine leQL_spec ?_);(try simp only [seval,go_sem]);first|((repeat' (with_reducible apply And.intro))<;>first|rfl);done) (by (refine leQH_spec ?_);(try simp only [seval,go_sem]);done) ?_ ?_<;>(try (omega))))
    all_goals (try (exact ⟨by omega,hf⟩))
  | true=>
    rw [h1,Bool.true_and] at hf
    cases h2:holdsB b.frm b.to c with
    | true=>
      rw [if_pos h2] at hf
      rw [← hf]
      (all_goals (try have hZ:=(And.intro hb' (And.intro h1 h2)));(repeat' (first|(with_reducible (first|refine Tri.seq ?_|refine Tri.block ?_|refine Tri.skip ?_|refine Tri.ret ?_|refine TriD.nil ?_|refine ListD.nil ?_|refine thenQ_n ?_|refine thenQ_r ?_|refine inBlockQ_r ?_|refine loopQ_r ?_|refine Tri.regionD (by simp only [l_3,l_4];rfl) ?_))|((with_reducible refine isTriD ?_);(with_reducible first|refine TriD.step (by simp only [seval,go_sem,rowBd,hZ];rfl) ?_|refine TriD.step (by simp (disch:=omega) only [seval,go_sem,cnd,intV,shV,convV,strV,rowBd,hZ];rfl) ?_))|((with_reducible refine isListD ?_);first|(with_reducible refine ListD.step (by simp only [seval,go_sem,rowBd,hZ];rfl) ?_)|((with_reducible refine isCallV ?_);((with_reducible (refine ListD.dE (by simp only [seval,go_sem,rowBd,hZ];rfl) (by simp only [seval,go_sem,rowBd,hZ];rfl) ?_));refine CallW.c (rholds_calls) (by simp only [seval,go_sem,rowBd,hZ];rfl) ?_))|(with_reducible refine ListD.step (by simp (disch:=omega) only [seval,go_sem,cnd,intV,shV,convV,strV,rowBd,hZ];rfl) ?_))|(with_reducible refine isCond ?_;with_reducible refine Tri.cond (by simp only [seval,go_sem,rowBd,hZ];rfl) (cvI ?_) (cvI ?_))|(with_reducible refine isCv ?_;intro hc;(try simp only [bls,reduceCtorEq] at hc);(try (exfalso;omega)))|(with_reducible refine isDrawn ?_;refine Tri.drawnD mix (by kernel_rfl) (by simp only [l_3,l_4];rfl) ?_)|(with_reducible refine isRet ?_;refine RetOK.q rfl rfl (by simp only [seval,go_sem];rfl) (by decide) (by simp only [seval,go_sem];rfl) (by simp only [seval,go_sem];rfl) rfl ?_<;>(try simp only [seval,go_sem])<;>(repeat' (with_reducible apply And.intro))<;>(try rfl))))<;>(try (fail));all_goals (try clear hZ))
    | false=>
      rw [if_neg (by simp [h2])] at hf
      (all_goals (try have hZ:=(And.intro hb' (And.intro h1 h2)));(repeat' (first|(with_reducible (first|refine Tri.seq ?_|refine Tri.block ?_|refine Tri.skip ?_|refine TriD.nil ?_|refine ListD.nil ?_|refine thenQ_n ?_|refine inBlockQ_n ?_|refine loopQ_n ?_|refine Tri.regionD (by simp only [l_3,l_4];rfl) ?_))|((with_reducible refine isTriD ?_);(with_reducible first|refine TriD.step (by simp only [seval,go_sem,rowBd,hZ];rfl) ?_|refine TriD.step (by simp (disch:=omega) only [seval,go_sem,cnd,intV,shV,convV,strV,rowBd,hZ];rfl) ?_))|((with_reducible refine isListD ?_);first|(with_reducible refine ListD.step (by simp only [seval,go_sem,rowBd,hZ];rfl) ?_)|((with_reducible refine isCallV ?_);((with_reducible (refine ListD.dE (by simp only [seval,go_sem,rowBd,hZ];rfl) (by simp only [seval,go_sem,rowBd,hZ];rfl) ?_));refine CallW.c (rholds_calls) (by simp only [seval,go_sem,rowBd,hZ];rfl) ?_))|(with_reducible refine ListD.step (by simp (disch:=omega) only [seval,go_sem,cnd,intV,shV,convV,strV,rowBd,hZ];rfl) ?_))|(with_reducible refine isCond ?_;with_reducible refine Tri.cond (by simp only [seval,go_sem,rowBd,hZ];rfl) (cvI ?_) (cvI ?_))|(with_reducible refine isCv ?_;intro hc;(try simp only [bls,reduceCtorEq] at hc);(try (exfalso;omega)))|(with_reducible refine isDrawn ?_;refine Tri.drawnD mix (by kernel_rfl) (by simp only [l_3,l_4];rfl) ?_)))<;>(try (fail));all_goals (try clear hZ))
      all_goals (try (refine isNext (k+1) (by (refine leQL_spec ?_);(try simp only [seval,go_sem]);first|((repeat' (with_reducible apply And.intro))<;>first|rfl);done) (by (refine leQH_spec ?_);(try simp only [seval,go_sem]);done) ?_ ?_<;>(try (omega))))
      all_goals (try (exact ⟨by omega,hf⟩))
 ·rw [List.drop_eq_nil_of_le (by omega),lookB] at hf
  rw [← hf]
  ((repeat' (first|(with_reducible (first|refine Tri.seq ?_|refine Tri.exit ?_|refine Tri.ret ?_|refine TriD.nil ?_|refine thenQ_n ?_|refine thenQ_e ?_|refine inBlockQ_e ?_|refine loopQ_e ?_|refine Tri.regionD (by simp only [l_3,l_4];rfl) ?_))|((with_reducible refine isTriD ?_);(with_reducible first|refine TriD.step (by simp only [seval,go_sem];rfl) ?_|refine TriD.step (by simp (disch:=omega) only [seval,go_sem,cnd,intV,shV,convV,strV];rfl) ?_))|(with_reducible refine isCond ?_;with_reducible refine Tri.cond (by simp only [seval,go_sem];rfl) (cvI ?_) (cvI ?_))|(with_reducible refine isCv ?_;intro hc;(try simp only [bls,reduceCtorEq] at hc);(try (exfalso;omega)))|(with_reducible refine isRet ?_;refine RetOK.q rfl rfl (by simp only [seval,go_sem];rfl) (by decide) (by simp only [seval,go_sem];rfl) (by simp only [seval,go_sem];rfl) rfl ?_<;>(try simp only [seval,go_sem])<;>(repeat' (with_reducible apply And.intro))<;>(try rfl))))<;>(try (fail)))
end Go.Proofs.YtmgodadmafcliaaGreat
/- slices.Insert into a row of bindings. -/
set_option linter.unusedSimpArgs false
set_option linter.unusedVariables false
namespace Go.Proofs.YtmgodadmafcliaaGreat
open Go.RowKit Go.Avm
end Go.Proofs.YtmgodadmafcliaaGreat
/- Directory: the walks of add of the program and of place of the reference. -/
set_option linter.unusedSimpArgs false
set_option linter.unusedVariables false
namespace Go.Proofs.YtmgodadmafcliaaGreat
open Go.RowKit Go.Avm
theorem flatBd (l:List Bd):(List.map rowBd l).all flatL=true:=by simp [List.all_eq_true,rowBd,flatL,flatD]
attribute [go_sem] flatBd
theorem placeB_le (b:Bd): ∀ l:List Bd,placeB b l≤l.length
 | []=>Nat.le_refl _
 | x::l=>by
   unfold placeB
   split
   ·have:=placeB_le b l;simp only [List.length_cons];omega
   ·exact Nat.zero_le _
def ltS (l:List Bd):Prop:=l.Pairwise (fun x y=>ltB x y=true)
theorem swap_set {l:List Bd} {k:Nat} {x b:Bd} (hx:l[k]? = some x):(((l.take (k+1)++[b]++l.drop (k+1)).set (k+1) x).set k b)=l.take k++[b]++l.drop k:=by
 have hlt:=(List.getElem?_eq_some_iff.1 hx).1
 have h1:l.take (k+1)=l.take k++[x]:=by rw [List.take_add_one,hx];rfl
 have h2:l.drop k=x::l.drop (k+1):=drop_get hx
 have h3:(l.take k).length=k:=by rw [List.length_take];omega
 rw [h1,h2]
 simp only [List.append_assoc,List.cons_append,List.nil_append]
 rw [List.set_append_right _ _ (by omega),h3,Nat.add_sub_cancel_left]
 simp only [List.set_cons_succ,List.set_cons_zero]
 rw [List.set_append_right _ _ (by omega),h3,Nat.sub_self]
 rfl
theorem placeB_is (b:Bd): ∀ (l:List Bd) (i:Nat),i≤l.length→(∀ j x,j<i→l[j]? = some x→ltB x b=true)→(∀ x,l[i]? = some x→ltB x b=false)→placeB b l=i
 | [],i,h,_,_=>by simp at h;subst h;rfl
 | x::l,0,_,_,h2=>by
   have:=h2 x rfl
   unfold placeB
   rw [if_neg (by simp [this])]
 | x::l,i+1,h,h1,h2=>by
   have h3:=h1 0 x (by omega) rfl
   unfold placeB
   rw [if_pos h3,placeB_is b l i (by simpa using h) (fun j y hj hy=>h1 (j+1) y (by omega) (by simpa using hy)) (fun y hy=>h2 y (by simpa using hy))]
theorem ltB_trans {x y z:Bd} (h:ltB x y=true) (g:ltB y z=true):ltB x z=true:=by
 simp only [ltB,ltN,eqN,Bool.or_eq_true,Bool.and_eq_true,decide_eq_true_eq,beq_iff_eq] at h g ⊢
 rcases h with h|⟨h,h'⟩<;>rcases g with g|⟨g,g'⟩
 ·exact .inl (bl_trans h g)
 ·rw [← g];exact .inl h
 ·rw [h];exact .inl g
 ·exact .inr ⟨h.trans g,by omega⟩
theorem ltB_asymm {x y:Bd} (h:ltB x y=true):ltB y x=false:=by
 simp only [ltB,ltN,eqN,Bool.or_eq_true,Bool.and_eq_true,decide_eq_true_eq,beq_iff_eq] at h
 rw [Bool.eq_false_iff]
 intro g
 simp only [ltB,ltN,eqN,Bool.or_eq_true,Bool.and_eq_true,decide_eq_true_eq,beq_iff_eq] at g
 rcases h with h|⟨h,h'⟩<;>rcases g with g|⟨g,g'⟩
 ·rw [bl_asymm h] at g;cases g
 ·exact bl_ne h g.symm
 ·exact bl_ne g h.symm
 ·omega
theorem ltS_get {l:List Bd} (hs:ltS l) {i j:Nat} {x y:Bd} (hx:l[i]? = some x) (hy:l[j]? = some y) (h:i<j):ltB x y=true:=by
 obtain ⟨h1,e1⟩:=List.getElem?_eq_some_iff.1 hx
 obtain ⟨h2,e2⟩:=List.getElem?_eq_some_iff.1 hy
 subst e1 e2
 exact List.pairwise_iff_getElem.1 hs i j h1 h2 h
theorem addB_at {l:List Bd} {b:Bd} {k:Nat} (hk:k≤l.length) (hs:ltS l) (h1: ∀ j x,k≤j→l[j]? = some x→ltB b x=true) (h2: ∀ x,0<k→l[k-1]? = some x→ltB x b=true):addB b l=l.take k++[b]++l.drop k:=by
 have:placeB b l=k:=placeB_is b l k hk (fun j x hj hx=>by
  by_cases e:j=k-1
  ·subst e;exact h2 x (by omega) hx
  ·obtain ⟨y,hy⟩:=get_lt (show k-1<l.length by omega)
   exact ltB_trans (ltS_get hs hx hy (by omega)) (h2 y (by omega) hy)) (fun x hx=>ltB_asymm (h1 k x (Nat.le_refl _) hx))
 rw [addB,this]
set_option maxRecDepth 100000 in set_option maxHeartbeats 6400000 in
theorem placeb_calls {l:List Bd} {b:Bd} (hl:l.length≤100000) (hs:ltS l) (hb: ∀ x∈l,ltB x b=true∨ltB b x=true):ACalls Tryz.prog 73 [.sl 4 (l.map rowBd), .agg (rowBd b)] (.sl 4 ((addB b l).map rowBd)) []:=by
 have hlen: ∀ k,k≤l.length→(l.take k++[b]++l.drop k).length=l.length+1:=fun k hk=>by simp only [List.length_append,List.length_take,List.length_drop,List.length_cons,List.length_nil];omega
 have hbe:[D.sc (.string b.name),D.sc (.int .i64 b.obj),D.sc (.int .i64 b.frm),D.sc (.int .i64 b.to)]=rowBd b:=rfl
 have hl1:(List.map rowBd l++[[D.sc (Value.string b.name),D.sc (Value.int IntKind.i64 b.obj),D.sc (Value.int IntKind.i64 b.frm),D.sc (Value.int IntKind.i64 b.to)]]).length=l.length+1:=by simp
 simp only [rowBd]
 refine of_tri [] [3,8,10,11] Tryz.func73 rfl call73 rfl (by decide) (by decide) rfl rfl Tryz.ntmps73 (by simp (disch:=omega) only [seval,go_sem,cnd,intV,shV,convV,strV,List.replicate,l_2,l_1];rfl) (by simp (disch:=omega) only [seval,go_sem,cnd,intV,shV,convV,strV,l_2,l_1];rfl) ?_
 ((repeat' (first|(with_reducible (first|refine Tri.seq ?_|refine Tri.block ?_|refine TriD.nilP ?_|refine TriD.nil ?_|refine thenQ_n ?_|refine Tri.regionD (by simp only [l_3,l_4];rfl) ?_))|((with_reducible refine isTriD ?_);(with_reducible first|refine TriD.step (by simp only [seval,go_sem,hl1];rfl) ?_|refine TriD.step (by simp (disch:=omega) only [seval,go_sem,cnd,intV,shV,convV,strV,hl1];rfl) ?_))|(with_reducible refine isDrawnN 1 ?_;refine Tri.mixedP 1 mix 6 rfl (.f 0 <| .a <| .b 1 (.a <| .b 2 (.a <| .b 3 (.a <| .b 4 (.f 5 <| .d) .e) .e) .e) <| .b 2 (.a <| .b 1 (.a <| .b 3 (.a <| .b 4 (.f 5 <| .d) .e) .e) <| .b 3 (.a <| .b 1 (.a <| .b 4 (.f 5 <| .d) .e) .e) .e) .e) (by kernel_rfl) ?_)|(with_reducible refine isAnyP ?_;first|refine AnyP.D ?_|refine AnyP.F (by simp only [seval,go_sem,l_7,l_6];rfl) (by first|(simp only [seval,go_sem,hl1];done)) (by first|(simp only [seval,go_sem,hl1];with_reducible rfl)) ?_|refine AnyP.A ?_)|(first|exact NextsP.E|refine NextsP.B (by simp only [seval,go_sem,l_7,l_6];rfl) ?_ ?_)))<;>(try (fail)))
 all_goals (with_reducible refine Tri.loopU (fun (k:Nat)=>[(6,.sc (.int .i64 k)),(5,.slo 11 4 0 (l.length+1)),(15,.any),(16,.any),(17,.any),(18,.any),(19,.any),(20,.any),(21,.any),(22,.any),(23,.any),(24,.any),(25,.any),(26,.any),(27,.any),(28,.any),(29,.any),(30,.any),(31,.any),(32,.any),(33,.any),(34,.any),(35,.any),(36,.any),(37,.any),(38,.any),(39,.any),(40,.any),(41,.any),(42,.any),(43,.any),(44,.any),(45,.any),(46,.any),(47,.any),(48,.any),(49,.any),(50,.any),(51,.any),(52,.any),(53,.any),(54,.any),(55,.any),(56,.any),(57,.any),(58,.any),(59,.any),(60,.any),(61,.any),(62,.any),(63,.any),(64,.any),(65,.any),(66,.any),(67,.any),(68,.any),(69,.any),(70,.any),(71,.any),(72,.any),(73,.any),(74,.any),(75,.any),(76,.any)]) (fun (k:Nat)=>[(11,.row 4 ((l.take k++[b]++l.drop k).map rowBd))]) (fun (k:Nat)=>k≤l.length∧ ∀ j x,k≤j→l[j]? = some x→ltB b x=true) (fun (k:Nat)=>k) (l.length) (⟨Nat.le_refl _,fun j x h hx=>by have:=(List.getElem?_eq_some_iff.1 hx).1;omega⟩) (by intro _;simp (disch:=omega) only [seval,go_sem,cnd,intV,shV,convV,strV];rfl) (by intro _;simp (disch:=omega) only [seval,go_sem,cnd,intV,shV,convV,strV];rfl) (by (refine leQL_spec ?_);(try simp only [seval,go_sem,List.take_length,List.drop_length,rowBd]);first|((repeat' (with_reducible apply And.intro))<;>first|omega);done) (by (refine leQH_spec ?_);(try simp only [seval,go_sem,List.take_length,List.drop_length,rowBd]);first|((repeat' (with_reducible apply And.intro))<;>first|(simp [List.take_length,List.drop_length,rowBd];done));done) (fun k hI=>?_))
 all_goals
  obtain ⟨hk,hf⟩:=hI
  rcases k with _|k
  ·have ha:=addB_at (l:=l) (b:=b) (k:=0) (by omega) hs hf (fun x h=>by omega)
   rw [ha]
   have hll:((l.take 0++[b]++l.drop 0).map rowBd).length=l.length+1:=by rw [List.length_map];exact hlen 0 (by omega)
   ((repeat' (first|(with_reducible (first|refine Tri.seq ?_|refine Tri.exit ?_|refine Tri.ret ?_|refine TriD.nil ?_|refine ListD.nil ?_|refine thenQ_n ?_|refine thenQ_e ?_|refine inBlockQ_e ?_|refine loopQ_e ?_|refine Tri.regionD (by simp only [l_3,l_4];rfl) ?_))|((with_reducible refine isTriD ?_);(with_reducible refine TriD.step (by simp only [seval,go_sem,hll];rfl) ?_))|((with_reducible refine isListD ?_);(with_reducible first|refine ListD.step (by simp only [seval,go_sem,hll];rfl) ?_|refine ListD.step (by simp (disch:=omega) only [seval,go_sem,cnd,intV,shV,convV,strV,hll];rfl) ?_))|(with_reducible refine isCond ?_;with_reducible refine Tri.cond (by simp only [seval,go_sem,hll];rfl) (cvI ?_) (cvI ?_))|(with_reducible refine isCv ?_;intro hc;(try simp only [bls,reduceCtorEq] at hc);(try (exfalso;omega)))|(with_reducible refine isDrawn ?_;refine Tri.drawnD mix (by kernel_rfl) (by simp only [l_3,l_4];rfl) ?_)|(with_reducible refine isRet ?_;(refine RetOK.frz 11 (by simp only [seval,go_sem];rfl) (by simp only [seval,go_sem,hll];rfl) ?_);(with_reducible refine isRet ?_;refine RetOK.q rfl rfl (by simp only [seval,go_sem];rfl) (by decide) (by simp only [seval,go_sem];rfl) (by simp only [seval,go_sem];rfl) rfl ?_<;>(try simp only [seval,go_sem,hll])<;>(repeat' (with_reducible apply And.intro))<;>(try rfl)))))<;>(try (fail)))
   all_goals (try (exact List.take_of_length_le (by rw [hll];omega)))
  ·obtain ⟨x,hx⟩:=get_lt (show k<l.length by omega)
   have ht3:(l.take (k+1)).length=k+1:=by rw [List.length_take];omega
   have g1:(l.take (k+1)++[b]++l.drop (k+1))[k+1]? = some b:=by
    rw [List.append_assoc,List.getElem?_append_right (by omega),ht3,Nat.sub_self];rfl
   have g2:(l.take (k+1)++[b]++l.drop (k+1))[k]? = some x:=by
    rw [List.append_assoc,List.getElem?_append_left (by omega),List.getElem?_take_of_lt (by omega)];exact hx
   have g1':=get_map rowBd g1
   have g2':=get_map rowBd g2
   have hsw:=congrArg (List.map rowBd) (swap_set (b:=b) hx)
   simp only [List.map_set] at hsw
   have hll:((l.take (k+1)++[b]++l.drop (k+1)).map rowBd).length=l.length+1:=by rw [List.length_map];exact hlen (k+1) (by omega)
   have g3:((List.map rowBd (l.take (k+1)++[b]++l.drop (k+1))).set (k+1) (rowBd x))[k]? = some (rowBd x):=by rw [List.getElem?_set_ne (by omega)];exact g2'
   simp only [rowBd] at g3
   simp only [rowBd] at hsw
   generalize hR:l.take (k+1)++[b]++l.drop (k+1)=RR at *
   have e1:((k+1:Nat):Int)-1=k:=by omega
   rcases hb x (List.mem_of_getElem? hx) with hlt|hlt
   ·have ha:=addB_at (l:=l) (b:=b) (k:=k+1) hk hs hf (fun y _ hy=>by rw [Nat.add_sub_cancel,hx] at hy;cases hy;exact hlt)
    rw [ha,hR]
    have has:=ltB_asymm hlt
    simp only [ltB,ltN,eqN,Bool.or_eq_false_iff] at has
    obtain ⟨c1,c2⟩:=has
    cases c3:(b.name.toList==x.name.toList) with
    | false=>
      ((repeat' (first|(with_reducible (first|refine Tri.seq ?_|refine Tri.exit ?_|refine Tri.ret ?_|refine TriD.nil ?_|refine ListD.nil ?_|refine thenQ_n ?_|refine thenQ_e ?_|refine inBlockQ_e ?_|refine loopQ_e ?_|refine Tri.regionD (by simp only [l_3,l_4];rfl) ?_))|((with_reducible refine isTriD ?_);(with_reducible refine TriD.step (by simp only [seval,go_sem,g1',g2',rowBd,c1,c3,e1,hll];rfl) ?_))|((with_reducible refine isListD ?_);(with_reducible first|refine ListD.step (by simp only [seval,go_sem,g1',g2',rowBd,c1,c3,e1,hll];rfl) ?_|refine ListD.step (by simp (disch:=omega) only [seval,go_sem,cnd,intV,shV,convV,strV,g1',g2',rowBd,c1,c3,e1,hll];rfl) ?_))|(with_reducible refine isCond ?_;with_reducible refine Tri.cond (by simp only [seval,go_sem,g1',g2',rowBd,c1,c3,e1,hll];rfl) (cvI ?_) (cvI ?_))|(with_reducible refine isCv ?_;intro hc;(try simp only [bls,reduceCtorEq] at hc);(try (exfalso;omega)))|(with_reducible refine isDrawn ?_;refine Tri.drawnD mix (by kernel_rfl) (by simp only [l_3,l_4];rfl) ?_)|(with_reducible refine isRet ?_;(refine RetOK.frz 11 (by simp only [seval,go_sem];rfl) (by simp only [seval,go_sem,g1',g2',rowBd,c1,c3,e1,hll];rfl) ?_);(with_reducible refine isRet ?_;refine RetOK.q rfl rfl (by simp only [seval,go_sem];rfl) (by decide) (by simp only [seval,go_sem];rfl) (by simp only [seval,go_sem];rfl) rfl ?_<;>(try simp only [seval,go_sem,g1',g2',rowBd,c1,c3,e1,hll])<;>(repeat' (with_reducible apply And.intro))<;>(try rfl)))))<;>(try (fail)))
      all_goals (try (exact List.take_of_length_le (by rw [hll];omega)))
    | true=>
      rw [c3,Bool.true_and,decide_eq_false_iff_not] at c2
      ((repeat' (first|(with_reducible (first|refine Tri.seq ?_|refine Tri.exit ?_|refine Tri.ret ?_|refine TriD.nil ?_|refine ListD.nil ?_|refine thenQ_n ?_|refine thenQ_e ?_|refine inBlockQ_e ?_|refine loopQ_e ?_|refine Tri.regionD (by simp only [l_3,l_4];rfl) ?_))|((with_reducible refine isTriD ?_);(with_reducible refine TriD.step (by simp only [seval,go_sem,g1',g2',rowBd,c1,c3,e1,hll];rfl) ?_))|((with_reducible refine isListD ?_);(with_reducible first|refine ListD.step (by simp only [seval,go_sem,g1',g2',rowBd,c1,c3,e1,hll];rfl) ?_|refine ListD.step (by simp (disch:=omega) only [seval,go_sem,cnd,intV,shV,convV,strV,g1',g2',rowBd,c1,c3,e1,hll];rfl) ?_))|(with_reducible refine isCond ?_;with_reducible refine Tri.cond (by simp only [seval,go_sem,g1',g2',rowBd,c1,c3,e1,hll];rfl) (cvI ?_) (cvI ?_))|(with_reducible refine isCv ?_;intro hc;(try simp only [bls,reduceCtorEq] at hc);(try (exfalso;omega)))|(with_reducible refine isDrawn ?_;refine Tri.drawnD mix (by kernel_rfl) (by simp only [l_3,l_4];rfl) ?_)|(with_reducible refine isRet ?_;(refine RetOK.frz 11 (by simp only [seval,go_sem];rfl) (by simp only [seval,go_sem,g1',g2',rowBd,c1,c3,e1,hll];rfl) ?_);(with_reducible refine isRet ?_;refine RetOK.q rfl rfl (by simp only [seval,go_sem];rfl) (by decide) (by simp only [seval,go_sem];rfl) (by simp only [seval,go_sem];rfl) rfl ?_<;>(try simp only [seval,go_sem,g1',g2',rowBd,c1,c3,e1,hll])<;>(repeat' (with_reducible apply And.intro))<;>(try rfl)))))<;>(try (fail)))
      all_goals (try (exact List.take_of_length_le (by rw [hll];omega)))
   ·have hnext:k≤l.length∧ ∀ (j:Nat) (x:Bd),k≤j→l[j]? = some x→ltB b x=true:=⟨by omega,fun j y hj hy=>by
     by_cases e:j=k
     ·subst e;rw [hx] at hy;cases hy;exact hlt
     ·exact hf j y (by omega) hy⟩
    have has:=hlt
    simp only [ltB,ltN,eqN,Bool.or_eq_true] at has
    cases c1:Op.bytesLess b.name.toList x.name.toList with
    | true=>
      ((repeat' (first|(with_reducible (first|refine Tri.seq ?_|refine Tri.block ?_|refine Tri.skip ?_|refine TriD.nilP ?_|refine TriD.nil ?_|refine ListD.nil ?_|refine thenQ_n ?_|refine inBlockQ_n ?_|refine loopQ_n ?_|refine Tri.regionD (by simp only [l_3,l_4];rfl) ?_))|((with_reducible refine isTriD ?_);(with_reducible first|refine TriD.step (by simp only [seval,go_sem,g1',g2',g3,rowBd,c1,e1];rfl) ?_|refine TriD.step (by simp (disch:=omega) only [seval,go_sem,cnd,intV,shV,convV,strV,g1',g2',g3,rowBd,c1,e1];rfl) ?_))|((with_reducible refine isListD ?_);(with_reducible first|refine ListD.step (by simp only [seval,go_sem,g1',g2',g3,rowBd,c1,e1];rfl) ?_|refine ListD.step (by simp (disch:=omega) only [seval,go_sem,cnd,intV,shV,convV,strV,g1',g2',g3,rowBd,c1,e1];rfl) ?_))|(with_reducible refine isCond ?_;with_reducible refine Tri.cond (by simp only [seval,go_sem,g1',g2',g3,rowBd,c1,e1];rfl) (cvI ?_) (cvI ?_))|(with_reducible refine isCv ?_;intro hc;(try simp only [bls,reduceCtorEq] at hc);(try (exfalso;omega)))|(with_reducible refine isDrawnN 5 ?_;refine Tri.mixedP 5 mix 18 rfl (.f 0 <| .f 1 <| .f 2 <| .f 3 <| .f 4 <| .f 5 <| .f 6 <| .f 7 <| .f 8 <| .f 10 <| .f 11 <| .f 12 <| .a <| .b 9 (.a <| .b 13 (.f 14 <| .a <| .b 15 (.f 16 <| .a <| .b 17 (.d) .e) .e) .e) <| .b 13 (.a <| .b 9 (.f 14 <| .a <| .b 15 (.f 16 <| .a <| .b 17 (.d) .e) .e) .e) .e) (by kernel_rfl) ?_)|(with_reducible refine isAnyP ?_;first|refine AnyP.D ?_|refine AnyP.F (by simp only [seval,go_sem,l_7,l_6];rfl) (by first|(simp only [seval,go_sem,g1',g2',g3,rowBd,c1,e1];done)) (by first|(simp only [seval,go_sem,g1',g2',g3,rowBd,c1,e1];with_reducible rfl)|(simp (disch:=omega) only [seval,go_sem,cnd,intV,shV,convV,strV,g1',g2',g3,rowBd,c1,e1];with_reducible rfl)) ?_|refine AnyP.A ?_)|(first|exact NextsP.E|refine NextsP.B (by simp only [seval,go_sem,l_7,l_6];rfl) ?_ ?_)|(with_reducible refine isDrawn ?_;refine Tri.drawnD mix (by kernel_rfl) (by simp only [l_3,l_4];rfl) ?_)))<;>(try (fail)))
      all_goals (try (refine isNext (k) (by (refine leQL_spec ?_);(try simp only [seval,go_sem,hsw]);done) (by (refine leQH_spec ?_);(try simp only [seval,go_sem,hsw]);done) ?_ ?_<;>(try (omega))))
      all_goals (try (exact hnext))
    | false=>
      rw [c1] at has
      simp only [Bool.false_eq_true,false_or,Bool.and_eq_true,decide_eq_true_eq] at has
      obtain ⟨c2,c3⟩:=has
      ((repeat' (first|(with_reducible (first|refine Tri.seq ?_|refine Tri.block ?_|refine Tri.skip ?_|refine TriD.nilP ?_|refine TriD.nil ?_|refine ListD.nil ?_|refine thenQ_n ?_|refine inBlockQ_n ?_|refine loopQ_n ?_|refine Tri.regionD (by simp only [l_3,l_4];rfl) ?_))|((with_reducible refine isTriD ?_);(with_reducible first|refine TriD.step (by simp only [seval,go_sem,g1',g2',g3,rowBd,c1,c2,e1];rfl) ?_|refine TriD.step (by simp (disch:=omega) only [seval,go_sem,cnd,intV,shV,convV,strV,g1',g2',g3,rowBd,c1,c2,e1];rfl) ?_))|((with_reducible refine isListD ?_);(with_reducible first|refine ListD.step (by simp only [seval,go_sem,g1',g2',g3,rowBd,c1,c2,e1];rfl) ?_|refine ListD.step (by simp (disch:=omega) only [seval,go_sem,cnd,intV,shV,convV,strV,g1',g2',g3,rowBd,c1,c2,e1];rfl) ?_))|(with_reducible refine isCond ?_;with_reducible refine Tri.cond (by simp only [seval,go_sem,g1',g2',g3,rowBd,c1,c2,e1];rfl) (cvI ?_) (cvI ?_))|(with_reducible refine isCv ?_;intro hc;(try simp only [bls,reduceCtorEq] at hc);(try (exfalso;omega)))|(with_reducible refine isDrawnN 5 ?_;refine Tri.mixedP 5 mix 18 rfl (.f 0 <| .f 1 <| .f 2 <| .f 3 <| .f 4 <| .f 5 <| .f 6 <| .f 7 <| .f 8 <| .f 10 <| .f 11 <| .f 12 <| .a <| .b 9 (.a <| .b 13 (.f 14 <| .a <| .b 15 (.f 16 <| .a <| .b 17 (.d) .e) .e) .e) <| .b 13 (.a <| .b 9 (.f 14 <| .a <| .b 15 (.f 16 <| .a <| .b 17 (.d) .e) .e) .e) .e) (by kernel_rfl) ?_)|(with_reducible refine isAnyP ?_;first|refine AnyP.D ?_|refine AnyP.F (by simp only [seval,go_sem,l_7,l_6];rfl) (by first|(simp only [seval,go_sem,g1',g2',g3,rowBd,c1,c2,e1];done)) (by first|(simp only [seval,go_sem,g1',g2',g3,rowBd,c1,c2,e1];with_reducible rfl)|(simp (disch:=omega) only [seval,go_sem,cnd,intV,shV,convV,strV,g1',g2',g3,rowBd,c1,c2,e1];with_reducible rfl)) ?_|refine AnyP.A ?_)|(first|exact NextsP.E|refine NextsP.B (by simp only [seval,go_sem,l_7,l_6];rfl) ?_ ?_)|(with_reducible refine isDrawn ?_;refine Tri.drawnD mix (by kernel_rfl) (by simp only [l_3,l_4];rfl) ?_)))<;>(try (fail)))
      all_goals (try (refine isNext (k) (by (refine leQL_spec ?_);(try simp only [seval,go_sem,hsw]);done) (by (refine leQH_spec ?_);(try simp only [seval,go_sem,hsw]);done) ?_ ?_<;>(try (omega))))
      all_goals (try (exact hnext))
end Go.Proofs.YtmgodadmafcliaaGreat
/- Directory: valid lists ascend; where a late binding has its place (plain). -/
set_option linter.unusedSimpArgs false
set_option linter.unusedVariables false
namespace Go.Proofs.YtmgodadmafcliaaGreat
open Go.RowKit Go.Avm
theorem badP_lt {a b:Bd} (h:badP a b=false):ltB a b=true∧(eqN b.name a.name=true→a.to≠0∧a.to≤b.frm):=by
 simp only [badP,ltN,eqN,Bool.or_eq_false_iff] at h
 obtain ⟨h1,h2⟩:=h
 cases c:(b.name.toList==a.name.toList) with
 | true=>
   rw [c,Bool.true_and] at h2
   simp only [Bool.or_eq_false_iff,decide_eq_false_iff_not,beq_eq_false_iff_ne,ne_eq] at h2
   rw [beq_iff_eq] at c
   refine ⟨?_,fun _=>by omega⟩
   simp only [ltB,ltN,eqN,c,Bool.or_eq_true,Bool.and_eq_true,decide_eq_true_eq,beq_self_eq_true,true_and]
   exact .inr (by omega)
 | false=>
   refine ⟨?_,fun h=>by simp [eqN,c] at h⟩
   rw [beq_eq_false_iff_ne] at c
   simp only [ltB,ltN,bl_of_not h1 (fun e=>c e.symm),Bool.true_or]
theorem valid1_lt: ∀ (l:List Bd) (p:Option Bd),valid1 p l=0→ltS l∧ ∀ a,p=some a→ ∀ x∈l,ltB a x=true
 | [],_,_=>⟨List.Pairwise.nil,fun _ _ _ h=>by cases h⟩
 | b::l,p,h=>by
   rw [valid1] at h
   by_cases h1:badB b=0
   ·rw [if_neg (by simp [h1])] at h
    split at h
    ·cases h
    ·rename_i h2
     obtain ⟨g1,g2⟩:=valid1_lt l (some b) h
     refine ⟨List.Pairwise.cons (fun x hx=>g2 b rfl x hx) g1,fun a e x hx=>?_⟩
     subst e
     have h3:=(badP_lt (by simpa using h2)).1
     rcases List.mem_cons.1 hx with rfl|hx
     ·exact h3
     ·exact ltB_trans h3 (g2 b rfl x hx)
   ·rw [if_pos h1] at h;exact absurd h h1
theorem validB_1 {l:List Bd} (h:validB l=0):valid1 none l=0:=by
 unfold validB at h
 split at h
 ·rename_i h1;exact absurd h h1
 ·rename_i h1;omega
theorem lateB_not {c:Int} {l:List Bd} (h:lateB c l=false): ∀ b∈l,b.frm≤c∧b.to≤c:=by
 intro b hb
 have:=List.any_eq_false.1 h b hb
 simp only [Bool.or_eq_true,decide_eq_true_eq,not_or] at this
 omega
/-- No binding of this name is open: one at a late commit has its place. -/
theorem add_side {l:List Bd} {n:ByteArray} {o c:Int} (hv: ∀ b∈l,badB b=0) (hl: ∀ b∈l,b.frm≤c∧b.to≤c) (hn: ∀ b∈l,b.name.toList=n.toList→b.to≠0): ∀ x∈l,ltB x ⟨n,o,c,0⟩=true∨ltB ⟨n,o,c,0⟩ x=true:=by
 intro x hx
 simp only [ltB,ltN,eqN,Bool.or_eq_true,Bool.and_eq_true,decide_eq_true_eq,beq_iff_eq]
 rcases bl_total x.name.toList n.toList with h|h|h
 ·exact .inl (.inl h)
 ·have:=(badB_ok (hv x hx)).2.2.2.2
  have:=hl x hx
  have:=hn x hx h
  exact .inl (.inr ⟨h,by omega⟩)
 ·exact .inr (.inl h)
theorem any_open {l:List Bd} {n:ByteArray} {o:Int} (h:l.any (fun b=>b.to==0&&(eqN b.name n||b.obj==o))=false): ∀ b∈l,b.name.toList=n.toList→b.to≠0:=by
 intro b hb hn h0
 have:=List.any_eq_false.1 h b hb
 simp [h0,eqN,hn] at this
end Go.Proofs.YtmgodadmafcliaaGreat
