/- The walks of the chain's and the reference's functions that look at a list of versions or copy it. -/
import Derived.Test.YtmgodadmafcliaaGreatZBase
set_option linter.unusedSimpArgs false
set_option linter.unusedVariables false
namespace Go.Proofs.YtmgodadmafcliaaGreat
open Go.RowKit Go.Avm
theorem prevV_succ {vs:List Ver} {k:Nat} {v:Ver} (h:vs[k]? = some v):prevV vs (k+1)=some v:=by simp [prevV,h]
theorem prevV_pos {vs:List Ver} {k:Nat} {u:Ver} (h:0<k) (hu:vs[k-1]? = some u):prevV vs k=some u:=by simp [prevV,hu];omega
set_option maxRecDepth 100000 in set_option maxHeartbeats 3200000 in
theorem rvalid_calls {vs:List Ver} (hl:vs.length≤100000):ACalls Tryz.prog 77 [.sl 4 (vs.map rowV)] (.sc (.int .i64 (validV none vs))) []:=by
 refine of_tri [] [4] Tryz.func77 rfl call77 rfl (by decide) (by decide) rfl rfl Tryz.ntmps77 (by simp (disch:=omega) only [seval,go_sem,cnd,intV,shV,convV,strV,List.replicate,l_2,l_1];rfl) (by simp (disch:=omega) only [seval,go_sem,cnd,intV,shV,convV,strV,l_2,l_1];rfl) ?_
 ((repeat' (first|(with_reducible (first|refine Tri.seq ?_|refine Tri.block ?_|refine TriD.nil ?_|refine thenQ_n ?_|refine Tri.regionD (by simp only [l_3,l_4];rfl) ?_))|((with_reducible refine isTriD ?_);(with_reducible refine TriD.step (by simp only [seval,go_sem];rfl) ?_))))<;>(try (fail)))
 (with_reducible refine Tri.loopU (fun (k:Nat)=>[(3,.sc (.int .i64 k)),(2,.any),(4,.any),(5,.any),(6,.any),(7,.any),(8,.any),(9,.any),(10,.any),(11,.any),(12,.any),(13,.any),(14,.any),(15,.any),(16,.any),(17,.any),(18,.any),(19,.any),(20,.any),(21,.any),(22,.any),(23,.any),(24,.any),(25,.any),(26,.any),(27,.any),(28,.any),(29,.any),(30,.any),(31,.any),(32,.any),(33,.any),(34,.any),(35,.any),(36,.any),(37,.any),(38,.any),(39,.any),(40,.any),(41,.any),(42,.any),(43,.any),(44,.any),(45,.any),(46,.any),(47,.any),(48,.any),(49,.any),(50,.any),(51,.any),(52,.any),(53,.any),(54,.any),(55,.any),(56,.any),(57,.any),(58,.any),(59,.any)]) (fun (k:Nat)=>[(4,.dead)]) (fun (k:Nat)=>k≤vs.length∧validV (prevV vs k) (vs.drop k)=validV none vs) (fun (k:Nat)=>vs.length-k) (0) (⟨Nat.zero_le _,rfl⟩) (by intro _;simp (disch:=omega) only [seval,go_sem,cnd,intV,shV,convV,strV];rfl) (by intro _;simp (disch:=omega) only [seval,go_sem,cnd,intV,shV,convV,strV];rfl) (by (refine leQL_spec ?_);(try simp only [seval,go_sem]);done) (by (refine leQH_spec ?_);(try simp only [seval,go_sem]);done) (fun k hI=>?_))
 obtain ⟨hk,hf⟩:=hI
 by_cases hlt:k<vs.length
 ·obtain ⟨v,hv⟩:=get_lt hlt
  have hv':=get_map rowV hv
  by_cases h0:k=0
  ·subst h0
   ((repeat' (first|(with_reducible (first|refine Tri.seq ?_|refine Tri.block ?_|refine Tri.skip ?_|refine Tri.ret ?_|refine TriD.nil ?_|refine ListD.nil ?_|refine thenQ_n ?_|refine thenQ_r ?_|refine inBlockQ_n ?_|refine inBlockQ_r ?_|refine loopQ_n ?_|refine loopQ_r ?_|refine Tri.regionD (by simp only [l_3,l_4];rfl) ?_))|((with_reducible refine isTriD ?_);(with_reducible first|refine TriD.step (by simp only [seval,go_sem,hv',rowV];rfl) ?_|refine TriD.step (by simp (disch:=omega) only [seval,go_sem,cnd,intV,shV,convV,strV,hv',rowV];rfl) ?_|refine TriD.byGuard (by simp only [seval,go_sem,hv',rowV];rfl) (by simp only [seval,go_sem,hv',rowV];rfl) (by (fail_if_success (with_reducible exact nlT));(fail_if_success (with_reducible exact nlF));exact nlI) (cvI ?_) (cvI ?_)))|((with_reducible refine isListD ?_);(with_reducible first|refine ListD.step (by simp only [seval,go_sem,hv',rowV];rfl) ?_|refine ListD.step (by simp (disch:=omega) only [seval,go_sem,cnd,intV,shV,convV,strV,hv',rowV];rfl) ?_))|(with_reducible refine isCond ?_;with_reducible refine Tri.cond (by simp only [seval,go_sem,hv',rowV];rfl) (cvI ?_) (cvI ?_))|(with_reducible refine isCv ?_;intro hc;(try simp only [bls,reduceCtorEq] at hc);(try (exfalso;omega)))|(with_reducible refine isDrawn ?_;refine Tri.drawnD mix (by kernel_rfl) (by simp only [l_3,l_4];rfl) ?_)|(with_reducible refine isRet ?_;refine RetOK.q rfl rfl (by simp only [seval,go_sem];rfl) (by decide) (by simp only [seval,go_sem];rfl) (by simp only [seval,go_sem];rfl) rfl ?_<;>(try simp only [seval,go_sem])<;>(repeat' (with_reducible apply And.intro))<;>(try rfl))))<;>(try (fail)))
   all_goals (try (refine isNext (1) ?_ ?_ ?_ ?_<;>(first|((first|refine leQL_spec ?_|refine leQH_spec ?_)<;>(try simp only [seval,go_sem])<;>(repeat' (with_reducible apply And.intro))<;>(try rfl))|skip)<;>(try (omega))))
   all_goals first|omega|(refine ⟨by omega,?_⟩;rw [← hf,drop_get hv,prevV_succ hv];simp [validV,prevV];omega)|(rw [← hf,drop_get hv];simp [validV,prevV];omega)
  ·obtain ⟨u,hu⟩:=get_lt (show k-1<vs.length by omega)
   have hu':=get_map rowV hu
   (all_goals (try have hZ:=(And.intro hv' hu'));(repeat' (first|(with_reducible (first|refine Tri.seq ?_|refine Tri.block ?_|refine Tri.skip ?_|refine Tri.ret ?_|refine TriD.nil ?_|refine ListD.nil ?_|refine thenQ_n ?_|refine thenQ_r ?_|refine inBlockQ_n ?_|refine inBlockQ_r ?_|refine loopQ_n ?_|refine loopQ_r ?_|refine Tri.regionD (by simp only [l_3,l_4];rfl) ?_))|((with_reducible refine isTriD ?_);(with_reducible first|refine TriD.step (by simp only [seval,go_sem,rowV,hZ];rfl) ?_|refine TriD.step (by simp (disch:=omega) only [seval,go_sem,cnd,intV,shV,convV,strV,rowV,hZ];rfl) ?_|refine TriD.byGuard (by simp only [seval,go_sem,rowV,hZ];rfl) (by simp only [seval,go_sem,rowV,hZ];rfl) (by (fail_if_success (with_reducible exact nlT));(fail_if_success (with_reducible exact nlF));exact nlI) (cvI ?_) (cvI ?_)))|((with_reducible refine isListD ?_);(with_reducible first|refine ListD.step (by simp only [seval,go_sem,rowV,hZ];rfl) ?_|refine ListD.step (by simp (disch:=omega) only [seval,go_sem,cnd,intV,shV,convV,strV,rowV,hZ];rfl) ?_|refine ListD.byGuard (by simp only [seval,go_sem,rowV,hZ];rfl) (by simp only [seval,go_sem,rowV,hZ];rfl) (by (fail_if_success (with_reducible exact nlT));(fail_if_success (with_reducible exact nlF));exact nlI) (cvI ?_) (cvI ?_)))|(with_reducible refine isCond ?_;with_reducible refine Tri.cond (by simp only [seval,go_sem,rowV,hZ];rfl) (cvI ?_) (cvI ?_))|(with_reducible refine isCv ?_;intro hc;(try simp only [bls,reduceCtorEq] at hc);(try (exfalso;omega)))|(with_reducible refine isDrawn ?_;refine Tri.drawnD mix (by kernel_rfl) (by simp only [l_3,l_4];rfl) ?_)|(with_reducible refine isRet ?_;refine RetOK.q rfl rfl (by simp only [seval,go_sem];rfl) (by decide) (by simp only [seval,go_sem];rfl) (by simp only [seval,go_sem];rfl) rfl ?_<;>(try simp only [seval,go_sem])<;>(repeat' (with_reducible apply And.intro))<;>(try rfl))))<;>(try (fail));all_goals (try clear hZ))
   all_goals (try (refine isNext (k+1) ?_ ?_ ?_ ?_<;>(first|((first|refine leQL_spec ?_|refine leQH_spec ?_)<;>(try simp only [seval,go_sem])<;>(repeat' (with_reducible apply And.intro))<;>(try rfl))|skip)<;>(try (omega))))
   all_goals first|(refine ⟨by omega,?_⟩;rw [← hf,drop_get hv,prevV_succ hv,prevV_pos (by omega) hu];simp [validV];omega)|(rw [← hf,drop_get hv,prevV_pos (by omega) hu];simp [validV];omega)
 ·((repeat' (first|(with_reducible (first|refine Tri.seq ?_|refine Tri.exit ?_|refine Tri.ret ?_|refine TriD.nil ?_|refine thenQ_n ?_|refine thenQ_e ?_|refine inBlockQ_e ?_|refine loopQ_e ?_|refine Tri.regionD (by simp only [l_3,l_4];rfl) ?_))|((with_reducible refine isTriD ?_);(with_reducible first|refine TriD.step (by simp only [seval,go_sem];rfl) ?_|refine TriD.step (by simp (disch:=omega) only [seval,go_sem,cnd,intV,shV,convV,strV];rfl) ?_))|(with_reducible refine isCond ?_;with_reducible refine Tri.cond (by simp only [seval,go_sem];rfl) (cvI ?_) (cvI ?_))|(with_reducible refine isCv ?_;intro hc;(try simp only [bls,reduceCtorEq] at hc);(try (exfalso;omega)))|(with_reducible refine isRet ?_;refine RetOK.q rfl rfl (by simp only [seval,go_sem];rfl) (by decide) (by simp only [seval,go_sem];rfl) (by simp only [seval,go_sem];rfl) rfl ?_<;>(try simp only [seval,go_sem])<;>(repeat' (with_reducible apply And.intro))<;>(try rfl))))<;>(try (fail)))
  all_goals (rw [← hf,List.drop_eq_nil_of_le (by omega)];simp [validV])
end Go.Proofs.YtmgodadmafcliaaGreat
/- The walks of the chain's and the reference's functions that copy and compare lists of versions. -/
set_option linter.unusedSimpArgs false
set_option linter.unusedVariables false
namespace Go.Proofs.YtmgodadmafcliaaGreat
open Go.RowKit Go.Avm
end Go.Proofs.YtmgodadmafcliaaGreat
/- The walks of Covers, of the program and of the reference. -/
set_option linter.unusedSimpArgs false
set_option linter.unusedVariables false
namespace Go.Proofs.YtmgodadmafcliaaGreat
open Go.RowKit Go.Avm
structure Pn where
 commit:Int
 count:Int
 deriving DecidableEq
def rowP (p:Pn):List D:=[.sc (.int .i64 p.commit), .sc (.int .i64 p.count)]
def coversP (f t:Int):List Pn→Bool
 | []=>false
 | p::l=>if f≤p.commit∧(p.commit<t∨t=0) then true else coversP f t l
set_option maxRecDepth 100000 in set_option maxHeartbeats 3200000 in
theorem covers_calls {l:List Pn} {f t:Int} (hl:l.length≤100000):ACalls Tryz.prog 63 [.sl 2 (l.map rowP), .sc (.int .i64 f), .sc (.int .i64 t)] (.sc (.bool (coversP f t l))) []:=by
 refine of_tri [] [8] Tryz.func63 rfl call63 rfl (by decide) (by decide) rfl rfl Tryz.ntmps63 (by simp (disch:=omega) only [seval,go_sem,cnd,intV,shV,convV,strV,List.replicate,l_2,l_1];rfl) (by simp (disch:=omega) only [seval,go_sem,cnd,intV,shV,convV,strV,l_2,l_1];rfl) ?_
 ((repeat' (first|(with_reducible (first|refine Tri.seq ?_|refine Tri.block ?_|refine TriD.nil ?_|refine thenQ_n ?_|refine Tri.regionD (by simp only [l_3,l_4];rfl) ?_))|((with_reducible refine isTriD ?_);(with_reducible refine TriD.step (by simp only [seval,go_sem];rfl) ?_))))<;>(try (fail)))
 (with_reducible refine Tri.loopU (fun (k:Nat)=>[(11,.sc (.int .i64 k)),(6,.any),(8,.any),(12,.any),(13,.any),(14,.any),(15,.any),(16,.any),(17,.any),(18,.any),(19,.any),(20,.any),(21,.any),(22,.any),(23,.any),(24,.any),(25,.any),(26,.any),(27,.any),(28,.any),(29,.any)]) (fun (k:Nat)=>[(8,.dead)]) (fun (k:Nat)=>k≤l.length∧coversP f t (l.drop k)=coversP f t l) (fun (k:Nat)=>l.length-k) (0) (⟨Nat.zero_le _,rfl⟩) (by intro _;simp (disch:=omega) only [seval,go_sem,cnd,intV,shV,convV,strV];rfl) (by intro _;simp (disch:=omega) only [seval,go_sem,cnd,intV,shV,convV,strV];rfl) (by (refine leQL_spec ?_);(try simp only [seval,go_sem]);done) (by (refine leQH_spec ?_);(try simp only [seval,go_sem]);done) (fun k hI=>?_))
 obtain ⟨hk,hf⟩:=hI
 by_cases hlt:k<l.length
 ·obtain ⟨v,hv⟩:=get_lt hlt
  have hv':=get_map rowP hv
  ((repeat' (first|(with_reducible (first|refine Tri.seq ?_|refine Tri.block ?_|refine Tri.skip ?_|refine Tri.ret ?_|refine TriD.nil ?_|refine thenQ_n ?_|refine thenQ_r ?_|refine inBlockQ_n ?_|refine inBlockQ_r ?_|refine loopQ_n ?_|refine loopQ_r ?_|refine Tri.regionD (by simp only [l_3,l_4];rfl) ?_))|((with_reducible refine isTriD ?_);(with_reducible first|refine TriD.step (by simp only [seval,go_sem,hv',rowP];rfl) ?_|refine TriD.step (by simp (disch:=omega) only [seval,go_sem,cnd,intV,shV,convV,strV,hv',rowP];rfl) ?_|refine TriD.byGuard (by simp only [seval,go_sem,hv',rowP];rfl) (by simp only [seval,go_sem,hv',rowP];rfl) (by (fail_if_success (with_reducible exact nlT));(fail_if_success (with_reducible exact nlF));exact nlI) (cvI ?_) (cvI ?_)))|(with_reducible refine isCond ?_;with_reducible refine Tri.cond (by simp only [seval,go_sem,hv',rowP];rfl) (cvI ?_) (cvI ?_))|(with_reducible refine isCv ?_;intro hc;(try simp only [bls,reduceCtorEq] at hc);(try (exfalso;omega)))|(with_reducible refine isRet ?_;refine RetOK.q rfl rfl (by simp only [seval,go_sem];rfl) (by decide) (by simp only [seval,go_sem];rfl) (by simp only [seval,go_sem];rfl) rfl ?_<;>(try simp only [seval,go_sem])<;>(repeat' (with_reducible apply And.intro))<;>(try rfl))))<;>(try (fail)))
  all_goals (try (refine isNext (k+1) ?_ ?_ ?_ ?_<;>(first|((first|refine leQL_spec ?_|refine leQH_spec ?_)<;>(try simp only [seval,go_sem])<;>(repeat' (with_reducible apply And.intro))<;>(try rfl))|skip)<;>(try (omega))))
  all_goals (try (refine ⟨by omega,?_⟩)) 
  all_goals (rw [← hf,drop_get hv];simp [coversP];omega)
 ·((repeat' (first|(with_reducible (first|refine Tri.seq ?_|refine Tri.exit ?_|refine Tri.ret ?_|refine TriD.nil ?_|refine thenQ_n ?_|refine thenQ_e ?_|refine inBlockQ_e ?_|refine loopQ_e ?_|refine Tri.regionD (by simp only [l_3,l_4];rfl) ?_))|((with_reducible refine isTriD ?_);(with_reducible first|refine TriD.step (by simp only [seval,go_sem];rfl) ?_|refine TriD.step (by simp (disch:=omega) only [seval,go_sem,cnd,intV,shV,convV,strV];rfl) ?_))|(with_reducible refine isCond ?_;with_reducible refine Tri.cond (by simp only [seval,go_sem];rfl) (cvI ?_) (cvI ?_))|(with_reducible refine isCv ?_;intro hc;(try simp only [bls,reduceCtorEq] at hc);(try (exfalso;omega)))|(with_reducible refine isRet ?_;refine RetOK.q rfl rfl (by simp only [seval,go_sem];rfl) (by decide) (by simp only [seval,go_sem];rfl) (by simp only [seval,go_sem];rfl) rfl ?_<;>(try simp only [seval,go_sem])<;>(repeat' (with_reducible apply And.intro))<;>(try rfl))))<;>(try (fail)))
  all_goals (rw [← hf,List.drop_eq_nil_of_le (by omega)];simp [coversP])
set_option maxRecDepth 100000 in set_option maxHeartbeats 3200000 in
theorem rcovers_calls {l:List Pn} {f t:Int} (hl:l.length≤100000):ACalls Tryz.prog 66 [.sl 2 (l.map rowP), .sc (.int .i64 f), .sc (.int .i64 t)] (.sc (.bool (coversP f t l))) []:=by
 refine of_tri [] [] Tryz.func66 rfl call66 rfl (by decide) (by decide) rfl rfl Tryz.ntmps66 (by simp (disch:=omega) only [seval,go_sem,cnd,intV,shV,convV,strV,List.replicate,l_2,l_1];rfl) (by simp (disch:=omega) only [seval,go_sem,cnd,intV,shV,convV,strV,l_2,l_1];rfl) ?_
 ((repeat' (first|(with_reducible (first|refine Tri.seq ?_|refine Tri.block ?_|refine TriD.nil ?_|refine thenQ_n ?_|refine Tri.regionD (by simp only [l_3,l_4];rfl) ?_))|((with_reducible refine isTriD ?_);(with_reducible refine TriD.step (by simp only [seval,go_sem];rfl) ?_))))<;>(try (fail)))
 (with_reducible refine Tri.loopU (fun (k:Nat)=>[(7,.sc (.int .i64 k)),(6,.any),(8,.any),(9,.any),(10,.any),(11,.any),(12,.any),(13,.any),(14,.any),(15,.any),(16,.any),(17,.any),(18,.any),(19,.any),(20,.any),(21,.any),(22,.any),(23,.any),(24,.any),(25,.any),(26,.any),(27,.any),(28,.any),(29,.any),(30,.any),(31,.any),(32,.any),(33,.any)]) (fun (k:Nat)=>[]) (fun (k:Nat)=>k≤l.length∧coversP f t (l.drop k)=coversP f t l) (fun (k:Nat)=>l.length-k) (0) (⟨Nat.zero_le _,rfl⟩) (by intro _;simp (disch:=omega) only [seval,go_sem,cnd,intV,shV,convV,strV];rfl) (by intro _;simp (disch:=omega) only [seval,go_sem,cnd,intV,shV,convV,strV];rfl) (by (refine leQL_spec ?_);(try simp only [seval,go_sem]);done) (by (refine leQH_spec ?_);(try simp only [seval,go_sem]);done) (fun k hI=>?_))
 obtain ⟨hk,hf⟩:=hI
 by_cases hlt:k<l.length
 ·obtain ⟨v,hv⟩:=get_lt hlt
  have hv':=get_map rowP hv
  ((repeat' (first|(with_reducible (first|refine Tri.seq ?_|refine Tri.block ?_|refine Tri.skip ?_|refine Tri.ret ?_|refine TriD.nil ?_|refine thenQ_n ?_|refine thenQ_r ?_|refine inBlockQ_n ?_|refine inBlockQ_r ?_|refine loopQ_n ?_|refine loopQ_r ?_|refine Tri.regionD (by simp only [l_3,l_4];rfl) ?_))|((with_reducible refine isTriD ?_);(with_reducible first|refine TriD.step (by simp only [seval,go_sem,hv',rowP];rfl) ?_|refine TriD.step (by simp (disch:=omega) only [seval,go_sem,cnd,intV,shV,convV,strV,hv',rowP];rfl) ?_|refine TriD.byGuard (by simp only [seval,go_sem,hv',rowP];rfl) (by simp only [seval,go_sem,hv',rowP];rfl) (by (fail_if_success (with_reducible exact nlT));(fail_if_success (with_reducible exact nlF));exact nlI) (cvI ?_) (cvI ?_)))|(with_reducible refine isCond ?_;with_reducible refine Tri.cond (by simp only [seval,go_sem,hv',rowP];rfl) (cvI ?_) (cvI ?_))|(with_reducible refine isCv ?_;intro hc;(try simp only [bls,reduceCtorEq] at hc);(try (exfalso;omega)))|(with_reducible refine isRet ?_;refine RetOK.q rfl rfl (by simp only [seval,go_sem];rfl) (by decide) (by simp only [seval,go_sem];rfl) (by simp only [seval,go_sem];rfl) rfl ?_<;>(try simp only [seval,go_sem])<;>(repeat' (with_reducible apply And.intro))<;>(try rfl))))<;>(try (fail)))
  all_goals (try (refine isNext (k+1) ?_ ?_ ?_ ?_<;>(first|((first|refine leQL_spec ?_|refine leQH_spec ?_)<;>(try simp only [seval,go_sem])<;>(repeat' (with_reducible apply And.intro))<;>(try rfl))|skip)<;>(try (omega))))
  all_goals (try (refine ⟨by omega,?_⟩)) 
  all_goals (rw [← hf,drop_get hv];simp [coversP];omega)
 ·((repeat' (first|(with_reducible (first|refine Tri.seq ?_|refine Tri.exit ?_|refine Tri.ret ?_|refine TriD.nil ?_|refine thenQ_n ?_|refine thenQ_e ?_|refine inBlockQ_e ?_|refine loopQ_e ?_|refine Tri.regionD (by simp only [l_3,l_4];rfl) ?_))|((with_reducible refine isTriD ?_);(with_reducible first|refine TriD.step (by simp only [seval,go_sem];rfl) ?_|refine TriD.step (by simp (disch:=omega) only [seval,go_sem,cnd,intV,shV,convV,strV];rfl) ?_))|(with_reducible refine isCond ?_;with_reducible refine Tri.cond (by simp only [seval,go_sem];rfl) (cvI ?_) (cvI ?_))|(with_reducible refine isCv ?_;intro hc;(try simp only [bls,reduceCtorEq] at hc);(try (exfalso;omega)))|(with_reducible refine isRet ?_;refine RetOK.q rfl rfl (by simp only [seval,go_sem];rfl) (by decide) (by simp only [seval,go_sem];rfl) (by simp only [seval,go_sem];rfl) rfl ?_<;>(try simp only [seval,go_sem])<;>(repeat' (with_reducible apply And.intro))<;>(try rfl))))<;>(try (fail)))
  all_goals (rw [← hf,List.drop_eq_nil_of_le (by omega)];simp [coversP])
end Go.Proofs.YtmgodadmafcliaaGreat
/- Pins: what Validate, Total and the reference's functions compute; their walks. -/
set_option linter.unusedSimpArgs false
set_option linter.unusedVariables false
namespace Go.Proofs.YtmgodadmafcliaaGreat
open Go.RowKit Go.Avm
def validP (prev:Option Pn):List Pn→Int
 | []=>0
 | p::l=>if p.commit<0∨p.count<1∨p.count>1024 then 5 else
    match prev with
    | some q=>if p.commit≤q.commit then 19 else validP (some p) l
    | none=>validP (some p) l
def prevP (l:List Pn) (k:Nat):Option Pn:=if k=0 then none else l[k-1]?
theorem prevP_succ {vs:List Pn} {k:Nat} {v:Pn} (h:vs[k]? = some v):prevP vs (k+1)=some v:=by simp [prevP,h]
theorem prevP_pos {vs:List Pn} {k:Nat} {u:Pn} (h:0<k) (hu:vs[k-1]? = some u):prevP vs k=some u:=by simp [prevP,hu];omega
def cap40 (n c:Int):Int:=min (n+min (max c 0) 1099511627776) 1099511627776
def totalP:List Pn→Int→Int
 | [],n=>n
 | p::l,n=>totalP l (cap40 n p.count)
set_option maxRecDepth 100000 in set_option maxHeartbeats 3200000 in
theorem rvalidp_calls {l:List Pn} (hl:l.length≤100000):ACalls Tryz.prog 80 [.sl 2 (l.map rowP)] (.sc (.int .i64 (validP none l))) []:=by
 refine of_tri [] [] Tryz.func80 rfl call80 rfl (by decide) (by decide) rfl rfl Tryz.ntmps80 (by simp (disch:=omega) only [seval,go_sem,cnd,intV,shV,convV,strV,List.replicate,l_2,l_1];rfl) (by simp (disch:=omega) only [seval,go_sem,cnd,intV,shV,convV,strV,l_2,l_1];rfl) ?_
 ((repeat' (first|(with_reducible (first|refine Tri.seq ?_|refine Tri.block ?_|refine TriD.nil ?_|refine thenQ_n ?_|refine Tri.regionD (by simp only [l_3,l_4];rfl) ?_))|((with_reducible refine isTriD ?_);(with_reducible refine TriD.step (by simp only [seval,go_sem];rfl) ?_))))<;>(try (fail)))
 (with_reducible refine Tri.loopU (fun (k:Nat)=>[(3,.sc (.int .i64 k)),(2,.any),(4,.any),(5,.any),(6,.any),(7,.any),(8,.any),(9,.any),(10,.any),(11,.any),(12,.any),(13,.any),(14,.any),(15,.any),(16,.any),(17,.any),(18,.any),(19,.any),(20,.any),(21,.any),(22,.any),(23,.any),(24,.any),(25,.any),(26,.any),(27,.any),(28,.any),(29,.any),(30,.any),(31,.any),(32,.any),(33,.any),(34,.any),(35,.any),(36,.any),(37,.any),(38,.any),(39,.any),(40,.any),(41,.any),(42,.any),(43,.any),(44,.any),(45,.any),(46,.any),(47,.any)]) (fun (k:Nat)=>[]) (fun (k:Nat)=>k≤l.length∧validP (prevP l k) (l.drop k)=validP none l) (fun (k:Nat)=>l.length-k) (0) (⟨Nat.zero_le _,rfl⟩) (by intro _;simp (disch:=omega) only [seval,go_sem,cnd,intV,shV,convV,strV];rfl) (by intro _;simp (disch:=omega) only [seval,go_sem,cnd,intV,shV,convV,strV];rfl) (by (refine leQL_spec ?_);(try simp only [seval,go_sem]);done) (by (refine leQH_spec ?_);(try simp only [seval,go_sem]);done) (fun k hI=>?_))
 obtain ⟨hk,hf⟩:=hI
 by_cases hlt:k<l.length
 ·obtain ⟨v,hv⟩:=get_lt hlt
  have hv':=get_map rowP hv
  by_cases h0:k=0
  ·subst h0
   ((repeat' (first|(with_reducible (first|refine Tri.seq ?_|refine Tri.block ?_|refine Tri.skip ?_|refine Tri.ret ?_|refine TriD.nil ?_|refine ListD.nil ?_|refine thenQ_n ?_|refine thenQ_r ?_|refine inBlockQ_n ?_|refine inBlockQ_r ?_|refine loopQ_n ?_|refine loopQ_r ?_|refine Tri.regionD (by simp only [l_3,l_4];rfl) ?_))|((with_reducible refine isTriD ?_);(with_reducible first|refine TriD.step (by simp only [seval,go_sem,hv',rowP];rfl) ?_|refine TriD.step (by simp (disch:=omega) only [seval,go_sem,cnd,intV,shV,convV,strV,hv',rowP];rfl) ?_|refine TriD.byGuard (by simp only [seval,go_sem,hv',rowP];rfl) (by simp only [seval,go_sem,hv',rowP];rfl) (by (fail_if_success (with_reducible exact nlT));(fail_if_success (with_reducible exact nlF));exact nlI) (cvI ?_) (cvI ?_)))|((with_reducible refine isListD ?_);(with_reducible first|refine ListD.step (by simp only [seval,go_sem,hv',rowP];rfl) ?_|refine ListD.step (by simp (disch:=omega) only [seval,go_sem,cnd,intV,shV,convV,strV,hv',rowP];rfl) ?_))|(with_reducible refine isCond ?_;with_reducible refine Tri.cond (by simp only [seval,go_sem,hv',rowP];rfl) (cvI ?_) (cvI ?_))|(with_reducible refine isCv ?_;intro hc;(try simp only [bls,reduceCtorEq] at hc);(try (exfalso;omega)))|(with_reducible refine isDrawn ?_;refine Tri.drawnD mix (by kernel_rfl) (by simp only [l_3,l_4];rfl) ?_)|(with_reducible refine isRet ?_;refine RetOK.q rfl rfl (by simp only [seval,go_sem];rfl) (by decide) (by simp only [seval,go_sem];rfl) (by simp only [seval,go_sem];rfl) rfl ?_<;>(try simp only [seval,go_sem])<;>(repeat' (with_reducible apply And.intro))<;>(try rfl))))<;>(try (fail)))
   all_goals (try (refine isNext (1) ?_ ?_ ?_ ?_<;>(first|((first|refine leQL_spec ?_|refine leQH_spec ?_)<;>(try simp only [seval,go_sem])<;>(repeat' (with_reducible apply And.intro))<;>(try rfl))|skip)<;>(try (omega))))
   all_goals first|omega|(refine ⟨by omega,?_⟩;rw [← hf,drop_get hv,prevP_succ hv];simp [validP,prevP];omega)|(rw [← hf,drop_get hv];simp [validP,prevP];omega)
  ·obtain ⟨u,hu⟩:=get_lt (show k-1<l.length by omega)
   have hu':=get_map rowP hu
   (all_goals (try have hZ:=(And.intro hv' hu'));(repeat' (first|(with_reducible (first|refine Tri.seq ?_|refine Tri.block ?_|refine Tri.skip ?_|refine Tri.ret ?_|refine TriD.nil ?_|refine ListD.nil ?_|refine thenQ_n ?_|refine thenQ_r ?_|refine inBlockQ_n ?_|refine inBlockQ_r ?_|refine loopQ_n ?_|refine loopQ_r ?_|refine Tri.regionD (by simp only [l_3,l_4];rfl) ?_))|((with_reducible refine isTriD ?_);(with_reducible first|refine TriD.step (by simp only [seval,go_sem,rowP,hZ];rfl) ?_|refine TriD.step (by simp (disch:=omega) only [seval,go_sem,cnd,intV,shV,convV,strV,rowP,hZ];rfl) ?_|refine TriD.byGuard (by simp only [seval,go_sem,rowP,hZ];rfl) (by simp only [seval,go_sem,rowP,hZ];rfl) (by (fail_if_success (with_reducible exact nlT));(fail_if_success (with_reducible exact nlF));exact nlI) (cvI ?_) (cvI ?_)))|((with_reducible refine isListD ?_);(with_reducible first|refine ListD.step (by simp only [seval,go_sem,rowP,hZ];rfl) ?_|refine ListD.step (by simp (disch:=omega) only [seval,go_sem,cnd,intV,shV,convV,strV,rowP,hZ];rfl) ?_))|(with_reducible refine isCond ?_;with_reducible refine Tri.cond (by simp only [seval,go_sem,rowP,hZ];rfl) (cvI ?_) (cvI ?_))|(with_reducible refine isCv ?_;intro hc;(try simp only [bls,reduceCtorEq] at hc);(try (exfalso;omega)))|(with_reducible refine isDrawn ?_;refine Tri.drawnD mix (by kernel_rfl) (by simp only [l_3,l_4];rfl) ?_)|(with_reducible refine isRet ?_;refine RetOK.q rfl rfl (by simp only [seval,go_sem];rfl) (by decide) (by simp only [seval,go_sem];rfl) (by simp only [seval,go_sem];rfl) rfl ?_<;>(try simp only [seval,go_sem])<;>(repeat' (with_reducible apply And.intro))<;>(try rfl))))<;>(try (fail));all_goals (try clear hZ))
   all_goals (try (refine isNext (k+1) ?_ ?_ ?_ ?_<;>(first|((first|refine leQL_spec ?_|refine leQH_spec ?_)<;>(try simp only [seval,go_sem])<;>(repeat' (with_reducible apply And.intro))<;>(try rfl))|skip)<;>(try (omega))))
   all_goals first|(refine ⟨by omega,?_⟩;rw [← hf,drop_get hv,prevP_succ hv,prevP_pos (by omega) hu];simp [validP];omega)|(rw [← hf,drop_get hv,prevP_pos (by omega) hu];simp [validP];omega)
 ·((repeat' (first|(with_reducible (first|refine Tri.seq ?_|refine Tri.exit ?_|refine Tri.ret ?_|refine TriD.nil ?_|refine thenQ_n ?_|refine thenQ_e ?_|refine inBlockQ_e ?_|refine loopQ_e ?_|refine Tri.regionD (by simp only [l_3,l_4];rfl) ?_))|((with_reducible refine isTriD ?_);(with_reducible first|refine TriD.step (by simp only [seval,go_sem];rfl) ?_|refine TriD.step (by simp (disch:=omega) only [seval,go_sem,cnd,intV,shV,convV,strV];rfl) ?_))|(with_reducible refine isCond ?_;with_reducible refine Tri.cond (by simp only [seval,go_sem];rfl) (cvI ?_) (cvI ?_))|(with_reducible refine isCv ?_;intro hc;(try simp only [bls,reduceCtorEq] at hc);(try (exfalso;omega)))|(with_reducible refine isRet ?_;refine RetOK.q rfl rfl (by simp only [seval,go_sem];rfl) (by decide) (by simp only [seval,go_sem];rfl) (by simp only [seval,go_sem];rfl) rfl ?_<;>(try simp only [seval,go_sem])<;>(repeat' (with_reducible apply And.intro))<;>(try rfl))))<;>(try (fail)))
  all_goals (rw [← hf,List.drop_eq_nil_of_le (by omega)];simp [validP])
set_option maxRecDepth 100000 in set_option maxHeartbeats 3200000 in
theorem natural_calls {a:Int}:ACalls Tryz.prog 94 [.sc (.int .i64 a)] (.sc (.int .i64 (max a 0))) []:=by
 refine of_tri [] [] Tryz.func94 rfl call94 rfl (by decide) (by decide) rfl rfl Tryz.ntmps94 (by simp (disch:=omega) only [seval,go_sem,cnd,intV,shV,convV,strV,List.replicate,l_2,l_1];rfl) (by simp (disch:=omega) only [seval,go_sem,cnd,intV,shV,convV,strV,l_2,l_1];rfl) ?_
 ((repeat' (first|(with_reducible (first|refine Tri.seq ?_|refine Tri.ret ?_|refine TriD.nil ?_|refine thenQ_n ?_|refine Tri.regionD (by simp only [l_3,l_4];rfl) ?_))|((with_reducible refine isTriD ?_);(with_reducible refine TriD.step (by simp only [seval,go_sem];rfl) ?_))|(with_reducible refine isRet ?_;refine RetOK.q rfl rfl (by simp only [seval,go_sem];rfl) (by decide) (by simp only [seval,go_sem];rfl) (by simp only [seval,go_sem];rfl) rfl ?_<;>(try simp only [seval,go_sem])<;>(repeat' (with_reducible apply And.intro))<;>(try rfl))))<;>(try (fail)))
 all_goals omega
def addSat (a b m:Int):Int×Bool:=if max a 0>max m 0∨max b 0>max m 0-max a 0 then (max m 0,true) else (max a 0+max b 0,false)
set_option maxRecDepth 100000 in set_option maxHeartbeats 3200000 in
theorem radd_calls {a b m:Int} (hm:m≤4611686018427387904):ACalls Tryz.prog 79 [.sc (.int .i64 a), .sc (.int .i64 b), .sc (.int .i64 m)] (.tup [.sc (.int .i64 (addSat a b m).1), .sc (.bool (addSat a b m).2)]) []:=by
 refine of_tri [] [9,11,13] Tryz.func79 rfl call79 rfl (by decide) (by decide) rfl rfl Tryz.ntmps79 (by simp (disch:=omega) only [seval,go_sem,cnd,intV,shV,convV,strV,List.replicate,l_2,l_1];rfl) (by simp (disch:=omega) only [seval,go_sem,cnd,intV,shV,convV,strV,l_2,l_1];rfl) ?_
 ((repeat' (first|(with_reducible (first|refine Tri.seq ?_|refine Tri.skip ?_|refine Tri.ret ?_|refine TriD.nil ?_|refine thenQ_n ?_|refine thenQ_r ?_|refine Tri.regionD (by simp only [l_3,l_4];rfl) ?_))|((with_reducible refine isTriD ?_);first|(with_reducible refine TriD.step (by simp only [seval,go_sem];rfl) ?_)|((with_reducible refine isCallD ?_);((with_reducible (refine TriD.dE (by simp only [seval,go_sem];rfl) (by simp only [seval,go_sem];rfl) ?_));refine CallK.c [] (natural_calls) (by simp only [seval,go_sem];rfl) ?_))|(with_reducible first|refine TriD.step (by simp (disch:=omega) only [seval,go_sem,cnd,intV,shV,convV,strV];rfl) ?_|refine TriD.byGuard (by simp only [seval,go_sem];rfl) (by simp only [seval,go_sem];rfl) (by (fail_if_success (with_reducible exact nlT));(fail_if_success (with_reducible exact nlF));exact nlI) (cvI ?_) (cvI ?_)))|(with_reducible refine isCond ?_;with_reducible refine Tri.cond (by simp only [seval,go_sem];rfl) (cvI ?_) (cvI ?_))|(with_reducible refine isCv ?_;intro hc;(try simp only [bls,reduceCtorEq] at hc);(try (exfalso;omega)))|(with_reducible refine isRet ?_;refine RetOK.q rfl rfl (by simp only [seval,go_sem];rfl) (by decide) (by simp only [seval,go_sem];rfl) (by simp only [seval,go_sem];rfl) rfl ?_<;>(try simp only [seval,go_sem])<;>(repeat' (with_reducible apply And.intro))<;>(try rfl))))<;>(try (fail)))
 all_goals (simp only [addSat];split<;>(first|rfl|omega))
set_option maxRecDepth 100000 in set_option maxHeartbeats 3200000 in
theorem rtotal_calls {l:List Pn} (hl:l.length≤100000):ACalls Tryz.prog 55 [.sl 2 (l.map rowP)] (.sc (.int .i64 (totalP l 0))) []:=by
 refine of_tri [] [18] Tryz.func55 rfl call55 rfl (by decide) (by decide) rfl rfl Tryz.ntmps55 (by simp (disch:=omega) only [seval,go_sem,cnd,intV,shV,convV,strV,List.replicate,l_2,l_1];rfl) (by simp (disch:=omega) only [seval,go_sem,cnd,intV,shV,convV,strV,l_2,l_1];rfl) ?_
 ((repeat' (first|(with_reducible (first|refine Tri.seq ?_|refine Tri.block ?_|refine TriD.nil ?_|refine thenQ_n ?_|refine Tri.regionD (by simp only [l_3,l_4];rfl) ?_))|((with_reducible refine isTriD ?_);(with_reducible refine TriD.step (by simp only [seval,go_sem];rfl) ?_))))<;>(try (fail)))
 (with_reducible refine Tri.loopU (fun (t:Nat×Int)=>[(4,.sc (.int .i64 t.1)),(3,.sc (.int .i64 t.2)),(5,.any),(6,.any),(7,.any),(8,.any),(9,.any),(10,.any),(11,.any),(12,.any),(13,.any),(14,.any),(15,.any),(16,.any),(17,.any),(18,.any),(19,.any),(20,.any)]) (fun (t:Nat×Int)=>[(18,.dead)]) (fun (t:Nat×Int)=>t.1≤l.length∧0≤t.2∧t.2≤1099511627776∧totalP (l.drop t.1) t.2=totalP l 0) (fun (t:Nat×Int)=>l.length-t.1) ((0,0)) (⟨Nat.zero_le _,by simp,by simp,rfl⟩) (by intro _;simp (disch:=omega) only [seval,go_sem,cnd,intV,shV,convV,strV];rfl) (by intro _;simp (disch:=omega) only [seval,go_sem,cnd,intV,shV,convV,strV];rfl) (by (refine leQL_spec ?_);(try simp only [seval,go_sem]);done) (by (refine leQH_spec ?_);(try simp only [seval,go_sem]);done) (fun t hI=>?_))
 obtain ⟨k,n⟩:=t
 obtain ⟨hk,hn0,hn1,hf⟩:=hI
 simp only at hk hn0 hn1 hf
 by_cases hlt:k<l.length
 ·obtain ⟨v,hv⟩:=get_lt hlt
  have hv':=get_map rowP hv
  have he:(addSat n v.count 1099511627776).1=cap40 n v.count:=by
   simp only [addSat,cap40];split<;>omega
  ((repeat' (first|(with_reducible (first|refine Tri.seq ?_|refine Tri.block ?_|refine Tri.skip ?_|refine TriD.nil ?_|refine thenQ_n ?_|refine inBlockQ_n ?_|refine loopQ_n ?_|refine Tri.regionD (by simp only [l_3,l_4];rfl) ?_))|((with_reducible refine isTriD ?_);first|(with_reducible refine TriD.step (by simp only [seval,go_sem,hv',rowP];rfl) ?_)|((with_reducible refine isCallD ?_);((with_reducible (refine TriD.dE (by simp only [seval,go_sem,hv',rowP];rfl) (by simp only [seval,go_sem,hv',rowP];rfl) ?_));refine CallK.c [] (radd_calls ?_) (by simp only [seval,go_sem,hv',rowP];rfl) ?_))|(with_reducible refine TriD.step (by simp (disch:=omega) only [seval,go_sem,cnd,intV,shV,convV,strV,hv',rowP];rfl) ?_))|(with_reducible refine isCond ?_;with_reducible refine Tri.cond (by simp only [seval,go_sem,hv',rowP];rfl) (cvI ?_) (cvI ?_))|(with_reducible refine isCv ?_;intro hc;(try simp only [bls,reduceCtorEq] at hc);(try (exfalso;omega)))))<;>(try (((with_reducible show (_:Int)≤_);omega))))
  all_goals (try omega)
  all_goals (refine isNext ((k+1,cap40 n v.count)) (by (refine leQL_spec ?_);(try simp only [seval,go_sem,he]);first|((repeat' (with_reducible apply And.intro))<;>first|rfl);done) (by (refine leQH_spec ?_);(try simp only [seval,go_sem,he]);done) ?_ ?_<;>(try (omega)))
  all_goals (refine ⟨by simp only;omega,by simp only [cap40];omega,by simp only [cap40];omega,?_⟩;simp only;rw [← hf,drop_get hv];simp [totalP])
 ·((repeat' (first|(with_reducible (first|refine Tri.seq ?_|refine Tri.exit ?_|refine Tri.ret ?_|refine TriD.nil ?_|refine thenQ_n ?_|refine thenQ_e ?_|refine inBlockQ_e ?_|refine loopQ_e ?_|refine Tri.regionD (by simp only [l_3,l_4];rfl) ?_))|((with_reducible refine isTriD ?_);(with_reducible first|refine TriD.step (by simp only [seval,go_sem];rfl) ?_|refine TriD.step (by simp (disch:=omega) only [seval,go_sem,cnd,intV,shV,convV,strV];rfl) ?_))|(with_reducible refine isCond ?_;with_reducible refine Tri.cond (by simp only [seval,go_sem];rfl) (cvI ?_) (cvI ?_))|(with_reducible refine isCv ?_;intro hc;(try simp only [bls,reduceCtorEq] at hc);(try (exfalso;omega)))|(with_reducible refine isRet ?_;refine RetOK.q rfl rfl (by simp only [seval,go_sem];rfl) (by decide) (by simp only [seval,go_sem];rfl) (by simp only [seval,go_sem];rfl) rfl ?_<;>(try simp only [seval,go_sem])<;>(repeat' (with_reducible apply And.intro))<;>(try rfl))))<;>(try (fail)))
  all_goals (rw [← hf,List.drop_eq_nil_of_le (by omega)];simp [totalP])
end Go.Proofs.YtmgodadmafcliaaGreat
/- Pins: the place of a commit; what Add and Remove make of a valid list (plain lemmas). -/
set_option linter.unusedSimpArgs false
set_option linter.unusedVariables false
namespace Go.Proofs.YtmgodadmafcliaaGreat
open Go.RowKit Go.Avm
structure OkP (l:List Pn):Prop where
 range: ∀ p∈l,0≤p.commit∧1≤p.count∧p.count≤1024
 asc:l.Pairwise (fun a b=>a.commit<b.commit)
theorem validP_ok: ∀ (l:List Pn) (prev:Option Pn),validP prev l=0→OkP l∧ ∀ q,prev=some q→ ∀ p∈l,q.commit<p.commit
 | [],_,_=>⟨⟨by simp,List.Pairwise.nil⟩,by simp⟩
 | v::l,prev,h=>by
   unfold validP at h
   split at h
   ·omega
   ·rename_i hr
    have key:validP (some v) l=0∧ ∀ q,prev=some q→q.commit<v.commit:=by
     cases prev with
     | none=>exact ⟨by simpa using h,by simp⟩
     | some q=>
       simp only at h
       split at h
       ·omega
       ·exact ⟨h,fun q' e=>by cases e;omega⟩
    obtain ⟨hl,hq⟩:=validP_ok l (some v) key.1
    refine ⟨⟨fun p hp=>?_,List.Pairwise.cons (fun p hp=>hq v rfl p hp) hl.asc⟩,fun q e p hp=>?_⟩
    ·rcases List.mem_cons.1 hp with rfl|hp
     ·omega
     ·exact hl.range p hp
    ·have h1:=key.2 q e
     rcases List.mem_cons.1 hp with rfl|hp
     ·exact h1
     ·exact Int.lt_trans h1 (hq v rfl p hp)
theorem validP_ok' {l:List Pn} (h:validP none l=0):OkP l:=(validP_ok l none h).1
theorem OkP.tail {p:Pn} {l:List Pn} (h:OkP (p::l)):OkP l∧ ∀ q∈l,p.commit<q.commit:=by
 have:=h.asc
 rw [List.pairwise_cons] at this
 exact ⟨⟨fun q hq=>h.range q (List.mem_cons_of_mem _ hq),this.2⟩,this.1⟩
def placeP (c:Int):List Pn→Nat
 | []=>0
 | p::l=>if p.commit<c then placeP c l+1 else 0
def insGo (c:Int):List Pn→List Pn
 | []=>[⟨c,1⟩]
 | p::l=>if c<p.commit then ⟨c,1⟩::p::l else if p.commit=c then ⟨p.commit,p.count+1⟩::l else p::insGo c l
def fullP (c:Int):List Pn→Bool
 | []=>false
 | p::l=>if p.commit=c∧p.count=1024 then true else fullP c l
def addP (l:List Pn) (c:Int):List Pn×Int:=
 if validP none l≠0 then ([],validP none l) else if c<0 then ([],5) else if fullP c l then ([],14) else (insGo c l,0)
def hasP (c:Int):List Pn→Bool
 | []=>false
 | p::l=>if p.commit=c then true else hasP c l
def delGo (c:Int):List Pn→List Pn
 | []=>[]
 | p::l=>if p.commit=c then (if p.count-1>0 then ⟨p.commit,p.count-1⟩::delGo c l else delGo c l) else if p.count>0 then p::delGo c l else delGo c l
def remP (l:List Pn) (c:Int):List Pn×Int:=
 if validP none l≠0 then ([],validP none l) else if hasP c l then (delGo c l,0) else ([],8)
theorem insGo_len (c:Int): ∀ l:List Pn,(insGo c l).length≤l.length+1
 | []=>by simp [insGo]
 | p::l=>by
   unfold insGo
   have:=insGo_len c l
   split
   ·simp
   ·split<;>simp<;>omega
theorem delGo_len (c:Int): ∀ l:List Pn,(delGo c l).length≤l.length
 | []=>by simp [delGo]
 | p::l=>by
   unfold delGo
   have:=delGo_len c l
   split
   ·split<;>simp<;>omega
   ·split<;>simp<;>omega
theorem addP_len {l:List Pn} {c:Int} {n:Nat} (h:l.length≤n):(addP l c).1.length≤n+1:=by
 have:=insGo_len c l
 unfold addP;split
 ·simp
 ·split
  ·simp
  ·split
   ·simp
   ·simp only;omega
theorem remP_len {l:List Pn} {c:Int} {n:Nat} (h:l.length≤n):(remP l c).1.length≤n:=by
 have:=delGo_len c l
 unfold remP;split
 ·simp
 ·split
  ·simp only;omega
  ·simp
end Go.Proofs.YtmgodadmafcliaaGreat
/- The order of strings as lists of bytes is a strict total order (plain lemmas). -/
set_option linter.unusedSimpArgs false
set_option linter.unusedVariables false
namespace Go.Proofs.YtmgodadmafcliaaGreat
open Go.RowKit Go.Avm
theorem bl_irrefl: ∀ x:List UInt8,Op.bytesLess x x=false
 | []=>rfl
 | a::x=>by
   have h: ¬ a<a:=by rw [UInt8.lt_iff_toNat_lt];omega
   simp [Op.bytesLess,h,bl_irrefl x]
theorem bl_trans: ∀ {x y z:List UInt8},Op.bytesLess x y=true→Op.bytesLess y z=true→Op.bytesLess x z=true
 | _,[],_,h,_=>by cases ‹List UInt8›<;>simp [Op.bytesLess] at h
 | _,_::_,[],_,h=>by simp [Op.bytesLess] at h
 | [],_::_,_::_,_,_=>rfl
 | a::x,b::y,c::z,h,g=>by
   simp only [Op.bytesLess,Bool.or_eq_true,Bool.and_eq_true,decide_eq_true_eq,beq_iff_eq] at h g ⊢
   rcases h with h|⟨h,h'⟩
   ·rcases g with g|⟨g,g'⟩
    ·left;rw [UInt8.lt_iff_toNat_lt] at h g ⊢;omega
    ·subst g;exact Or.inl h
   ·subst h
    rcases g with g|⟨g,g'⟩
    ·exact Or.inl g
    ·exact Or.inr ⟨g,bl_trans h' g'⟩
theorem bl_total: ∀ x y:List UInt8,Op.bytesLess x y=true∨x=y∨Op.bytesLess y x=true
 | [],[]=>Or.inr (Or.inl rfl)
 | [],_::_=>Or.inl rfl
 | _::_,[]=>Or.inr (Or.inr rfl)
 | a::x,b::y=>by
   simp only [Op.bytesLess,Bool.or_eq_true,Bool.and_eq_true,decide_eq_true_eq,beq_iff_eq,List.cons.injEq]
   rcases Nat.lt_trichotomy a.toNat b.toNat with h|h|h
   ·exact Or.inl (Or.inl (UInt8.lt_iff_toNat_lt.2 h))
   ·have e:a=b:=UInt8.toNat_inj.1 h
    subst e
    rcases bl_total x y with h|h|h
    ·exact Or.inl (Or.inr ⟨rfl,h⟩)
    ·exact Or.inr (Or.inl ⟨rfl,h⟩)
    ·exact Or.inr (Or.inr (Or.inr ⟨rfl,h⟩))
   ·exact Or.inr (Or.inr (Or.inl (UInt8.lt_iff_toNat_lt.2 h)))
theorem bl_asymm {x y:List UInt8} (h:Op.bytesLess x y=true):Op.bytesLess y x=false:=by
 cases hh:Op.bytesLess y x with
 | false=>rfl
 | true=>have:=bl_trans h hh;rw [bl_irrefl] at this;cases this
theorem bl_ne {x y:List UInt8} (h:Op.bytesLess x y=true):x≠y:=fun e=>by subst e;rw [bl_irrefl] at h;cases h
/-- Not greater and not equal is less. -/
theorem bl_of_not {x y:List UInt8} (h:Op.bytesLess y x=false) (hn:x≠y):Op.bytesLess x y=true:=by
 rcases bl_total x y with h'|h'|h'
 ·exact h'
 ·exact absurd h' hn
 ·rw [h] at h';cases h'
end Go.Proofs.YtmgodadmafcliaaGreat
/- Directory: what its functions compute (plain). -/
set_option linter.unusedSimpArgs false
set_option linter.unusedVariables false
namespace Go.Proofs.YtmgodadmafcliaaGreat
open Go.RowKit Go.Avm
structure Bd where
 name:ByteArray
 obj:Int
 frm:Int
 to:Int
 deriving DecidableEq
def rowBd (b:Bd):List D:=[.sc (.string b.name), .sc (.int .i64 b.obj), .sc (.int .i64 b.frm), .sc (.int .i64 b.to)]
def bytesS (s:ByteArray):List Int:=s.data.toList.map fun b=>(b.toNat:Int)
theorem bytesS_len (s:ByteArray):(bytesS s).length=s.size:=by
 rw [bytesS,List.length_map,Array.length_toList];rfl
def lowC (c:Int):Bool:=decide (97≤c)&&decide (c≤122)
def digC (c:Int):Bool:=decide (48≤c)&&decide (c≤57)
def chrOk (c:Int):Bool:=lowC c||digC c||c==45||c==46
def nameOk (s:ByteArray):Bool:=decide (1≤(s.size:Int))&&decide ((s.size:Int)≤16)&&((bytesS s)[0]?).any lowC&&(bytesS s).all chrOk
def holdsB (f t c:Int):Bool:=decide (f≤c)&&(decide (c<t)||t==0)
def eqN (x y:ByteArray):Bool:=x.toList==y.toList
def ltN (x y:ByteArray):Bool:=Op.bytesLess x.toList y.toList
def badB (b:Bd):Int:=if nameOk b.name=false then 6 else if b.obj<1∨b.frm<1∨b.to<0 then 5 else if b.to≠0∧b.to≤b.frm then 19 else 0
def badP (a b:Bd):Bool:=ltN b.name a.name||(eqN b.name a.name&&(decide (b.frm≤a.frm)||a.to==0||decide (b.frm<a.to)))
def valid1 (prev:Option Bd):List Bd→Int
 | []=>0
 | b::l=>if badB b≠0 then badB b else if prev.any (fun a=>badP a b)=true then 19 else valid1 (some b) l
def ovB (a b:Bd):Bool:=(a.to==0||decide (b.frm<a.to))&&(b.to==0||decide (a.frm<b.to))
def dupB (l:List Bd):List Bd→Nat→Bool
 | [],_=>false
 | b::m,i=>(l.take i).any (fun a=>a.obj==b.obj&&ovB a b)||dupB l m (i+1)
def validB (l:List Bd):Int:=if valid1 none l≠0 then valid1 none l else if dupB l l 0=true then 9 else 0
def lateB (c:Int) (l:List Bd):Bool:=l.any fun b=>decide (c<b.frm)||decide (c<b.to)
def openP (n:ByteArray) (b:Bd):Bool:=eqN b.name n&&b.to==0
def idxB (p:Bd→Bool):List Bd→Nat→Int
 | [],_=> -1
 | b::l,i=>if p b=true then (i:Int) else idxB p l (i+1)
def openB (n:ByteArray) (l:List Bd):Int:=idxB (openP n) l 0
def ltB (x b:Bd):Bool:=ltN x.name b.name||(eqN x.name b.name&&decide (x.frm<b.frm))
def placeB (b:Bd):List Bd→Nat
 | []=>0
 | x::l=>if ltB x b=true then placeB b l+1 else 0
def addB (b:Bd) (l:List Bd):List Bd:=l.take (placeB b l)++[b]++l.drop (placeB b l)
def bindB (l:List Bd) (n:ByteArray) (o c:Int):List Bd×Int:=
 if validB l≠0 then ([],validB l) else if nameOk n=false then ([],6) else if o<1∨c<1 then ([],5) else if lateB c l=true then ([],19) else
 if l.any (fun b=>b.to==0&&(eqN b.name n||b.obj==o))=true then ([],9) else (addB ⟨n,o,c,0⟩ l,0)
def bdAt (l:List Bd) (i:Int):Bd:=(l[i.toNat]?).getD ⟨.empty,0,0,0⟩
def endB (l:List Bd) (i c:Int):List Bd:=l.set i.toNat ⟨(bdAt l i).name,(bdAt l i).obj,(bdAt l i).frm,c⟩
def unbindB (l:List Bd) (n:ByteArray) (c:Int):List Bd×Int:=
 if validB l≠0 then ([],validB l) else if nameOk n=false then ([],6) else if c<1 then ([],5) else if lateB c l=true then ([],19) else
 if openB n l<0 then ([],8) else if c≤(bdAt l (openB n l)).frm then ([],19) else (endB l (openB n l) c,0)
def renameB (l:List Bd) (n m:ByteArray) (c:Int):List Bd×Int:=
 if validB l≠0 then ([],validB l) else if nameOk n=false∨nameOk m=false then ([],6) else if c<1 then ([],5) else if lateB c l=true then ([],19) else
 if openB n l<0 then ([],8) else if 0≤openB m l then ([],9) else if c≤(bdAt l (openB n l)).frm then ([],19) else (addB ⟨m,(bdAt l (openB n l)).obj,c,0⟩ (endB l (openB n l) c),0)
def lookB (n:ByteArray) (c:Int):List Bd→Int×Bool
 | []=>(0,false)
 | b::l=>if (eqN b.name n&&holdsB b.frm b.to c)=true then (b.obj,true) else lookB n c l
end Go.Proofs.YtmgodadmafcliaaGreat
