/- The walks of Covers, of the program and of the reference. -/
import Derived.Test.YtmgodadmafcliaaRBase
set_option linter.unusedSimpArgs false
set_option linter.unusedVariables false
namespace Go.Proofs.Ytmgodadmafcliaa
open Go.RowKit Go.Avm
structure Pn where
 commit:Int
 count:Int
 deriving DecidableEq
def rowP (p:Pn):List D:=[.sc (.int .i64 p.commit), .sc (.int .i64 p.count)]
def coversP (f t:Int):List Pn→Bool
 | []=>false
 | p::l=>if f≤p.commit∧(p.commit<t∨t=0) then true else coversP f t l
-- CON sketchstore/pins.Covers | covers_calls ?_ | 0
-- CON sketchstore/sketchstoreref14.Covers | rcovers_calls ?_ | 0
set_option maxRecDepth 100000 in set_option maxHeartbeats 3200000 in
theorem covers_calls {l:List Pn} {f t:Int} (hl:l.length≤100000):ACalls Try.prog 95 [.sl 2 (l.map rowP), .sc (.int .i64 f), .sc (.int .i64 t)] (.sc (.bool (coversP f t l))) []:=by
 refine of_tri [] [8] Try.func95 rfl call95 rfl (by decide) (by decide) rfl rfl Try.ntmps95 (by simp (disch:=omega) only [seval,go_sem,cnd,intV,shV,convV,strV,List.replicate,l_2,l_1];rfl) (by simp (disch:=omega) only [seval,go_sem,cnd,intV,shV,convV,strV,l_2,l_1];rfl) ?_
 ((repeat' (first|(with_reducible (first|refine Tri.seq ?_|refine Tri.block ?_|refine TriD.nil ?_|refine thenQ_n ?_|refine Tri.regionD (by simp only [l_3,l_4];rfl) ?_))|((with_reducible refine isTriD ?_);(with_reducible refine TriD.step (by simp only [seval,go_sem];rfl) ?_))))<;>(try (fail)))
 (with_reducible refine Tri.loopU (fun (k:Nat)=>[(11, .sc (.int .i64 k)),(6, .any),(8, .any),(12, .any),(13, .any),(14, .any),(15, .any),(16, .any),(17, .any),(18, .any),(19, .any),(20, .any),(21, .any),(22, .any),(23, .any),(24, .any),(25, .any),(26, .any),(27, .any),(28, .any),(29, .any)]) (fun (k:Nat)=>[(8, .dead)]) (fun (k:Nat)=>k≤l.length∧coversP f t (l.drop k)=coversP f t l) (fun (k:Nat)=>l.length-k) (0) (⟨Nat.zero_le _,rfl⟩) (by intro _;simp (disch:=omega) only [seval,go_sem,cnd,intV,shV,convV,strV];rfl) (by intro _;simp (disch:=omega) only [seval,go_sem,cnd,intV,shV,convV,strV];rfl) (by (refine leQL_spec ?_);(try simp only [seval,go_sem]);done) (by (refine leQH_spec ?_);(try simp only [seval,go_sem]);done) (fun k hI=>?_))
 obtain ⟨hk,hf⟩:=hI
 by_cases hlt:k<l.length
 ·obtain ⟨v,hv⟩:=get_lt hlt
  have hv':=get_map rowP hv
  ((repeat' (first|(with_reducible (first|refine Tri.seq ?_|refine Tri.block ?_|refine Tri.skip ?_|refine Tri.ret ?_|refine TriD.nil ?_|refine thenQ_n ?_|refine thenQ_r ?_|refine inBlockQ_n ?_|refine inBlockQ_r ?_|refine loopQ_n ?_|refine loopQ_r ?_|refine Tri.regionD (by simp only [l_3,l_4];rfl) ?_))|((with_reducible refine isTriD ?_);first|(with_reducible refine TriD.step (by simp only [seval,go_sem,hv',rowP];rfl) ?_)|(with_reducible refine TriD.step (by simp (disch:=omega) only [seval,go_sem,cnd,intV,shV,convV,strV,hv',rowP];rfl) ?_)|(with_reducible refine TriD.byGuard (by simp only [seval,go_sem,hv',rowP];rfl) (by simp only [seval,go_sem,hv',rowP];rfl) (by (fail_if_success (with_reducible exact nlT));(fail_if_success (with_reducible exact nlF));exact nlI) (cvI ?_) (cvI ?_)))|(with_reducible refine isCond ?_;with_reducible refine Tri.cond (by simp only [seval,go_sem,hv',rowP];rfl) (cvI ?_) (cvI ?_))|(with_reducible refine isCv ?_;intro hc;(try simp only [bls,reduceCtorEq] at hc);(try (exfalso;omega)))|(with_reducible refine isRet ?_;refine RetOK.q rfl rfl (by simp only [seval,go_sem];rfl) (by decide) (by simp only [seval,go_sem];rfl) (by simp only [seval,go_sem];rfl) rfl ?_<;>(try simp only [seval,go_sem])<;>(repeat' (with_reducible apply And.intro))<;>(try rfl))))<;>(try (fail)))
  all_goals (try (refine isNext (k+1) ?_ ?_ ?_ ?_<;>(first|((first|refine leQL_spec ?_|refine leQH_spec ?_)<;>(try simp only [seval,go_sem])<;>(repeat' (with_reducible apply And.intro))<;>(try rfl))|skip)<;>(try (omega))))
  all_goals (try (refine ⟨by omega,?_⟩)) 
  all_goals (rw [← hf,drop_get hv];simp [coversP];omega)
 ·((repeat' (first|(with_reducible (first|refine Tri.seq ?_|refine Tri.exit ?_|refine Tri.ret ?_|refine TriD.nil ?_|refine thenQ_n ?_|refine thenQ_e ?_|refine inBlockQ_e ?_|refine loopQ_e ?_|refine Tri.regionD (by simp only [l_3,l_4];rfl) ?_))|((with_reducible refine isTriD ?_);first|(with_reducible refine TriD.step (by simp only [seval,go_sem];rfl) ?_)|(with_reducible refine TriD.step (by simp (disch:=omega) only [seval,go_sem,cnd,intV,shV,convV,strV];rfl) ?_))|(with_reducible refine isCond ?_;with_reducible refine Tri.cond (by simp only [seval,go_sem];rfl) (cvI ?_) (cvI ?_))|(with_reducible refine isCv ?_;intro hc;(try simp only [bls,reduceCtorEq] at hc);(try (exfalso;omega)))|(with_reducible refine isRet ?_;refine RetOK.q rfl rfl (by simp only [seval,go_sem];rfl) (by decide) (by simp only [seval,go_sem];rfl) (by simp only [seval,go_sem];rfl) rfl ?_<;>(try simp only [seval,go_sem])<;>(repeat' (with_reducible apply And.intro))<;>(try rfl))))<;>(try (fail)))
  all_goals (rw [← hf,List.drop_eq_nil_of_le (by omega)];simp [coversP])
set_option maxRecDepth 100000 in set_option maxHeartbeats 3200000 in
theorem rcovers_calls {l:List Pn} {f t:Int} (hl:l.length≤100000):ACalls Try.prog 58 [.sl 2 (l.map rowP), .sc (.int .i64 f), .sc (.int .i64 t)] (.sc (.bool (coversP f t l))) []:=by
 refine of_tri [] [] Try.func58 rfl call58 rfl (by decide) (by decide) rfl rfl Try.ntmps58 (by simp (disch:=omega) only [seval,go_sem,cnd,intV,shV,convV,strV,List.replicate,l_2,l_1];rfl) (by simp (disch:=omega) only [seval,go_sem,cnd,intV,shV,convV,strV,l_2,l_1];rfl) ?_
 ((repeat' (first|(with_reducible (first|refine Tri.seq ?_|refine Tri.block ?_|refine TriD.nil ?_|refine thenQ_n ?_|refine Tri.regionD (by simp only [l_3,l_4];rfl) ?_))|((with_reducible refine isTriD ?_);(with_reducible refine TriD.step (by simp only [seval,go_sem];rfl) ?_))))<;>(try (fail)))
 (with_reducible refine Tri.loopU (fun (k:Nat)=>[(7, .sc (.int .i64 k)),(6, .any),(8, .any),(9, .any),(10, .any),(11, .any),(12, .any),(13, .any),(14, .any),(15, .any),(16, .any),(17, .any),(18, .any),(19, .any),(20, .any),(21, .any),(22, .any),(23, .any),(24, .any),(25, .any),(26, .any),(27, .any),(28, .any),(29, .any),(30, .any),(31, .any),(32, .any),(33, .any)]) (fun (k:Nat)=>[]) (fun (k:Nat)=>k≤l.length∧coversP f t (l.drop k)=coversP f t l) (fun (k:Nat)=>l.length-k) (0) (⟨Nat.zero_le _,rfl⟩) (by intro _;simp (disch:=omega) only [seval,go_sem,cnd,intV,shV,convV,strV];rfl) (by intro _;simp (disch:=omega) only [seval,go_sem,cnd,intV,shV,convV,strV];rfl) (by (refine leQL_spec ?_);(try simp only [seval,go_sem]);done) (by (refine leQH_spec ?_);(try simp only [seval,go_sem]);done) (fun k hI=>?_))
 obtain ⟨hk,hf⟩:=hI
 by_cases hlt:k<l.length
 ·obtain ⟨v,hv⟩:=get_lt hlt
  have hv':=get_map rowP hv
  ((repeat' (first|(with_reducible (first|refine Tri.seq ?_|refine Tri.block ?_|refine Tri.skip ?_|refine Tri.ret ?_|refine TriD.nil ?_|refine thenQ_n ?_|refine thenQ_r ?_|refine inBlockQ_n ?_|refine inBlockQ_r ?_|refine loopQ_n ?_|refine loopQ_r ?_|refine Tri.regionD (by simp only [l_3,l_4];rfl) ?_))|((with_reducible refine isTriD ?_);first|(with_reducible refine TriD.step (by simp only [seval,go_sem,hv',rowP];rfl) ?_)|(with_reducible refine TriD.step (by simp (disch:=omega) only [seval,go_sem,cnd,intV,shV,convV,strV,hv',rowP];rfl) ?_)|(with_reducible refine TriD.byGuard (by simp only [seval,go_sem,hv',rowP];rfl) (by simp only [seval,go_sem,hv',rowP];rfl) (by (fail_if_success (with_reducible exact nlT));(fail_if_success (with_reducible exact nlF));exact nlI) (cvI ?_) (cvI ?_)))|(with_reducible refine isCond ?_;with_reducible refine Tri.cond (by simp only [seval,go_sem,hv',rowP];rfl) (cvI ?_) (cvI ?_))|(with_reducible refine isCv ?_;intro hc;(try simp only [bls,reduceCtorEq] at hc);(try (exfalso;omega)))|(with_reducible refine isRet ?_;refine RetOK.q rfl rfl (by simp only [seval,go_sem];rfl) (by decide) (by simp only [seval,go_sem];rfl) (by simp only [seval,go_sem];rfl) rfl ?_<;>(try simp only [seval,go_sem])<;>(repeat' (with_reducible apply And.intro))<;>(try rfl))))<;>(try (fail)))
  all_goals (try (refine isNext (k+1) ?_ ?_ ?_ ?_<;>(first|((first|refine leQL_spec ?_|refine leQH_spec ?_)<;>(try simp only [seval,go_sem])<;>(repeat' (with_reducible apply And.intro))<;>(try rfl))|skip)<;>(try (omega))))
  all_goals (try (refine ⟨by omega,?_⟩)) 
  all_goals (rw [← hf,drop_get hv];simp [coversP];omega)
 ·((repeat' (first|(with_reducible (first|refine Tri.seq ?_|refine Tri.exit ?_|refine Tri.ret ?_|refine TriD.nil ?_|refine thenQ_n ?_|refine thenQ_e ?_|refine inBlockQ_e ?_|refine loopQ_e ?_|refine Tri.regionD (by simp only [l_3,l_4];rfl) ?_))|((with_reducible refine isTriD ?_);first|(with_reducible refine TriD.step (by simp only [seval,go_sem];rfl) ?_)|(with_reducible refine TriD.step (by simp (disch:=omega) only [seval,go_sem,cnd,intV,shV,convV,strV];rfl) ?_))|(with_reducible refine isCond ?_;with_reducible refine Tri.cond (by simp only [seval,go_sem];rfl) (cvI ?_) (cvI ?_))|(with_reducible refine isCv ?_;intro hc;(try simp only [bls,reduceCtorEq] at hc);(try (exfalso;omega)))|(with_reducible refine isRet ?_;refine RetOK.q rfl rfl (by simp only [seval,go_sem];rfl) (by decide) (by simp only [seval,go_sem];rfl) (by simp only [seval,go_sem];rfl) rfl ?_<;>(try simp only [seval,go_sem])<;>(repeat' (with_reducible apply And.intro))<;>(try rfl))))<;>(try (fail)))
  all_goals (rw [← hf,List.drop_eq_nil_of_le (by omega)];simp [coversP])
end Go.Proofs.Ytmgodadmafcliaa
