/- What the chain's functions and the reference's compute, as plain Lean; the walks of the first of them. -/
import Derived.Test.YtmgodadmafcliaaRBase
set_option linter.unusedSimpArgs false
set_option linter.unusedVariables false
namespace Go.Proofs.Ytmgodadmafcliaa
open Go.RowKit Go.Avm
def rowI (z:Int):List D:=[.sc (.int .i64 z)]
structure Ver where
 from_:Int
 to:Int
 size:Int
 pages:List Int
 deriving DecidableEq
def rowV (v:Ver):List D:=[.sc (.int .i64 v.from_), .sc (.int .i64 v.to), .sc (.int .i64 v.size), .sl 1 (v.pages.map rowI)]
def holdsF (f t c:Int):Bool:=decide (f≤c)&&(decide (c<t)||decide (t=0))
def findN (c:Int):List Ver→Nat→Int×Bool
 | [],_=>(0,false)
 | v::vs,k=>if holdsF v.from_ v.to c then (k,true) else findN c vs (k+1)
def validV (prev:Option Ver):List Ver→Int
 | []=>0
 | v::vs=>if v.from_<1∨v.to<0∨v.size<0 then 5 else if v.to≠0∧v.to≤v.from_ then 19 else
    match prev with
    | some p=>if p.to=0∨v.from_<p.to then 19 else validV (some v) vs
    | none=>validV (some v) vs
def prevV (vs:List Ver) (k:Nat):Option Ver:=if k=0 then none else vs[k-1]?
-- CON sketchstore/chain.Find | find_calls ?_ | 0
-- CON sketchstore/sketchstoreref14.FindVersion | rfind_calls ?_ | 0
-- CON sketchstore/sketchstoreref14.Holds | rholdsf_calls | 0
-- CON sketchstore/chain.Validate | valid_calls ?_ | 0
-- CON sketchstore/sketchstoreref14.ValidateChain | rvalid_calls ?_ | 0
set_option maxRecDepth 100000 in set_option maxHeartbeats 1600000 in
theorem find_calls {vs:List Ver} {c:Int} (hl:vs.length≤100000):ACalls Try.prog 81 [.sl 4 (vs.map rowV), .sc (.int .i64 c)] (.tup [.sc (.int .i64 (findN c vs 0).1), .sc (.bool (findN c vs 0).2)]) []:=by
 refine of_tri [] [7] Try.func81 rfl call81 rfl (by decide) (by decide) rfl rfl Try.ntmps81 (by simp (disch:=omega) only [seval,go_sem,cnd,intV,shV,convV,strV,List.replicate,l_2,l_1];rfl) (by simp (disch:=omega) only [seval,go_sem,cnd,intV,shV,convV,strV,l_2,l_1];rfl) ?_
 ((repeat' (first|(with_reducible (first|refine Tri.seq ?_|refine Tri.block ?_|refine TriD.nil ?_|refine thenQ_n ?_|refine Tri.regionD (by simp only [l_3,l_4];rfl) ?_))|((with_reducible refine isTriD ?_);(with_reducible refine TriD.step (by simp only [seval,go_sem];rfl) ?_))))<;>(try (fail)))
 (with_reducible refine Tri.loopU (fun (k:Nat)=>[(10, .sc (.int .i64 k)),(4, .any),(5, .any),(6, .any),(7, .any),(11, .any),(12, .any),(13, .any),(14, .any),(15, .any),(16, .any),(17, .any),(18, .any),(19, .any),(20, .any),(21, .any),(22, .any),(23, .any),(24, .any),(25, .any),(26, .any),(27, .any),(28, .any),(29, .any),(30, .any),(31, .any)]) (fun (k:Nat)=>[(7, .dead)]) (fun (k:Nat)=>k≤vs.length∧findN c (vs.drop k) k=findN c vs 0) (fun (k:Nat)=>vs.length-k) (0) (⟨Nat.zero_le _,rfl⟩) (by intro _;simp (disch:=omega) only [seval,go_sem,cnd,intV,shV,convV,strV];rfl) (by intro _;simp (disch:=omega) only [seval,go_sem,cnd,intV,shV,convV,strV];rfl) (by (refine leQL_spec ?_);(try simp only [seval,go_sem]);done) (by (refine leQH_spec ?_);(try simp only [seval,go_sem]);done) (fun k hI=>?_))
 obtain ⟨hk,hf⟩:=hI
 by_cases hlt:k<vs.length
 ·obtain ⟨v,hv⟩:=get_lt hlt
  have hv':=get_map rowV hv
  ((repeat' (first|(with_reducible (first|refine Tri.seq ?_|refine Tri.block ?_|refine Tri.skip ?_|refine Tri.ret ?_|refine TriD.nil ?_|refine thenQ_n ?_|refine thenQ_r ?_|refine inBlockQ_n ?_|refine inBlockQ_r ?_|refine loopQ_n ?_|refine loopQ_r ?_|refine Tri.regionD (by simp only [l_3,l_4];rfl) ?_))|((with_reducible refine isTriD ?_);first|(with_reducible refine TriD.step (by simp only [seval,go_sem,hv',rowV];rfl) ?_)|(with_reducible refine TriD.step (by simp (disch:=omega) only [seval,go_sem,cnd,intV,shV,convV,strV,hv',rowV];rfl) ?_)|(with_reducible refine TriD.byGuard (by simp only [seval,go_sem,hv',rowV];rfl) (by simp only [seval,go_sem,hv',rowV];rfl) (by (fail_if_success (with_reducible exact nlT));(fail_if_success (with_reducible exact nlF));exact nlI) (cvI ?_) (cvI ?_)))|(with_reducible refine isCond ?_;with_reducible refine Tri.cond (by simp only [seval,go_sem,hv',rowV];rfl) (cvI ?_) (cvI ?_))|(with_reducible refine isCv ?_;intro hc;(try simp only [bls,reduceCtorEq] at hc);(try (exfalso;omega)))|(with_reducible refine isRet ?_;refine RetOK.q rfl rfl (by simp only [seval,go_sem];rfl) (by decide) (by simp only [seval,go_sem];rfl) (by simp only [seval,go_sem];rfl) rfl ?_<;>(try simp only [seval,go_sem])<;>(repeat' (with_reducible apply And.intro))<;>(try rfl))))<;>(try (fail)))
  all_goals (try (refine isNext (k+1) ?_ ?_ ?_ ?_<;>(first|((first|refine leQL_spec ?_|refine leQH_spec ?_)<;>(try simp only [seval,go_sem])<;>(repeat' (with_reducible apply And.intro))<;>(try rfl))|skip)<;>(try (omega))))
  all_goals first|omega|(refine ⟨by omega,?_⟩;rw [← hf,drop_get hv];simp [findN,holdsF, *];omega)|(rw [← hf,drop_get hv];simp [findN,holdsF, *])
 ·((repeat' (first|(with_reducible (first|refine Tri.seq ?_|refine Tri.exit ?_|refine Tri.ret ?_|refine TriD.nil ?_|refine thenQ_n ?_|refine thenQ_e ?_|refine inBlockQ_e ?_|refine loopQ_e ?_|refine Tri.regionD (by simp only [l_3,l_4];rfl) ?_))|((with_reducible refine isTriD ?_);first|(with_reducible refine TriD.step (by simp only [seval,go_sem];rfl) ?_)|(with_reducible refine TriD.step (by simp (disch:=omega) only [seval,go_sem,cnd,intV,shV,convV,strV];rfl) ?_))|(with_reducible refine isCond ?_;with_reducible refine Tri.cond (by simp only [seval,go_sem];rfl) (cvI ?_) (cvI ?_))|(with_reducible refine isCv ?_;intro hc;(try simp only [bls,reduceCtorEq] at hc);(try (exfalso;omega)))|(with_reducible refine isRet ?_;refine RetOK.q rfl rfl (by simp only [seval,go_sem];rfl) (by decide) (by simp only [seval,go_sem];rfl) (by simp only [seval,go_sem];rfl) rfl ?_<;>(try simp only [seval,go_sem])<;>(repeat' (with_reducible apply And.intro))<;>(try rfl))))<;>(try (fail)))
  all_goals (rw [← hf,List.drop_eq_nil_of_le (by omega)];simp [findN])
set_option maxRecDepth 100000 in set_option maxHeartbeats 1600000 in
theorem rholdsf_calls {f t c:Int}:ACalls Try.prog 89 [.sc (.int .i64 f), .sc (.int .i64 t), .sc (.int .i64 c)] (.sc (.bool (holdsF f t c))) []:=by
 refine of_tri [] [] Try.func89 rfl call89 rfl (by decide) (by decide) rfl rfl Try.ntmps89 (by simp (disch:=omega) only [seval,go_sem,cnd,intV,shV,convV,strV,List.replicate,l_2,l_1];rfl) (by simp (disch:=omega) only [seval,go_sem,cnd,intV,shV,convV,strV,l_2,l_1];rfl) ?_
 ((repeat' (first|(with_reducible (first|refine Tri.seq ?_|refine Tri.ret ?_|refine TriD.nil ?_|refine thenQ_n ?_|refine Tri.regionD (by simp only [l_3,l_4];rfl) ?_))|((with_reducible refine isTriD ?_);first|(with_reducible refine TriD.step (by simp only [seval,go_sem];rfl) ?_)|(with_reducible refine TriD.step (by simp (disch:=omega) only [seval,go_sem,cnd,intV,shV,convV,strV];rfl) ?_)|(with_reducible refine TriD.byGuard (by simp only [seval,go_sem];rfl) (by simp only [seval,go_sem];rfl) (by (fail_if_success (with_reducible exact nlT));(fail_if_success (with_reducible exact nlF));exact nlI) (cvI ?_) (cvI ?_)))|(with_reducible refine isCv ?_;intro hc;(try simp only [bls,reduceCtorEq] at hc);(try (exfalso;omega)))|(with_reducible refine isRet ?_;refine RetOK.q rfl rfl (by simp only [seval,go_sem];rfl) (by decide) (by simp only [seval,go_sem];rfl) (by simp only [seval,go_sem];rfl) rfl ?_<;>(try simp only [seval,go_sem])<;>(repeat' (with_reducible apply And.intro))<;>(try rfl))))<;>(try (fail)))
 all_goals (simp [holdsF, *])
 all_goals omega
set_option maxRecDepth 100000 in set_option maxHeartbeats 1600000 in
theorem rfind_calls {vs:List Ver} {c:Int} (hl:vs.length≤100000):ACalls Try.prog 90 [.sl 4 (vs.map rowV), .sc (.int .i64 c)] (.tup [.sc (.int .i64 (findN c vs 0).1), .sc (.bool (findN c vs 0).2)]) []:=by
 refine of_tri [] [24] Try.func90 rfl call90 rfl (by decide) (by decide) rfl rfl Try.ntmps90 (by simp (disch:=omega) only [seval,go_sem,cnd,intV,shV,convV,strV,List.replicate,l_2,l_1];rfl) (by simp (disch:=omega) only [seval,go_sem,cnd,intV,shV,convV,strV,l_2,l_1];rfl) ?_
 ((repeat' (first|(with_reducible (first|refine Tri.seq ?_|refine Tri.block ?_|refine TriD.nil ?_|refine thenQ_n ?_|refine Tri.regionD (by simp only [l_3,l_4];rfl) ?_))|((with_reducible refine isTriD ?_);(with_reducible refine TriD.step (by simp only [seval,go_sem];rfl) ?_))))<;>(try (fail)))
 (with_reducible refine Tri.loopU (fun (k:Nat)=>[(6, .sc (.int .i64 k)),(4, .any),(5, .any),(7, .any),(8, .any),(9, .any),(10, .any),(11, .any),(12, .any),(13, .any),(14, .any),(15, .any),(16, .any),(17, .any),(18, .any),(19, .any),(20, .any),(21, .any),(22, .any),(23, .any),(24, .any),(25, .any)]) (fun (k:Nat)=>[(24, .dead)]) (fun (k:Nat)=>k≤vs.length∧findN c (vs.drop k) k=findN c vs 0) (fun (k:Nat)=>vs.length-k) (0) (⟨Nat.zero_le _,rfl⟩) (by intro _;simp (disch:=omega) only [seval,go_sem,cnd,intV,shV,convV,strV];rfl) (by intro _;simp (disch:=omega) only [seval,go_sem,cnd,intV,shV,convV,strV];rfl) (by (refine leQL_spec ?_);(try simp only [seval,go_sem]);done) (by (refine leQH_spec ?_);(try simp only [seval,go_sem]);done) (fun k hI=>?_))
 obtain ⟨hk,hf⟩:=hI
 by_cases hlt:k<vs.length
 ·obtain ⟨v,hv⟩:=get_lt hlt
  have hv':=get_map rowV hv
  ((repeat' (first|(with_reducible (first|refine Tri.seq ?_|refine Tri.block ?_|refine Tri.skip ?_|refine Tri.ret ?_|refine TriD.nil ?_|refine ListD.nil ?_|refine thenQ_n ?_|refine thenQ_r ?_|refine inBlockQ_n ?_|refine inBlockQ_r ?_|refine loopQ_n ?_|refine loopQ_r ?_|refine Tri.regionD (by simp only [l_3,l_4];rfl) ?_))|((with_reducible refine isTriD ?_);first|(with_reducible refine TriD.step (by simp only [seval,go_sem,hv',rowV];rfl) ?_)|(with_reducible refine TriD.step (by simp (disch:=omega) only [seval,go_sem,cnd,intV,shV,convV,strV,hv',rowV];rfl) ?_))|((with_reducible refine isListD ?_);first|(with_reducible refine ListD.step (by simp only [seval,go_sem,hv',rowV];rfl) ?_)|((with_reducible refine isCallV ?_);((with_reducible (refine ListD.dE (by simp only [seval,go_sem,hv',rowV];rfl) (by simp only [seval,go_sem,hv',rowV];rfl) ?_));refine CallW.c (rholdsf_calls) (by simp only [seval,go_sem,hv',rowV];rfl) ?_))|(with_reducible refine ListD.step (by simp (disch:=omega) only [seval,go_sem,cnd,intV,shV,convV,strV,hv',rowV];rfl) ?_))|(with_reducible refine isCond ?_;with_reducible refine Tri.cond (by simp only [seval,go_sem,hv',rowV];rfl) (cvI ?_) (cvI ?_))|(with_reducible refine isCv ?_;intro hc;(try simp only [bls,reduceCtorEq] at hc);(try (exfalso;omega)))|(with_reducible refine isDrawn ?_;refine Tri.drawnD mix (by kernel_rfl) (by simp only [l_3,l_4];rfl) ?_)|(with_reducible refine isRet ?_;refine RetOK.q rfl rfl (by simp only [seval,go_sem];rfl) (by decide) (by simp only [seval,go_sem];rfl) (by simp only [seval,go_sem];rfl) rfl ?_<;>(try simp only [seval,go_sem])<;>(repeat' (with_reducible apply And.intro))<;>(try rfl))))<;>(try (fail)))
  all_goals (try (refine isNext (k+1) ?_ ?_ ?_ ?_<;>(first|((first|refine leQL_spec ?_|refine leQH_spec ?_)<;>(try simp only [seval,go_sem])<;>(repeat' (with_reducible apply And.intro))<;>(try rfl))|skip)<;>(try (omega))))
  all_goals first|omega|(refine ⟨by omega,?_⟩;rw [← hf,drop_get hv];simp [findN, *];done)|(rw [← hf,drop_get hv];simp [findN, *])
 ·((repeat' (first|(with_reducible (first|refine Tri.seq ?_|refine Tri.exit ?_|refine Tri.ret ?_|refine TriD.nil ?_|refine thenQ_n ?_|refine thenQ_e ?_|refine inBlockQ_e ?_|refine loopQ_e ?_|refine Tri.regionD (by simp only [l_3,l_4];rfl) ?_))|((with_reducible refine isTriD ?_);first|(with_reducible refine TriD.step (by simp only [seval,go_sem];rfl) ?_)|(with_reducible refine TriD.step (by simp (disch:=omega) only [seval,go_sem,cnd,intV,shV,convV,strV];rfl) ?_))|(with_reducible refine isCond ?_;with_reducible refine Tri.cond (by simp only [seval,go_sem];rfl) (cvI ?_) (cvI ?_))|(with_reducible refine isCv ?_;intro hc;(try simp only [bls,reduceCtorEq] at hc);(try (exfalso;omega)))|(with_reducible refine isRet ?_;refine RetOK.q rfl rfl (by simp only [seval,go_sem];rfl) (by decide) (by simp only [seval,go_sem];rfl) (by simp only [seval,go_sem];rfl) rfl ?_<;>(try simp only [seval,go_sem])<;>(repeat' (with_reducible apply And.intro))<;>(try rfl))))<;>(try (fail)))
  all_goals (rw [← hf,List.drop_eq_nil_of_le (by omega)];simp [findN])
end Go.Proofs.Ytmgodadmafcliaa
