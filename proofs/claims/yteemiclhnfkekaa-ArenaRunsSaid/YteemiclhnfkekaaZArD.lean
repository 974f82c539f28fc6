/- ArenaRuns: the result of every call in any sequence of calls is that of the reference, and so is the dump after it. -/
import Derived.Test.YteemiclhnfkekaaZArDp
set_option linter.unusedSimpArgs false
set_option linter.unusedVariables false
namespace Go.Proofs.Yteemiclhnfkekaa
open Go.RowKit Go.Avm Go.ChangeShapes Go.WideShapes Go.ChangeAt
set_option maxRecDepth 100000 in set_option maxHeartbeats 12800000 in
theorem arenaRuns_calls {cap:Int} {xs:List Int}:ACalls Try.prog 6 [.sc (.int .i64 cap), .sl 1 (xs.map rowI)] (.sc (.bool true)) []:=by
 have hc0:0≤cap%8:=by omega
 have hc7:cap%8≤7:=by omega
 have k0:=anew_calls (c:=cap%8) hc0 (by omega)
 generalize hc:cap%8=c at *
 refine of_tri [] [8,16,20,24,35,70,79,83,89,106,110,122,128,146,152,169,177,180,183,535] Try.func6 rfl call6 rfl (by decide) (by decide) rfl rfl Try.ntmps6 (by simp (disch:=omega) only [seval,go_sem,cnd,intV,shV,convV,strV,List.replicate,l_2,l_1];rfl) (by simp (disch:=omega) only [seval,go_sem,cnd,intV,shV,convV,strV,l_2,l_1];rfl) ?_
 ((repeat' (first|((with_reducible refine isTriD ?_);first|((with_reducible refine isCallD ?_);((with_reducible refine LVcall (st:=[100,139,163]) ?_);simp only [seval,go_sem,hc];(refine CallL.n2 (k0) ?_)))|(with_reducible refine isPtrEq ?_;with_reducible refine TriD.ptrEq (by simp only [seval,go_sem,hc]) (by simp only [seval,go_sem,hc];rfl) (by simp only [seval,go_sem,hc];rfl) (by simp only [seval,go_sem,hc];rfl) (by simp only [seval,go_sem,hc];rfl) ?_;refine LVs (st:=[100,139,163]) ?_))|(with_reducible (refine TVq (st:=[100,139,163]) ?_))|simp only [seval,go_sem,hc]|(with_reducible refine oV_st (by simp (disch:=omega) only [seval,go_sem,cnd,intV,shV,convV,strV,hc];rfl) ?_)))<;>(try (fail)))
 all_goals (with_reducible refine Tri.loopV (fun (t:Nat×List Pg×List Pg)=>[(0,.sc (.int .i64 cap)),(1,.sl 1 (xs.map rowI)),(5,.sc (.int .i64 c)),(6,.ref 35 0),(9,.sc (.int .i64 t.1)),(8,.ref 8 0),(2,.any),(3,.any),(4,.any),(7,.any),(10,.any),(11,.any),(12,.any),(13,.any),(14,.any),(15,.any),(16,.any),(17,.any),(18,.any),(19,.any),(20,.any),(21,.any),(22,.any),(23,.any),(24,.any),(25,.any),(26,.any),(27,.any),(28,.any),(29,.any),(30,.any),(31,.any),(32,.any),(33,.any),(34,.any),(35,.any),(36,.any),(37,.any),(38,.any),(39,.any),(40,.any),(41,.any),(42,.any),(43,.any),(44,.any),(45,.any),(46,.any),(47,.any),(48,.any),(49,.any),(50,.any),(51,.any),(52,.any),(53,.any),(54,.any),(55,.any),(56,.any),(57,.any),(58,.any),(59,.any),(60,.any),(61,.any),(62,.any),(63,.any),(64,.any),(65,.any),(66,.any),(67,.any),(68,.any),(69,.any),(70,.any),(71,.any),(72,.any),(73,.any),(74,.any),(75,.any),(76,.any),(77,.any),(78,.any),(79,.any),(80,.any),(81,.any),(82,.any),(83,.any),(84,.any),(85,.any),(86,.any),(87,.any),(88,.any),(89,.any),(90,.any),(91,.any),(92,.any),(93,.any),(94,.any),(95,.any),(96,.any),(97,.any),(98,.any),(99,.any),(100,.any),(101,.any),(102,.any),(103,.any),(104,.any),(105,.any),(106,.any),(107,.any),(108,.any),(109,.any),(110,.any),(111,.any),(112,.any),(113,.any),(114,.any),(115,.any),(116,.any),(117,.any),(118,.any),(119,.any),(120,.any),(121,.any),(122,.any),(123,.any),(124,.any),(125,.any),(126,.any),(127,.any),(128,.any),(129,.any),(130,.any),(131,.any),(132,.any),(133,.any),(134,.any),(135,.any),(136,.any),(137,.any),(138,.any),(139,.any),(140,.any),(141,.any),(142,.any),(143,.any),(144,.any),(145,.any),(146,.any),(147,.any),(148,.any),(149,.any),(150,.any),(151,.any),(152,.any),(153,.any),(154,.any),(155,.any),(156,.any),(157,.any),(158,.any),(159,.any),(160,.any),(161,.any),(162,.any),(163,.any),(164,.any),(165,.any),(166,.any),(167,.any),(168,.any),(169,.any),(170,.any),(171,.any),(172,.any),(173,.any),(174,.any),(175,.any),(176,.any),(177,.any),(178,.any),(179,.any),(180,.any),(181,.any),(182,.any),(183,.any)]) (fun (t:Nat×List Pg×List Pg)=>[(8,.box [.sc (.int .i64 c),.sl 3 (t.2.2.map rowPg)]),(35,.box [.sc (.int .i64 c),.mp 535]),(535,.ext (mapB (.int .i64) (ownB (mapPg t.2.1)))),(16,.dead),(20,.dead),(24,.dead),(70,.dead),(79,.dead),(83,.dead),(89,.dead),(106,.dead),(110,.dead),(122,.dead),(128,.dead),(146,.dead),(152,.dead),(169,.dead),(177,.dead),(180,.dead),(183,.dead)]) (fun (t:Nat×List Pg×List Pg)=>t.1≤30∧RunI c t.1 t.2.1 t.2.2) (fun (t:Nat×List Pg×List Pg)=>30-t.1) ((0,[],[])) (⟨Nat.zero_le _,RunI.new c⟩) (by intro _;simp (disch:=omega) only [seval,go_sem,cnd,intV,shV,convV,strV];rfl) (by intro _;simp (disch:=omega) only [seval,go_sem,cnd,intV,shV,convV,strV];rfl) (by (refine leQL_spec ?_);(try simp only [seval,go_sem]);first|done|fail) (by (refine leQH_spec ?_);(try simp only [seval,go_sem]);first|done|fail) (fun t hI=>?_))
 all_goals
  obtain ⟨i,l,ap⟩:=t
  obtain ⟨hi,hI⟩:=hI
  by_cases hlt:i<xs.length∧i<30
  ·obtain ⟨n,hn⟩:=get_lt hlt.1
   have h4:n%4=0∨n%4=1∨n%4=2∨n%4=3:=by omega
   rcases h4 with hm|hm|hm|hm
   ·by_cases hz:n/2097152%32=31
    ·exact runs_make hi hc7 hI hlt.1 hlt.2 hn hm hz _ (by with_unfolding_all rfl)
    ·exact runs_alloc hi hc7 hI hlt.1 hlt.2 hn hm hz _ (by with_unfolding_all rfl)
   ·exact runs_hold hi hc7 hI hlt.1 hlt.2 hn hm _ (by with_unfolding_all rfl)
   ·exact runs_rel hi hc7 hI hlt.1 hlt.2 hn hm _ (by with_unfolding_all rfl)
   ·exact runs_data hi hc7 hI hlt.1 hlt.2 hn hm _ (by with_unfolding_all rfl)
  ·simp only
   rcases Nat.lt_or_ge i xs.length with h1|h1
   ·have h2: ¬ i<30:=fun h=>hlt ⟨h1,h⟩
    (all_goals (try have hZ:=(And.intro h1 h2));(repeat' (first|((with_reducible refine isTriD ?_);((with_reducible refine isCallD ?_);((with_reducible refine LVcall (st:=[100,139,163]) ?_);simp only [seval,go_sem,hZ];(refine CallL.c (known15_calls) ?_))))|(with_reducible refine isRet ?_;refine RetV (rs:=[.tmp 4]) (by with_unfolding_all rfl) rfl ?_<;>simp only [seval,go_sem]<;>(repeat' (with_reducible apply And.intro))<;>(try rfl))|(with_reducible (refine TVq (st:=[100,139,163]) ?_))|simp only [seval,go_sem,hZ]|(with_reducible refine oV_st (by simp (disch:=omega) only [seval,go_sem,cnd,intV,shV,convV,strV,hZ];rfl) ?_)))<;>(try (fail));all_goals (try clear hZ))
    all_goals done
   ·have h2: ¬ i<xs.length:=by omega
    ((repeat' (first|((with_reducible refine isTriD ?_);((with_reducible refine isCallD ?_);((with_reducible refine LVcall (st:=[100,139,163]) ?_);simp only [seval,go_sem,h2];(refine CallL.c (known15_calls) ?_))))|(with_reducible refine isRet ?_;refine RetV (rs:=[.tmp 4]) (by with_unfolding_all rfl) rfl ?_<;>simp only [seval,go_sem]<;>(repeat' (with_reducible apply And.intro))<;>(try rfl))|(with_reducible (refine TVq (st:=[100,139,163]) ?_))|simp only [seval,go_sem,h2]|(with_reducible refine oV_st (by simp (disch:=omega) only [seval,go_sem,cnd,intV,shV,convV,strV,h2];rfl) ?_)))<;>(try (fail)))
    all_goals done
theorem arenaRuns_own:ownKnob Try.prog.godebug=none:=by kernel_rfl
theorem arenaRuns_laid:laidOutB Try.prog=true:=by kernel_rfl
set_option maxRecDepth 100000 in
theorem arenaRuns_lifted (os:Os) (started:os.Started) (H:Type) (enc:TypeId×Value→H):
  ReturnsInHanded {} Try.checked os 6 .any (Rows.arenaRunsSpec.pre6 enc Try.prog Try.f6 Rows.arenaRunsRow.domain false) (Rows.arenaRunsSpec.post enc Try.prog Try.f6 false true false false):=by
 refine returnsInHanded_of_change (C:=Try.checked) arenaRuns_own started (by kernel_rfl) Try.func6
  (ChangeSpec.witness6 (enc:=enc) (C:=Try.checked) false ⟨#[], #[.int .i64 0, .slice none 0 0],[]⟩ 8 (by kernel_rfl) (by kernel_rfl) (by kernel_rfl) (by kernel_rfl)) ?_
 intro W base args ds gs before hval0 hW hcnd _
 have hval: ∀ (j:Nat) t v,Try.f6.params[j]? = some t→args[j]? = some v→Value.okWide Try.prog W .any base t v:=hval0
 have hW':=hW
 obtain ⟨p,q,hA0,hV,rfl,hfz,hnd⟩:=hW
 have hA:DataW.TrodAll enc Try.prog W 0 (fun _=>true) true Try.f6.params.toList args.toList ds p:=hA0
 rw [Try.params6] at hA hval
 obtain ⟨v0,vs0,d0,ds0,p0,q0,hargs,rfl,rfl,h0,r0⟩:=trodAll_cons hA
 obtain ⟨v1,vs1,d1,ds1,p1,q1,rfl,rfl,rfl,h1,r1⟩:=trodAll_cons r0
 obtain ⟨rfl,rfl,rfl⟩:=trodAll_nil r1
 obtain rfl:args = #[v0,v1]:=by cases args;simp_all
 obtain ⟨a0,x0,w0⟩:=arg_int Try.underlying3 (hval 0 3 v0 rfl rfl) h0
 obtain ⟨a1,x1,w1,l1⟩:=arg_ints Try.underlying22 Try.underlying3 (by kernel_rfl) (hval 1 22 v1 rfl rfl) h1
 exact law_step (xs:=[.sc (.int .i64 a0), .sl 1 (a1.map fun z=>[.sc (.int .i64 z)])]) hW' rfl arenaRuns_laid (by kernel_rfl) (fun gs' h=>by subst h;rfl) rfl Try.underlying4 (by simp only [RL];exact ⟨_,_,rfl,x0,⟨_,_,rfl,x1,rfl⟩⟩) (arenaRuns_calls)
theorem arenaRuns_over:Rows.arenaRunsRow.holds Try.pinned (OpenSpec.ofChange Rows.arenaRunsSpec):=
 OpenClaim.holds_of_wide 6 Try.f6 rfl rfl rfl rfl rfl rfl rfl ⟨rfl,rfl,rfl,rfl,rfl⟩ rfl rfl rfl rfl rfl (by kernel_rfl) Try.func6 (by kernel_rfl)
  (of_decide_eq_true (by kernel_rfl)) (by unfold Func.isWrapper;first|(rw [if_pos (by decide +kernel)];kernel_rfl)|(rw [if_neg (by decide +kernel)];exact ⟨rfl,rfl⟩))
  (fun os started H enc _=>arenaRuns_lifted os started H enc)
theorem arenaRuns_holds:Rows.ArenaRunsSaid:=arenaRuns_over

end Go.Proofs.Yteemiclhnfkekaa
