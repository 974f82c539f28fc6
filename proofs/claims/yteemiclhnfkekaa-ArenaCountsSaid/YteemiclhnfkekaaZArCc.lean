/- ArenaCounts: a page lives exactly as long as it has been released less often than held and allocated. -/
import Derived.Test.YteemiclhnfkekaaZArC
set_option linter.unusedSimpArgs false
set_option linter.unusedVariables false
namespace Go.Proofs.Yteemiclhnfkekaa
open Go.RowKit Go.Avm Go.ChangeShapes Go.WideShapes Go.ChangeAt
theorem cnt_hold {r:Int} (h0:0≤r) (h1:r≤100):holdR ⟨1,[⟨1,r,[7]⟩]⟩ 1=(⟨1,[⟨1,r+1,[7]⟩]⟩,0):=by
 have e:=wr_of (n:=r+1) (by omega) (by omega)
 simp [holdR,pgAt,setRefs,pgGet,e]
theorem cnt_rel {r:Int} (h0:2≤r) (h1:r≤100):relL ⟨1,[⟨1,r,[7]⟩]⟩ 1=(⟨1,[⟨1,r-1,[7]⟩]⟩,false,0):=by
 have e:=wr_of (n:=r-1) (by omega) (by omega)
 have:r-1≠0:=by omega
 simp [relL,pgAt,setRefs,pgGet,e,this]
theorem cnt_free:relL ⟨1,[⟨1,1,[7]⟩]⟩ 1=(⟨1,[]⟩,true,0):=by kernel_rfl
theorem cnt_none:relL ⟨1,[]⟩ 1=(⟨1,[]⟩,false,8):=by kernel_rfl
theorem cnt_none2:holdR ⟨1,[]⟩ 1=(⟨1,[]⟩,8):=by kernel_rfl
theorem cnt_al:allocU ⟨1,[]⟩ [7]=(⟨1,[⟨1,1,[7]⟩]⟩,1,0):=by kernel_rfl
def cntL (m i:Nat):List Pg:=if i≤m then [⟨1,1+(m:Int)-i,[7]⟩] else []
set_option maxRecDepth 100000 in set_option maxHeartbeats 6400000 in
theorem arenaCounts_calls {n:Int}:ACalls Try.prog 4 [.sc (.int .i64 n)] (.sc (.bool true)) []:=by
 obtain ⟨m,hm,hm2⟩: ∃ m:Nat,n%16=(m:Int)∧m≤15:=⟨(n%16).toNat,by omega,by omega⟩
 have k0:=anew_calls (c:=1) (by omega) (by omega)
 have k1:=aalloc_calls (cap:=1) (l:=[]) (d:=[7]) (by simp) (by simp)
 have kr:=arel_calls (cap:=1) (l:=[]) (n:=1)
 have kh:=ahold_calls (cap:=1) (l:=[]) (n:=1)
 rw [cnt_al] at k1
 rw [cnt_none] at kr
 rw [cnt_none2] at kh
 simp only [l_3,l_4,rowW,List.length_cons,List.length_nil] at k1
 have hh: ∀ i:Nat,i≤15→MCalls Try.prog 12 [.box [.sc (.int .i64 1),.mp 1],.ext (mapB (.int .i64) (ownB (mapPg [⟨1,1+(i:Int),[7]⟩])))] [.ref 0 0,.sc (.int .i64 1)] (.sc (.int .i64 0)) [.box [.sc (.int .i64 1),.mp 1],.ext (mapB (.int .i64) (ownB (mapPg [⟨1,1+((i+1:Nat):Int),[7]⟩])))]:=fun i hi=>by
  have:=ahold_calls (cap:=1) (l:=[⟨1,1+(i:Int),[7]⟩]) (n:=1)
  rw [cnt_hold (by omega) (by omega),show 1+(i:Int)+1=1+((i+1:Nat):Int) by omega] at this
  exact this
 have hr: ∀ i:Nat,i≤m→MCalls Try.prog 14 [.box [.sc (.int .i64 1),.mp 1],.ext (mapB (.int .i64) (ownB (mapPg (cntL m i))))] [.ref 0 0,.sc (.int .i64 1)] (.tup [.sc (.bool (decide (i=m))),.sc (.int .i64 0)]) [.box [.sc (.int .i64 1),.mp 1],.ext (mapB (.int .i64) (ownB (mapPg (cntL m (i+1)))))]:=fun i hi=>by
  have:=arel_calls (cap:=1) (l:=cntL m i) (n:=1)
  rw [cntL,if_pos hi] at this ⊢
  by_cases e:i=m
  ·subst e
   rw [show 1+(i:Int)-i=1 by omega] at this ⊢
   rw [cnt_free] at this
   rw [cntL,if_neg (by omega),decide_eq_true rfl]
   exact this
  ·rw [cnt_rel (by omega) (by omega)] at this
   rw [cntL,if_pos (by omega),decide_eq_false e,show 1+(m:Int)-((i+1:Nat):Int)=1+(m:Int)-i-1 by omega]
   exact this
 have hl: ∀ i:Nat,i≤m→MCalls Try.prog 13 [.box [.sc (.int .i64 1), .mp 1], .ext (mapB (.int .i64) (ownB (mapPg (cntL m i))))] [.ref 0 0] (.sc (.int .i64 1)) [.box [.sc (.int .i64 1), .mp 1], .ext (mapB (.int .i64) (ownB (mapPg (cntL m i))))]:=fun i hi=>by
  have:=alive_calls (cap:=1) (l:=cntL m i)
  rw [show (cntL m i).length=1 by rw [cntL,if_pos hi];rfl] at this
  exact this
 refine of_tri [] [14,25,26,39,48,53,69,73,82,86,514] Try.func4 rfl call4 rfl (by decide) (by decide) rfl rfl Try.ntmps4 (by simp (disch:=omega) only [seval,go_sem,cnd,intV,shV,convV,strV,List.replicate,l_2,l_1];rfl) (by simp (disch:=omega) only [seval,go_sem,cnd,intV,shV,convV,strV,l_2,l_1];rfl) ?_
 ((repeat' (first|((with_reducible refine isTriD ?_);first|((with_reducible refine isCallD ?_);first|((with_reducible ((refine TriD.cJ (dst:=_) [] (by simp only [seval,go_sem];rfl) (by simp only [seval,go_sem];rfl) (k1) (by simp only [seval,go_sem];first|done|fail) (by simp only [seval,go_sem];first|done|fail) (by simp only [seval,go_sem];rfl) ?_)));refine LVs (st:=[77,83,86]) ?_)|((with_reducible refine LVcall (st:=[77,83,86]) ?_);simp only [seval,go_sem];(refine CallL.n2 (k0) ?_;simp only [seval,go_sem];(fail_if_success (with_reducible refine isResV ?_)))))|(with_reducible refine isPtrEq ?_;with_reducible refine TriD.ptrEq (by simp only [seval,go_sem]) (by simp only [seval,go_sem];rfl) (by simp only [seval,go_sem];rfl) (by simp only [seval,go_sem];rfl) (by simp only [seval,go_sem];rfl) ?_;refine LVs (st:=[77,83,86]) ?_)|(with_reducible refine TriD.frz 25 (by simp only [seval,go_sem];rfl) (by simp only [seval,go_sem];rfl) ?_;refine LVs (st:=[77,83,86]) ?_))|(with_reducible (refine TVq (st:=[77,83,86]) ?_))|simp only [seval,go_sem]|(with_reducible refine oV_st (by simp (disch:=omega) only [seval,go_sem,cnd,intV,shV,convV,strV];rfl) ?_)))<;>(try (fail)))
 all_goals (with_reducible refine Tri.loopV (fun (i:Nat)=>[(7,.sc (.int .i64 i)),(2,.any),(31,.any),(32,.any),(33,.any),(34,.any),(35,.any),(36,.any),(37,.any),(38,.any),(39,.any),(40,.any)]) (fun (i:Nat)=>[(514,.ext (mapB (.int .i64) (ownB (mapPg [⟨1,1+(i:Int),[7]⟩])))),(39,.dead)]) (fun (i:Nat)=>i≤m) (fun (i:Nat)=>m-i) (0) (Nat.zero_le _) (by intro _;simp (disch:=omega) only [seval,go_sem,cnd,intV,shV,convV,strV];rfl) (by intro _;simp (disch:=omega) only [seval,go_sem,cnd,intV,shV,convV,strV];rfl) (by (refine leQL_spec ?_);(try simp only [seval,go_sem]);first|done|fail) (by (refine leQH_spec ?_);(try simp only [seval,go_sem]);first|done|fail) (fun i hI=>?_))
 all_goals
  by_cases hlt:i<m
  ·have hhi:=hh i (by omega)
   ((repeat' (first|((with_reducible refine isTriD ?_);((with_reducible refine isCallD ?_);((with_reducible ((refine TriD.cJ (dst:=_) [] (by simp only [seval,go_sem,hm];rfl) (by simp only [seval,go_sem,hm];rfl) (hhi) (by simp only [seval,go_sem,hm];first|done|fail) (by simp only [seval,go_sem,hm];first|done|fail) (by simp only [seval,go_sem,hm];rfl) ?_)));refine LVs (st:=[77,83,86]) ?_)))|(with_reducible (refine TVq (st:=[77,83,86]) ?_))|simp only [seval,go_sem,hm]|(with_reducible refine oV_st (by simp (disch:=omega) only [seval,go_sem,cnd,intV,shV,convV,strV,hm];rfl) ?_)))<;>(try (fail)))
   all_goals (try ((refine isNextVM (i+1) (Imp.les (by (refine leQL_spec ?_);(try simp only [seval,go_sem]);first|((repeat' (with_reducible apply And.intro))<;>first|rfl);first|done|fail) (by (refine leQH_spec ?_);(try simp only [seval,go_sem]);first|done|fail)) ?_ ?_)<;>(try (omega))))
   all_goals done
  ·obtain rfl:i=m:=by omega
   have e0:[(⟨1,1+(i:Int),[7]⟩:Pg)]=cntL i 0:=by rw [cntL,if_pos (Nat.zero_le _)];simp
   rw [e0]
   ((repeat' (first|(with_reducible (refine TVq (st:=[77,83,86]) ?_))|simp only [seval,go_sem,hm]|(with_reducible refine oV_st (by simp (disch:=omega) only [seval,go_sem,cnd,intV,shV,convV,strV,hm];rfl) ?_)))<;>(try (fail)))
   all_goals (with_reducible refine Tri.loopV (fun (j:Nat)=>[(8,.sc (.int .i64 j)),(2,.any),(9,.any),(10,.any),(41,.any),(42,.any),(43,.any),(44,.any),(45,.any),(46,.any),(47,.any),(48,.any),(49,.any),(50,.any),(51,.any),(52,.any),(53,.any),(54,.any),(55,.any),(56,.any),(57,.any),(58,.any),(59,.any),(60,.any),(61,.any),(62,.any),(63,.any),(64,.any),(65,.any)]) (fun (j:Nat)=>[(514,.ext (mapB (.int .i64) (ownB (mapPg (cntL i j))))),(48,.dead),(53,.dead)]) (fun (j:Nat)=>j≤i+1) (fun (j:Nat)=>i+1-j) (0) (Nat.zero_le _) (by intro _;simp (disch:=omega) only [seval,go_sem,cnd,intV,shV,convV,strV];rfl) (by intro _;simp (disch:=omega) only [seval,go_sem,cnd,intV,shV,convV,strV];rfl) (by (refine leQL_spec ?_);(try simp only [seval,go_sem]);first|done|fail) (by (refine leQH_spec ?_);(try simp only [seval,go_sem]);first|done|fail) (fun j hI=>?_))
   all_goals
    by_cases hj:j≤i
    ·have hrj:=hr j hj
     have hlj:=hl j hj
     have hje:decide ((j:Int)=(i:Int))=decide (j=i):=by by_cases e:j=i<;>simp [e]<;>omega
     (all_goals (try have hZ:=(And.intro hm hje));(repeat' (first|((with_reducible refine isTriD ?_);((with_reducible refine isCallD ?_);((with_reducible (first|(refine TriD.cJ (dst:=_) [] (by simp only [seval,go_sem,bne_self_eq_false,hZ];rfl) (by simp only [seval,go_sem,bne_self_eq_false,hZ];rfl) (hrj) (by simp only [seval,go_sem,bne_self_eq_false,hZ];first|done|fail) (by simp only [seval,go_sem,bne_self_eq_false,hZ];first|done|fail) (by simp only [seval,go_sem,bne_self_eq_false,hZ];rfl) ?_)|(refine TriD.cJ (dst:=_) [] (by simp only [seval,go_sem,bne_self_eq_false,hZ];rfl) (by simp only [seval,go_sem,bne_self_eq_false,hZ];rfl) (hlj) (by simp only [seval,go_sem,bne_self_eq_false,hZ];first|done|fail) (by simp only [seval,go_sem,bne_self_eq_false,hZ];first|done|fail) (by simp only [seval,go_sem,bne_self_eq_false,hZ];rfl) ?_)));refine LVs (st:=[77,83,86]) ?_)))|(with_reducible (refine TVq (st:=[77,83,86]) ?_))|simp only [seval,go_sem,bne_self_eq_false,hZ]|(with_reducible refine oV_st (by simp (disch:=omega) only [seval,go_sem,cnd,intV,shV,convV,strV,bne_self_eq_false,hZ];rfl) ?_)))<;>(try (fail));all_goals (try clear hZ))
     all_goals (try ((refine isNextVM (j+1) (Imp.les (by (refine leQL_spec ?_);(try simp only [seval,go_sem]);first|((repeat' (with_reducible apply And.intro))<;>first|rfl);first|done|fail) (by (refine leQH_spec ?_);(try simp only [seval,go_sem]);first|done|fail)) ?_ ?_)<;>(try (omega))))
     all_goals done
    ·have e1:cntL i j=[]:=by rw [cntL,if_neg hj]
     rw [e1]
     ((repeat' (first|((with_reducible refine isTriD ?_);first|((with_reducible refine isCallD ?_);first|((with_reducible (first|(refine TriD.cJ (dst:=_) [] (by simp only [seval,go_sem,hm];rfl) (by simp only [seval,go_sem,hm];rfl) (kr) (by simp only [seval,go_sem,hm];first|done|fail) (by simp only [seval,go_sem,hm];first|done|fail) (by simp only [seval,go_sem,hm];rfl) ?_)|(refine TriD.cJ (dst:=_) [] (by simp only [seval,go_sem,hm];rfl) (by simp only [seval,go_sem,hm];rfl) (kh) (by simp only [seval,go_sem,hm];first|done|fail) (by simp only [seval,go_sem,hm];first|done|fail) (by simp only [seval,go_sem,hm];rfl) ?_)|(refine TriD.cJ (dst:=_) [] (by simp only [seval,go_sem,hm];rfl) (by simp only [seval,go_sem,hm];rfl) (alive_calls) (by simp only [seval,go_sem,hm];first|done|fail) (by simp only [seval,go_sem,hm];rfl) (by simp only [seval,go_sem,hm];rfl) ?_)));refine LVs (st:=[77,83,86]) ?_)|((with_reducible refine LVcall (st:=[77,83,86]) ?_);simp only [seval,go_sem,hm];(refine CallL.c (known15_calls) ?_)))|((with_reducible first|refine TriD.step (by simp (disch:=omega) only [seval,go_sem,cnd,intV,shV,convV,strV,hm];rfl) ?_);refine LVs (st:=[77,83,86]) ?_))|(with_reducible refine isRet ?_;refine RetV (rs:=[.tmp 2]) (by with_unfolding_all rfl) rfl ?_<;>simp only [seval,go_sem]<;>(repeat' (with_reducible apply And.intro))<;>(try rfl))|(with_reducible (refine TVq (st:=[77,83,86]) ?_))|simp only [seval,go_sem,hm]|(with_reducible refine oV_st (by simp (disch:=omega) only [seval,go_sem,cnd,intV,shV,convV,strV,hm];rfl) ?_)))<;>(try (fail)))
     all_goals done
theorem arenaCounts_own:ownKnob Try.prog.godebug=none:=by kernel_rfl
theorem arenaCounts_laid:laidOutB Try.prog=true:=by kernel_rfl
set_option maxRecDepth 100000 in
theorem arenaCounts_lifted (os:Os) (started:os.Started) (H:Type) (enc:TypeId×Value→H):
  ReturnsInHanded {} Try.checked os 4 .any (Rows.arenaCountsSpec.pre6 enc Try.prog Try.f4 Rows.arenaCountsRow.domain false) (Rows.arenaCountsSpec.post enc Try.prog Try.f4 false true false false):=by
 refine returnsInHanded_of_change (C:=Try.checked) arenaCounts_own started (by kernel_rfl) Try.func4
  (ChangeSpec.witness6 (enc:=enc) (C:=Try.checked) false ⟨#[], #[.int .i64 0],[]⟩ 8 (by kernel_rfl) (by kernel_rfl) (by kernel_rfl) (by kernel_rfl)) ?_
 intro W base args ds gs before hval0 hW hcnd _
 have hval: ∀ (j:Nat) t v,Try.f4.params[j]? = some t→args[j]? = some v→Value.okWide Try.prog W .any base t v:=hval0
 have hW':=hW
 obtain ⟨p,q,hA0,hV,rfl,hfz,hnd⟩:=hW
 have hA:DataW.TrodAll enc Try.prog W 0 (fun _=>true) true Try.f4.params.toList args.toList ds p:=hA0
 rw [Try.params4] at hA hval
 obtain ⟨v0,vs0,d0,ds0,p0,q0,hargs,rfl,rfl,h0,r0⟩:=trodAll_cons hA
 obtain ⟨rfl,rfl,rfl⟩:=trodAll_nil r0
 obtain rfl:args = #[v0]:=by cases args;simp_all
 obtain ⟨a0,x0,w0⟩:=arg_int Try.underlying3 (hval 0 3 v0 rfl rfl) h0
 exact law_step (xs:=[.sc (.int .i64 a0)]) hW' rfl arenaCounts_laid (by kernel_rfl) (fun gs' h=>by subst h;rfl) rfl Try.underlying4 (by simp only [RL];exact ⟨_,_,rfl,x0,rfl⟩) (arenaCounts_calls)
theorem arenaCounts_over:Rows.arenaCountsRow.holds Try.pinned (OpenSpec.ofChange Rows.arenaCountsSpec):=
 OpenClaim.holds_of_wide 4 Try.f4 rfl rfl rfl rfl rfl rfl rfl ⟨rfl,rfl,rfl,rfl,rfl⟩ rfl rfl rfl rfl rfl (by kernel_rfl) Try.func4 (by kernel_rfl)
  (of_decide_eq_true (by kernel_rfl)) (by unfold Func.isWrapper;first|(rw [if_pos (by decide +kernel)];kernel_rfl)|(rw [if_neg (by decide +kernel)];exact ⟨rfl,rfl⟩))
  (fun os started H enc _=>arenaCounts_lifted os started H enc)
theorem arenaCounts_holds:Rows.ArenaCountsSaid:=arenaCounts_over

end Go.Proofs.Yteemiclhnfkekaa
