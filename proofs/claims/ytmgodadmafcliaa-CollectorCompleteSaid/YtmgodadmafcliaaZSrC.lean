/- The reference's store: what looks at it, pins, drops and renames; the walks. -/
import Derived.Test.YtmgodadmafcliaaZSrA
import Derived.Test.YtmgodadmafcliaaZSrB
import Derived.Test.YtmgodadmafcliaaZCoB
import Derived.Test.YtmgodadmafcliaaZPiD
import Derived.Test.YtmgodadmafcliaaZDiD
import Derived.Test.YtmgodadmafcliaaZDiG
set_option linter.unusedSimpArgs false
set_option linter.unusedVariables false
namespace Go.Proofs.Ytmgodadmafcliaa
open Go.RowKit Go.Avm
set_option maxRecDepth 100000 in set_option maxHeartbeats 3200000 in
theorem robj_calls {l:List Ob} {n:Int} (hl:l.length≤100000):ACalls Try.prog 56 [.sl 2 (l.map rowOb), .sc (.int .i64 n)] (.sc (.int .i64 (objAt n l 0))) []:=by
 refine of_tri [] [] Try.func56 rfl call56 rfl (by decide) (by decide) rfl rfl Try.ntmps56 (by simp (disch:=omega) only [seval,go_sem,cnd,intV,shV,convV,strV,List.replicate,l_2,l_1];rfl) (by simp (disch:=omega) only [seval,go_sem,cnd,intV,shV,convV,strV,l_2,l_1];rfl) ?_
 ((repeat' (first|(with_reducible (refine TVq (st:=[]) ?_))|simp only [seval,go_sem]))<;>(try (fail)))
 all_goals (with_reducible refine Tri.loopU (fun (k:Nat)=>[(5,.sc (.int .i64 k)),(4,.any),(6,.any),(7,.any),(8,.any),(9,.any),(10,.any),(11,.any),(12,.any),(13,.any),(14,.any),(15,.any),(16,.any),(17,.any),(18,.any),(19,.any)]) (fun (k:Nat)=>[]) (fun (k:Nat)=>k≤l.length∧objAt n (l.drop k) k=objAt n l 0) (fun (k:Nat)=>l.length-k) (0) (⟨Nat.zero_le _,rfl⟩) (by intro _;simp (disch:=omega) only [seval,go_sem,cnd,intV,shV,convV,strV];rfl) (by intro _;simp (disch:=omega) only [seval,go_sem,cnd,intV,shV,convV,strV];rfl) (by (refine leQL_spec ?_);(try simp only [seval,go_sem]);done) (by (refine leQH_spec ?_);(try simp only [seval,go_sem]);done) (fun k hI=>?_))
 all_goals obtain ⟨hk,hf⟩:=hI
 by_cases hlt:k<l.length
 ·obtain ⟨o,ho⟩:=get_lt hlt
  have ho':=get_map rowOb ho
  rw [drop_get ho,objAt] at hf
  by_cases hc:o.id=n
  ·rw [if_pos hc] at hf
   rw [← hf]
   ((repeat' (first|(with_reducible refine isRet ?_;refine RetV (rs:=[.tmp 4]) (by with_unfolding_all rfl) rfl ?_<;>simp only [seval,go_sem]<;>(repeat' (with_reducible apply And.intro))<;>(try rfl))|(with_reducible (refine TVq (st:=[]) ?_))|simp only [seval,go_sem,ho',rowOb]|(with_reducible refine oV_st (by simp (disch:=omega) only [seval,go_sem,cnd,intV,shV,convV,strV,ho',rowOb];rfl) ?_)))<;>(try (fail)))
  ·rw [if_neg hc] at hf
   ((repeat' (first|(with_reducible (refine TVq (st:=[]) ?_))|simp only [seval,go_sem,ho',rowOb]|(with_reducible refine oV_st (by simp (disch:=omega) only [seval,go_sem,cnd,intV,shV,convV,strV,ho',rowOb];rfl) ?_)))<;>(try (fail)))
   all_goals (try (refine isNextM (k+1) (by (refine leQL_spec ?_);(try simp only [seval,go_sem]);first|((repeat' (with_reducible apply And.intro))<;>first|rfl);done) (by (refine leQH_spec ?_);(try simp only [seval,go_sem]);done) ?_ ?_<;>(try (omega))))
   all_goals (try exact ⟨by omega,hf⟩)
 ·rw [List.drop_eq_nil_of_le (by omega),objAt] at hf
  rw [← hf]
  ((repeat' (first|(with_reducible refine isRet ?_;refine RetV (rs:=[.tmp 4]) (by with_unfolding_all rfl) rfl ?_<;>simp only [seval,go_sem]<;>(repeat' (with_reducible apply And.intro))<;>(try rfl))|(with_reducible (refine TVq (st:=[]) ?_))|simp only [seval,go_sem]|(with_reducible refine oV_st (by simp (disch:=omega) only [seval,go_sem,cnd,intV,shV,convV,strV];rfl) ?_)))<;>(try (fail)))
set_option maxRecDepth 100000 in set_option maxHeartbeats 3200000 in
theorem rpinned_calls {a1 a2 a3 a4 a5 a6 a7 com last cap:Int} {os:List Ob} {bs:List Bd} {ps:List Pn} {pg:List Pg} {c:Int} (hl:ps.length≤100000):ACalls Try.prog 119 [.agg [.sc (.int .i64 a1),.sc (.int .i64 a2),.sc (.int .i64 a3),.sc (.int .i64 a4),.sc (.int .i64 a5),.sc (.int .i64 a6),.sc (.int .i64 a7),.sc (.int .i64 com),.sc (.int .i64 last),.sl 2 (os.map rowOb),.sl 4 (bs.map rowBd),.sl 2 (ps.map rowP),.sc (.int .i64 cap),.sl 3 (pg.map rowPg)],.sc (.int .i64 c)] (.sc (.bool (pinnedR ps c))) []:=by
 generalize hA:pinnedR ps c=A
 refine of_tri [] [2] Try.func119 rfl call119 rfl (by decide) (by decide) rfl rfl Try.ntmps119 (by simp (disch:=omega) only [seval,go_sem,cnd,intV,shV,convV,strV,List.replicate,l_2,l_1];rfl) (by simp (disch:=omega) only [seval,go_sem,cnd,intV,shV,convV,strV,l_2,l_1];rfl) ?_
 ((repeat' (first|(with_reducible (refine TVq (st:=[]) ?_))|simp only [seval,go_sem]))<;>(try (fail)))
 all_goals (with_reducible refine Tri.loopU (fun (k:Nat)=>[(5,.sc (.int .i64 k)),(4,.any),(6,.any),(7,.any),(8,.any),(9,.any),(10,.any),(11,.any),(12,.any),(13,.any),(14,.any),(15,.any),(16,.any),(17,.any),(18,.any),(19,.any),(20,.any)]) (fun (k:Nat)=>[]) (fun (k:Nat)=>k≤ps.length∧pinnedR (ps.drop k) c=A) (fun (k:Nat)=>ps.length-k) (0) (⟨Nat.zero_le _,by simpa only [List.drop_zero] using hA⟩) (by intro _;simp (disch:=omega) only [seval,go_sem,cnd,intV,shV,convV,strV];rfl) (by intro _;simp (disch:=omega) only [seval,go_sem,cnd,intV,shV,convV,strV];rfl) (by (refine leQL_spec ?_);(try simp only [seval,go_sem]);done) (by (refine leQH_spec ?_);(try simp only [seval,go_sem]);done) (fun k hI=>?_))
 all_goals obtain ⟨hk,hf⟩:=hI
 by_cases hlt:k<ps.length
 ·obtain ⟨q,hq⟩:=get_lt hlt
  have hq':=get_map rowP hq
  rw [drop_get hq,pinnedR,List.any_cons] at hf
  by_cases hc:q.commit=c
  ·rw [show (q.commit==c)=true by simp [hc],Bool.true_or] at hf
   rw [← hf]
   (all_goals (try have hZ:=(And.intro hq' hc));(repeat' (first|(with_reducible refine isRet ?_;refine RetV (rs:=[.tmp 4]) (by with_unfolding_all rfl) rfl ?_<;>simp only [seval,go_sem]<;>(repeat' (with_reducible apply And.intro))<;>(try rfl))|(with_reducible (refine TVq (st:=[]) ?_))|simp only [seval,go_sem,rowP,hZ]|(with_reducible refine oV_st (by simp (disch:=omega) only [seval,go_sem,cnd,intV,shV,convV,strV,rowP,hZ];rfl) ?_)))<;>(try (fail));all_goals (try clear hZ))
  ·rw [show (q.commit==c)=false by simp [hc],Bool.false_or] at hf
   ((repeat' (first|(with_reducible (refine TVq (st:=[]) ?_))|simp only [seval,go_sem,hq',rowP]|(with_reducible refine oV_st (by simp (disch:=omega) only [seval,go_sem,cnd,intV,shV,convV,strV,hq',rowP];rfl) ?_)))<;>(try (fail)))
   all_goals (try (refine isNextM (k+1) (by (refine leQL_spec ?_);(try simp only [seval,go_sem]);first|((repeat' (with_reducible apply And.intro))<;>first|rfl);done) (by (refine leQH_spec ?_);(try simp only [seval,go_sem]);done) ?_ ?_<;>(try (omega))))
   all_goals (try exact ⟨by omega,hf⟩)
 ·rw [List.drop_eq_nil_of_le (by omega)] at hf
  rw [show A=false from hf.symm]
  ((repeat' (first|(with_reducible refine isRet ?_;refine RetV (rs:=[.tmp 4]) (by with_unfolding_all rfl) rfl ?_<;>simp only [seval,go_sem]<;>(repeat' (with_reducible apply And.intro))<;>(try rfl))|(with_reducible (refine TVq (st:=[]) ?_))|simp only [seval,go_sem]|(with_reducible refine oV_st (by simp (disch:=omega) only [seval,go_sem,cnd,intV,shV,convV,strV];rfl) ?_)))<;>(try (fail)))
set_option maxRecDepth 100000 in set_option maxHeartbeats 3200000 in
theorem rvis_calls {a1 a2 a3 a4 a5 a6 a7 com last cap:Int} {os:List Ob} {bs:List Bd} {ps:List Pn} {pg:List Pg} {c:Int} (hl:ps.length≤100000):ACalls Try.prog 117 [.agg [.sc (.int .i64 a1),.sc (.int .i64 a2),.sc (.int .i64 a3),.sc (.int .i64 a4),.sc (.int .i64 a5),.sc (.int .i64 a6),.sc (.int .i64 a7),.sc (.int .i64 com),.sc (.int .i64 last),.sl 2 (os.map rowOb),.sl 4 (bs.map rowBd),.sl 2 (ps.map rowP),.sc (.int .i64 cap),.sl 3 (pg.map rowPg)],.sc (.int .i64 c)] (.sc (.int .i64 (visE ⟨⟨a1,a2,a3,a4,a5,a6,a7⟩,com,last,os,bs,ps,⟨cap,pg⟩⟩ c))) []:=by
 unfold visE
 simp only
 cases h1:inR c 0 com with
 | false=>
   rw [if_pos rfl]
   refine of_tri [] [2,8,17] Try.func117 rfl call117 rfl (by decide) (by decide) rfl rfl Try.ntmps117 (by simp (disch:=omega) only [seval,go_sem,cnd,intV,shV,convV,strV,List.replicate,l_2,l_1];rfl) (by simp (disch:=omega) only [seval,go_sem,cnd,intV,shV,convV,strV,l_2,l_1];rfl) ?_
   ((repeat' (first|((with_reducible refine isTriD ?_);((with_reducible refine isCallD ?_);((with_reducible refine LVcall (st:=[]) ?_);simp only [seval,go_sem,h1];(refine CallL.c (rwithin_calls) ?_))))|(with_reducible refine isRet ?_;refine RetV (rs:=[.tmp 4]) (by with_unfolding_all rfl) rfl ?_<;>simp only [seval,go_sem]<;>(repeat' (with_reducible apply And.intro))<;>(try rfl))|(with_reducible (refine TVq (st:=[]) ?_))|simp only [seval,go_sem,h1]))<;>(try (fail)))
 | true=>
   rw [if_neg (by decide)]
   have hpc:=rpinned_calls (a1:=a1) (a2:=a2) (a3:=a3) (a4:=a4) (a5:=a5) (a6:=a6) (a7:=a7) (com:=com) (last:=last) (cap:=cap) (os:=os) (bs:=bs) (ps:=ps) (pg:=pg) (c:=c) hl
   by_cases h2:c=com
   ·rw [if_neg (by simp [h2])]
    subst h2
    refine of_tri [] [2,8,17] Try.func117 rfl call117 rfl (by decide) (by decide) rfl rfl Try.ntmps117 (by simp (disch:=omega) only [seval,go_sem,cnd,intV,shV,convV,strV,List.replicate,l_2,l_1];rfl) (by simp (disch:=omega) only [seval,go_sem,cnd,intV,shV,convV,strV,l_2,l_1];rfl) ?_
    ((repeat' (first|((with_reducible refine isTriD ?_);((with_reducible refine isCallD ?_);((with_reducible refine LVcall (st:=[]) ?_);simp only [seval,go_sem,h1];(refine CallL.c (rwithin_calls) ?_))))|(with_reducible refine isRet ?_;refine RetV (rs:=[.tmp 4]) (by with_unfolding_all rfl) rfl ?_<;>simp only [seval,go_sem]<;>(repeat' (with_reducible apply And.intro))<;>(try rfl))|(with_reducible (refine TVq (st:=[]) ?_))|simp only [seval,go_sem,h1]|(with_reducible refine oV_st (by simp (disch:=omega) only [seval,go_sem,cnd,intV,shV,convV,strV,h1];rfl) ?_)))<;>(try (fail)))
   ·cases h3:pinnedR ps c with
    | false=>
      rw [if_pos ⟨h2,rfl⟩]
      rw [h3] at hpc
      refine of_tri [] [2,8,17] Try.func117 rfl call117 rfl (by decide) (by decide) rfl rfl Try.ntmps117 (by simp (disch:=omega) only [seval,go_sem,cnd,intV,shV,convV,strV,List.replicate,l_2,l_1];rfl) (by simp (disch:=omega) only [seval,go_sem,cnd,intV,shV,convV,strV,l_2,l_1];rfl) ?_
      ((repeat' (first|((with_reducible refine isTriD ?_);((with_reducible refine isCallD ?_);((with_reducible refine LVcall (st:=[]) ?_);simp only [seval,go_sem,h1];first|(refine CallL.c (hpc) ?_)|(refine CallL.c (rwithin_calls) ?_))))|(with_reducible refine isRet ?_;refine RetV (rs:=[.tmp 4]) (by with_unfolding_all rfl) rfl ?_<;>simp only [seval,go_sem]<;>(repeat' (with_reducible apply And.intro))<;>(try rfl))|(with_reducible (refine TVq (st:=[]) ?_))|simp only [seval,go_sem,h1]|(with_reducible refine oV_st (by simp (disch:=omega) only [seval,go_sem,cnd,intV,shV,convV,strV,h1];rfl) ?_)))<;>(try (fail)))
    | true=>
      rw [if_neg (by simp)]
      rw [h3] at hpc
      refine of_tri [] [2,8,17] Try.func117 rfl call117 rfl (by decide) (by decide) rfl rfl Try.ntmps117 (by simp (disch:=omega) only [seval,go_sem,cnd,intV,shV,convV,strV,List.replicate,l_2,l_1];rfl) (by simp (disch:=omega) only [seval,go_sem,cnd,intV,shV,convV,strV,l_2,l_1];rfl) ?_
      ((repeat' (first|((with_reducible refine isTriD ?_);((with_reducible refine isCallD ?_);((with_reducible refine LVcall (st:=[]) ?_);simp only [seval,go_sem,h1];first|(refine CallL.c (hpc) ?_)|(refine CallL.c (rwithin_calls) ?_))))|(with_reducible refine isRet ?_;refine RetV (rs:=[.tmp 4]) (by with_unfolding_all rfl) rfl ?_<;>simp only [seval,go_sem]<;>(repeat' (with_reducible apply And.intro))<;>(try rfl))|(with_reducible (refine TVq (st:=[]) ?_))|simp only [seval,go_sem,h1]|(with_reducible refine oV_st (by simp (disch:=omega) only [seval,go_sem,cnd,intV,shV,convV,strV,h1];rfl) ?_)))<;>(try (fail)))
set_option maxRecDepth 100000 in set_option maxHeartbeats 3200000 in
theorem rbound_calls {a1 a2 a3 a4 a5 a6 a7 com last cap:Int} {os:List Ob} {bs:List Bd} {ps:List Pn} {pg:List Pg} {n:ByteArray} (hl:bs.length≤100000):ACalls Try.prog 104 [.agg [.sc (.int .i64 a1),.sc (.int .i64 a2),.sc (.int .i64 a3),.sc (.int .i64 a4),.sc (.int .i64 a5),.sc (.int .i64 a6),.sc (.int .i64 a7),.sc (.int .i64 com),.sc (.int .i64 last),.sl 2 (os.map rowOb),.sl 4 (bs.map rowBd),.sl 2 (ps.map rowP),.sc (.int .i64 cap),.sl 3 (pg.map rowPg)],.sc (.string n)] (.sc (.bool (lookB n com bs).2)) []:=by
 have hlc:=rlook_calls (l:=bs) (n:=n) (c:=com) hl
 refine of_tri [] [2,13] Try.func104 rfl call104 rfl (by decide) (by decide) rfl rfl Try.ntmps104 (by simp (disch:=omega) only [seval,go_sem,cnd,intV,shV,convV,strV,List.replicate,l_2,l_1];rfl) (by simp (disch:=omega) only [seval,go_sem,cnd,intV,shV,convV,strV,l_2,l_1];rfl) ?_
 ((repeat' (first|((with_reducible refine isTriD ?_);((with_reducible refine isCallD ?_);((with_reducible refine LVcall (st:=[]) ?_);simp only [seval,go_sem];(refine CallL.c (hlc) ?_))))|(with_reducible refine isRet ?_;refine RetV (rs:=[.tmp 4]) (by with_unfolding_all rfl) rfl ?_<;>simp only [seval,go_sem]<;>(repeat' (with_reducible apply And.intro))<;>(try rfl))|(with_reducible (refine TVq (st:=[]) ?_))|simp only [seval,go_sem]))<;>(try (fail)))
set_option maxRecDepth 100000 in set_option maxHeartbeats 3200000 in
theorem rlive_calls {a1 a2 a3 a4 a5 a6 a7 com last cap:Int} {os:List Ob} {bs:List Bd} {ps:List Pn} {pg:List Pg} (hl:pg.length≤100000):ACalls Try.prog 106 [.agg [.sc (.int .i64 a1),.sc (.int .i64 a2),.sc (.int .i64 a3),.sc (.int .i64 a4),.sc (.int .i64 a5),.sc (.int .i64 a6),.sc (.int .i64 a7),.sc (.int .i64 com),.sc (.int .i64 last),.sl 2 (os.map rowOb),.sl 4 (bs.map rowBd),.sl 2 (ps.map rowP),.sc (.int .i64 cap),.sl 3 (pg.map rowPg)]] (.sc (.int .i64 (pg.length:Int))) []:=by
 refine of_tri [] [1] Try.func106 rfl call106 rfl (by decide) (by decide) rfl rfl Try.ntmps106 (by simp (disch:=omega) only [seval,go_sem,cnd,intV,shV,convV,strV,List.replicate,l_2,l_1];rfl) (by simp (disch:=omega) only [seval,go_sem,cnd,intV,shV,convV,strV,l_2,l_1];rfl) ?_
 ((repeat' (first|(with_reducible refine isRet ?_;refine RetV (rs:=[.tmp 2]) (by with_unfolding_all rfl) rfl ?_<;>simp only [seval,go_sem]<;>(repeat' (with_reducible apply And.intro))<;>(try rfl))|(with_reducible (refine TVq (st:=[]) ?_))|simp only [seval,go_sem]))<;>(try (fail)))
set_option maxRecDepth 100000 in set_option maxHeartbeats 6400000 in
theorem rnew19_calls {a1 a2 a3 a4 a5 a6 a7:Int}:ACalls Try.prog 28 [.agg [.sc (.int .i64 a1),.sc (.int .i64 a2),.sc (.int .i64 a3),.sc (.int .i64 a4),.sc (.int .i64 a5),.sc (.int .i64 a6),.sc (.int .i64 a7)]] (.tup [.agg (dSr (newR ⟨a1,a2,a3,a4,a5,a6,a7⟩).1),.sc (.int .i64 (newR ⟨a1,a2,a3,a4,a5,a6,a7⟩).2)]) []:=by
 have hcc:=rcfg_calls (a:=a1) (b:=a2) (c:=a3) (d:=a4) (e:=a5) (f:=a6) (g:=a7)
 unfold newR
 cases h:cfOk ⟨a1,a2,a3,a4,a5,a6,a7⟩ with
 | false=>
   rw [if_pos rfl]
   rw [h] at hcc
   simp only [dSr,l_4]
   refine of_tri [] [1,2,6] Try.func28 rfl call28 rfl (by decide) (by decide) rfl rfl Try.ntmps28 (by simp (disch:=omega) only [seval,go_sem,cnd,intV,shV,convV,strV,List.replicate,l_2,l_1];rfl) (by simp (disch:=omega) only [seval,go_sem,cnd,intV,shV,convV,strV,l_2,l_1];rfl) ?_
   ((repeat' (first|((with_reducible refine isTriD ?_);((with_reducible refine isCallD ?_);((with_reducible refine LVcall (st:=[]) ?_);simp only [seval,go_sem];(refine CallL.c (hcc) ?_))))|(with_reducible refine isRet ?_;refine RetV (rs:=[.cell 2 32,.tmp 3]) (by with_unfolding_all rfl) rfl ?_<;>simp only [seval,go_sem]<;>(repeat' (with_reducible apply And.intro))<;>(try rfl))|(with_reducible (refine TVq (st:=[]) ?_))|simp only [seval,go_sem]|(with_reducible refine oV_st (by simp (disch:=omega) only [seval,go_sem,cnd,intV,shV,convV,strV];rfl) ?_)))<;>(try (fail)))
 | true=>
   rw [if_neg (by decide)]
   rw [h] at hcc
   simp only [dSr,l_4]
   refine of_tri [] [1,2,6] Try.func28 rfl call28 rfl (by decide) (by decide) rfl rfl Try.ntmps28 (by simp (disch:=omega) only [seval,go_sem,cnd,intV,shV,convV,strV,List.replicate,l_2,l_1];rfl) (by simp (disch:=omega) only [seval,go_sem,cnd,intV,shV,convV,strV,l_2,l_1];rfl) ?_
   ((repeat' (first|((with_reducible refine isTriD ?_);((with_reducible refine isCallD ?_);((with_reducible refine LVcall (st:=[]) ?_);simp only [seval,go_sem];(refine CallL.c (hcc) ?_))))|(with_reducible refine isRet ?_;refine RetV (rs:=[.cell 2 32,.tmp 3]) (by with_unfolding_all rfl) rfl ?_<;>simp only [seval,go_sem]<;>(repeat' (with_reducible apply And.intro))<;>(try rfl))|(with_reducible (refine TVq (st:=[]) ?_))|simp only [seval,go_sem]|(with_reducible refine oV_st (by simp (disch:=omega) only [seval,go_sem,cnd,intV,shV,convV,strV];rfl) ?_)))<;>(try (fail)))
set_option maxRecDepth 100000 in set_option maxHeartbeats 6400000 in
theorem rstored_calls {a1 a2 a3 a4 a5 a6 a7 com last cap:Int} {os:List Ob} {bs:List Bd} {ps:List Pn} {pg:List Pg} {f t z:Int} {vp:List Int} (hl:pg.length≤100000) (hd: ∀ p∈pg,p.data.length≤1000000) (hv:vp.length≤1000000):ACalls Try.prog 111 [.agg [.sc (.int .i64 a1),.sc (.int .i64 a2),.sc (.int .i64 a3),.sc (.int .i64 a4),.sc (.int .i64 a5),.sc (.int .i64 a6),.sc (.int .i64 a7),.sc (.int .i64 com),.sc (.int .i64 last),.sl 2 (os.map rowOb),.sl 4 (bs.map rowBd),.sl 2 (ps.map rowP),.sc (.int .i64 cap),.sl 3 (pg.map rowPg)],.agg [.sc (.int .i64 f),.sc (.int .i64 t),.sc (.int .i64 z),.sl 1 (vp.map rowI)]] (.sl 1 ((storedR ⟨cap,pg⟩ vp).map rowL)) []:=by
 refine of_tri [] [2,3,24,29,30] Try.func111 rfl call111 rfl (by decide) (by decide) rfl rfl Try.ntmps111 (by simp (disch:=omega) only [seval,go_sem,cnd,intV,shV,convV,strV,List.replicate,l_2,l_1];rfl) (by simp (disch:=omega) only [seval,go_sem,cnd,intV,shV,convV,strV,l_2,l_1];rfl) ?_
 ((repeat' (first|(with_reducible (refine TVq (st:=[]) ?_))|simp only [seval,go_sem]))<;>(try (fail)))
 all_goals (refine Tri.bx 2 (by simp only [seval,go_sem];rfl) (by simp only [seval,go_sem];first|done|rfl) (by simp only [seval,go_sem];rfl) ?_)
 all_goals (refine Tri.bx 3 (by simp only [seval,go_sem];rfl) (by simp only [seval,go_sem];first|done|rfl) (by simp only [seval,go_sem];rfl) ?_)
 all_goals (refine Tri.virt 5 30 1 (by first|(simp only [seval,go_sem];done)) (by first|(simp only [seval,go_sem];done)) (by simp only [seval,go_sem];rfl) ?_)
 all_goals (with_reducible refine Tri.loopU (fun (t:Nat×List (List Int))=>[(6,.sc (.int .i64 t.1)),(5,.slo 30 1 0 t.2.length),(7,.any),(8,.any),(9,.any),(10,.any),(11,.any),(12,.any),(13,.any),(14,.any),(15,.any),(16,.any),(17,.any),(18,.any),(19,.any),(20,.any),(21,.any),(22,.any),(23,.any),(24,.any),(25,.any),(26,.any),(27,.any),(28,.any),(29,.any),(30,.any)]) (fun (t:Nat×List (List Int))=>[(30,.row 1 (t.2.map rowL)),(24,.dead),(29,.dead)]) (fun (t:Nat×List (List Int))=>t.1≤vp.length∧t.2.length=t.1∧t.2++storedR ⟨cap,pg⟩ (vp.drop t.1)=storedR ⟨cap,pg⟩ vp) (fun (t:Nat×List (List Int))=>vp.length-t.1) ((0,[])) (⟨Nat.zero_le _,rfl,by simp⟩) (by intro _;simp (disch:=omega) only [seval,go_sem,cnd,intV,shV,convV,strV];rfl) (by intro _;simp (disch:=omega) only [seval,go_sem,cnd,intV,shV,convV,strV];rfl) (by (refine leQL_spec ?_);(try simp only [seval,go_sem]);done) (by (refine leQH_spec ?_);(try simp only [seval,go_sem]);done) (fun t hI=>?_))
 all_goals
  obtain ⟨k,a⟩:=t
  obtain ⟨hk,hal,hf⟩:=hI
  simp only at hk hal hf
  have hll:(a.map rowL).length=a.length:=List.length_map _
  by_cases hlt:k<vp.length
  ·obtain ⟨n,hn⟩:=get_lt hlt
   have hn':=get_map rowI hn
   have hdc:=rdata_calls (c:=cap) (n:=n) (l:=pg) hl hd
   rw [drop_get hn,storedR,l_3] at hf
   generalize dataR ⟨cap,pg⟩ n=DR at hdc hf
   (all_goals (try have hZ:=(And.intro hn' hll));(repeat' (first|(with_reducible refine ListD.nil ?_)|((with_reducible refine isListD ?_);first|(with_reducible refine ListD.step (by simp only [seval,go_sem,rowI,hZ];rfl) ?_)|((with_reducible refine isCallV ?_);((with_reducible (refine ListD.dE (by simp only [seval,go_sem,rowI,hZ];rfl) (by simp only [seval,go_sem,rowI,hZ];rfl) ?_));refine CallW.c (hdc) (by simp only [seval,go_sem,rowI,hZ];rfl) ?_))|(with_reducible refine ListD.step (by simp (disch:=omega) only [seval,go_sem,cnd,intV,shV,convV,strV,rowI,hZ];rfl) ?_))|(with_reducible refine isDrawn ?_;refine Tri.drawnD mix (by kernel_rfl) (by simp only [l_3,l_4];rfl) ?_)|(with_reducible (refine TVq (st:=[]) ?_))|simp only [seval,go_sem,rowI,hZ]|(with_reducible refine oV_st (by simp (disch:=omega) only [seval,go_sem,cnd,intV,shV,convV,strV,rowI,hZ];rfl) ?_)))<;>(try (fail));all_goals (try clear hZ))
   all_goals (try (refine isNextM ((k+1,a++[DR.1])) (by (refine leQL_spec ?_);(try simp only [seval,go_sem,rowL]);first|((repeat' (with_reducible apply And.intro))<;>first|rfl|(simp [rowL];done));done) (by (refine leQH_spec ?_);(try simp only [seval,go_sem,rowL]);first|((repeat' (with_reducible apply And.intro))<;>first|(simp [rowL];done));done) ?_ ?_<;>(try (omega))))
   all_goals (try exact ⟨by simp only;omega,by simp only [List.length_append,List.length_cons,List.length_nil];omega,by simp only [List.append_assoc,List.cons_append,List.nil_append];exact hf⟩)
  ·rw [List.drop_eq_nil_of_le (by omega),show storedR ⟨cap,pg⟩ []=[] from rfl,List.append_nil] at hf
   rw [← hf]
   have htk:(a.map rowL).take a.length=a.map rowL:=List.take_of_length_le (by rw [hll];exact Nat.le_refl _)
   (all_goals (try have hZ:=(And.intro hll htk));(repeat' (first|(with_reducible refine isRet ?_;(refine RetOK.frz 30 (by simp only [seval,go_sem];rfl) (by simp only [seval,go_sem,hZ];rfl) ?_);(with_reducible refine isRet ?_;refine RetOK.q rfl rfl (by simp only [seval,go_sem];rfl) (by decide) (by simp only [seval,go_sem];rfl) (by simp only [seval,go_sem];rfl) rfl ?_<;>(try simp only [seval,go_sem,hZ])<;>(repeat' (with_reducible apply And.intro))<;>(try rfl)))|(with_reducible (refine TVq (st:=[]) ?_))|simp only [seval,go_sem,hZ]|(with_reducible refine oV_st (by simp (disch:=omega) only [seval,go_sem,cnd,intV,shV,convV,strV,hZ];rfl) ?_)))<;>(try (fail));all_goals (try clear hZ))
end Go.Proofs.Ytmgodadmafcliaa
/- The reference's store: the version of a name; Pin, Unpin, Rename, Drop; the walks. -/
set_option linter.unusedSimpArgs false
set_option linter.unusedVariables false
namespace Go.Proofs.Ytmgodadmafcliaa
open Go.RowKit Go.Avm
theorem objAt_split (n:Int) (l:List Ob):(objAt n l 0 = -1)∨ ∃ (j:Nat) (o:Ob),l[j]? = some o∧j<l.length∧objAt n l 0=(j:Int)∧obGet l (objAt n l 0)=o:=by
 rcases objAt_cases n l 0 with ⟨h,_⟩|⟨j,p,h1,h2,h3,_⟩
 ·exact .inl h
 ·rw [Nat.zero_add] at h3
  exact .inr ⟨j,p,h1,(List.getElem?_eq_some_iff.1 h1).1,h3,by simp [obGet,h3,h1]⟩
theorem findN_split (c:Int): ∀ (l:List Ver) (i:Nat),(findN c l i=(0,false))∨ ∃ (k:Nat) (v:Ver),l[k]? = some v∧findN c l i=(((i+k:Nat):Int),true)
 | [],_=> .inl rfl
 | v::l,i=>by
   rw [findN]
   split
   ·exact .inr ⟨0,v,rfl,rfl⟩
   ·rcases findN_split c l (i+1) with h|⟨k,u,h1,h2⟩
    ·exact .inl h
    ·exact .inr ⟨k+1,u,by simpa using h1,by rw [h2,show i+1+k=i+(k+1) by omega]⟩
/-- How the version of a name is found. -/
theorem verR_split (s:Sr) (n:ByteArray) (c:Int):(verR s n c=(0,zeroV,false)∧((lookB n c s.binds).2=false∨((lookB n c s.binds).2=true∧(objAt (lookB n c s.binds).1 s.objs 0 = -1∨ ∃ (j:Nat) (o:Ob),s.objs[j]? = some o∧j<s.objs.length∧objAt (lookB n c s.binds).1 s.objs 0=(j:Int)∧findN c o.vers 0=(0,false)))))∨
  ∃ (j k:Nat) (o:Ob) (v:Ver),(lookB n c s.binds).2=true∧s.objs[j]? = some o∧j<s.objs.length∧objAt (lookB n c s.binds).1 s.objs 0=(j:Int)∧o.vers[k]? = some v∧k<o.vers.length∧findN c o.vers 0=((k:Int),true)∧verR s n c=((j:Int),v,true):=by
 unfold verR
 cases h1:(lookB n c s.binds).2 with
 | false=>exact .inl ⟨if_pos (.inl rfl), .inl rfl⟩
 | true=>
   rcases objAt_split (lookB n c s.binds).1 s.objs with h2|⟨j,o,q1,q2,q3,q4⟩
   ·exact .inl ⟨if_pos (.inr (by rw [h2];omega)), .inr ⟨rfl, .inl h2⟩⟩
   ·rw [if_neg (by rw [q3];simp),q4]
    rcases findN_split c o.vers 0 with h3|⟨k,v,h3,h4⟩
    ·exact .inl ⟨if_pos (by rw [h3]), .inr ⟨rfl, .inr ⟨j,o,q1,q2,q3,h3⟩⟩⟩
    ·rw [Nat.zero_add] at h4
     refine .inr ⟨j,k,o,v,rfl,q1,q2,q3,h3,(List.getElem?_eq_some_iff.1 h3).1,h4,?_⟩
     rw [if_neg (by rw [h4];simp),q3,h4]
     simp [verGet,h3]
set_option maxRecDepth 100000 in set_option maxHeartbeats 6400000 in
theorem rver_calls {a1 a2 a3 a4 a5 a6 a7 com last cap:Int} {os:List Ob} {bs:List Bd} {ps:List Pn} {pg:List Pg} {n:ByteArray} {c:Int} (hb:bs.length≤100000) (ho:os.length≤100000) (hv: ∀ o∈os,o.vers.length≤100000):ACalls Try.prog 109 [.agg [.sc (.int .i64 a1),.sc (.int .i64 a2),.sc (.int .i64 a3),.sc (.int .i64 a4),.sc (.int .i64 a5),.sc (.int .i64 a6),.sc (.int .i64 a7),.sc (.int .i64 com),.sc (.int .i64 last),.sl 2 (os.map rowOb),.sl 4 (bs.map rowBd),.sl 2 (ps.map rowP),.sc (.int .i64 cap),.sl 3 (pg.map rowPg)],.sc (.string n),.sc (.int .i64 c)] (.tup [.sc (.int .i64 (verR ⟨⟨a1,a2,a3,a4,a5,a6,a7⟩,com,last,os,bs,ps,⟨cap,pg⟩⟩ n c).1),.agg (rowV (verR ⟨⟨a1,a2,a3,a4,a5,a6,a7⟩,com,last,os,bs,ps,⟨cap,pg⟩⟩ n c).2.1),.sc (.bool (verR ⟨⟨a1,a2,a3,a4,a5,a6,a7⟩,com,last,os,bs,ps,⟨cap,pg⟩⟩ n c).2.2)]) []:=by
 have hlc:=rlook_calls (l:=bs) (n:=n) (c:=c) hb
 have hoc:=robj_calls (l:=os) (n:=(lookB n c bs).1) ho
 rcases verR_split ⟨⟨a1,a2,a3,a4,a5,a6,a7⟩,com,last,os,bs,ps,⟨cap,pg⟩⟩ n c with ⟨e,h⟩|⟨j,k,o,v,h1,q1,q2,q3,q4,q5,q6,e⟩
 ·rw [e]
  simp only at h
  simp only [rowV,zeroV,l_4]
  generalize lookB n c bs=L at *
  obtain ⟨Li,Lb⟩:=L
  simp only at h hoc hlc
  rcases h with h|⟨h,h2|⟨j,o,q1,q2,q3,q4⟩⟩
  ·subst h
   refine of_tri [] [3,7,19,25,41] Try.func109 rfl call109 rfl (by decide) (by decide) rfl rfl Try.ntmps109 (by simp (disch:=omega) only [seval,go_sem,cnd,intV,shV,convV,strV,List.replicate,l_2,l_1];rfl) (by simp (disch:=omega) only [seval,go_sem,cnd,intV,shV,convV,strV,l_2,l_1];rfl) ?_
   ((repeat' (first|((with_reducible refine isTriD ?_);((with_reducible refine isCallD ?_);((with_reducible refine LVcall (st:=[]) ?_);simp only [seval,go_sem];first|(refine CallL.c (hlc) ?_)|(refine CallL.c (hoc) ?_))))|(with_reducible refine isRet ?_;refine RetV (rs:=[.tmp 6,.cell 7 86,.tmp 8]) (by with_unfolding_all rfl) rfl ?_<;>simp only [seval,go_sem]<;>(repeat' (with_reducible apply And.intro))<;>(try rfl))|(with_reducible (refine TVq (st:=[]) ?_))|simp only [seval,go_sem]))<;>(try (fail)))
  ·subst h
   rw [h2] at hoc
   refine of_tri [] [3,7,19,25,41] Try.func109 rfl call109 rfl (by decide) (by decide) rfl rfl Try.ntmps109 (by simp (disch:=omega) only [seval,go_sem,cnd,intV,shV,convV,strV,List.replicate,l_2,l_1];rfl) (by simp (disch:=omega) only [seval,go_sem,cnd,intV,shV,convV,strV,l_2,l_1];rfl) ?_
   ((repeat' (first|((with_reducible refine isTriD ?_);((with_reducible refine isCallD ?_);((with_reducible refine LVcall (st:=[]) ?_);simp only [seval,go_sem];first|(refine CallL.c (hlc) ?_)|(refine CallL.c (hoc) ?_))))|(with_reducible refine isRet ?_;refine RetV (rs:=[.tmp 6,.cell 7 86,.tmp 8]) (by with_unfolding_all rfl) rfl ?_<;>simp only [seval,go_sem]<;>(repeat' (with_reducible apply And.intro))<;>(try rfl))|(with_reducible (refine TVq (st:=[]) ?_))|simp only [seval,go_sem]|(with_reducible refine oV_st (by simp (disch:=omega) only [seval,go_sem,cnd,intV,shV,convV,strV];rfl) ?_)))<;>(try (fail)))
  ·subst h
   rw [q3] at hoc
   have q1':=get_map rowOb q1
   have hfc:=rfind_calls (vs:=o.vers) (c:=c) (hv o (List.mem_of_getElem? q1))
   rw [q4] at hfc
   refine of_tri [] [3,7,19,25,41] Try.func109 rfl call109 rfl (by decide) (by decide) rfl rfl Try.ntmps109 (by simp (disch:=omega) only [seval,go_sem,cnd,intV,shV,convV,strV,List.replicate,l_2,l_1];rfl) (by simp (disch:=omega) only [seval,go_sem,cnd,intV,shV,convV,strV,l_2,l_1];rfl) ?_
   ((repeat' (first|((with_reducible refine isTriD ?_);((with_reducible refine isCallD ?_);((with_reducible refine LVcall (st:=[]) ?_);simp only [seval,go_sem,q1',rowOb];first|(refine CallL.c (hlc) ?_)|(refine CallL.c (hoc) ?_)|(refine CallL.c (hfc) ?_))))|(with_reducible refine isRet ?_;refine RetV (rs:=[.tmp 6,.cell 7 86,.tmp 8]) (by with_unfolding_all rfl) rfl ?_<;>simp only [seval,go_sem]<;>(repeat' (with_reducible apply And.intro))<;>(try rfl))|(with_reducible (refine TVq (st:=[]) ?_))|simp only [seval,go_sem,q1',rowOb]|(with_reducible refine oV_st (by simp (disch:=omega) only [seval,go_sem,cnd,intV,shV,convV,strV,q1',rowOb];rfl) ?_)))<;>(try (fail)))
 ·rw [e]
  simp only at h1 q1 q2 q3
  simp only [rowV]
  generalize lookB n c bs=L at *
  obtain ⟨Li,Lb⟩:=L
  simp only at h1 hoc hlc q3
  subst h1
  rw [q3] at hoc
  have q1':=get_map rowOb q1
  have q4':=get_map rowV q4
  have hfc:=rfind_calls (vs:=o.vers) (c:=c) (hv o (List.mem_of_getElem? q1))
  rw [q6] at hfc
  refine of_tri [] [3,7,19,25,41] Try.func109 rfl call109 rfl (by decide) (by decide) rfl rfl Try.ntmps109 (by simp (disch:=omega) only [seval,go_sem,cnd,intV,shV,convV,strV,List.replicate,l_2,l_1];rfl) (by simp (disch:=omega) only [seval,go_sem,cnd,intV,shV,convV,strV,l_2,l_1];rfl) ?_
  ((repeat' (first|((with_reducible refine isTriD ?_);first|((with_reducible refine isCallD ?_);((with_reducible refine LVcall (st:=[]) ?_);simp only [seval,go_sem,q1',q4',rowOb,rowV];first|(refine CallL.c (hlc) ?_)|(refine CallL.c (hoc) ?_)|(refine CallL.c (hfc) ?_)))|((with_reducible first|refine TriD.step (by simp only [seval,go_sem,q1',q4',rowOb,rowV];rfl) ?_);refine LVs (st:=[]) ?_))|(with_reducible refine isDrawnN 8 ?_;refine Tri.mixedP 8 mix 13 rfl (.f 0 <| .f 1 <| .f 3 <| .f 7 <| .f 10 <| .a <| .b 2 (.f 4 <| .f 5 <| .a <| .b 6 (.f 8 <| .a <| .b 9 (.a <| .b 11 (.f 12 <| .d) .e) .e) .e) .e) (by kernel_rfl) ?_)|(with_reducible refine isAnyP ?_;first|refine AnyP.D ?_|refine AnyP.F (by simp only [seval,go_sem,l_7,l_6];rfl) (by first|(simp only [seval,go_sem,q1',q4',rowOb,rowV];done)) (by first|(simp only [seval,go_sem,q1',q4',rowOb,rowV];with_reducible rfl)|(simp (disch:=omega) only [seval,go_sem,cnd,intV,shV,convV,strV,q1',q4',rowOb,rowV];with_reducible rfl)) ?_|refine AnyP.A ?_)|(with_reducible first|exact NextsP.E|refine NextsP.B (by simp only [seval,go_sem,l_7,l_6];rfl) ?_ ?_)|(with_reducible refine isRet ?_;refine RetV (rs:=[.tmp 6,.cell 7 86,.tmp 8]) (by with_unfolding_all rfl) rfl ?_<;>simp only [seval,go_sem]<;>(repeat' (with_reducible apply And.intro))<;>(try rfl))|(with_reducible (refine TVq (st:=[]) ?_))|simp only [seval,go_sem,q1',q4',rowOb,rowV]|(with_reducible refine oV_st (by simp (disch:=omega) only [seval,go_sem,cnd,intV,shV,convV,strV,q1',q4',rowOb,rowV];rfl) ?_)))<;>(try (fail)))
set_option maxRecDepth 100000 in set_option maxHeartbeats 6400000 in
theorem rpin_calls {a1 a2 a3 a4 a5 a6 a7 com last cap:Int} {os:List Ob} {bs:List Bd} {ps:List Pn} {pg:List Pg} {c:Int} (hl:ps.length≤100000):ACalls Try.prog 71 [.agg [.sc (.int .i64 a1),.sc (.int .i64 a2),.sc (.int .i64 a3),.sc (.int .i64 a4),.sc (.int .i64 a5),.sc (.int .i64 a6),.sc (.int .i64 a7),.sc (.int .i64 com),.sc (.int .i64 last),.sl 2 (os.map rowOb),.sl 4 (bs.map rowBd),.sl 2 (ps.map rowP),.sc (.int .i64 cap),.sl 3 (pg.map rowPg)],.sc (.int .i64 c)] (.tup [.agg (dSr (pinR ⟨⟨a1,a2,a3,a4,a5,a6,a7⟩,com,last,os,bs,ps,⟨cap,pg⟩⟩ c).1),.sc (.int .i64 (pinR ⟨⟨a1,a2,a3,a4,a5,a6,a7⟩,com,last,os,bs,ps,⟨cap,pg⟩⟩ c).2)]) []:=by
 have hvc:=rvis_calls (a1:=a1) (a2:=a2) (a3:=a3) (a4:=a4) (a5:=a5) (a6:=a6) (a7:=a7) (com:=com) (last:=last) (cap:=cap) (os:=os) (bs:=bs) (ps:=ps) (pg:=pg) (c:=c) hl
 have htc:=rtotal_calls (l:=ps) hl
 have hac:=raddp_val (l:=ps) (c:=c) hl
 unfold pinR
 generalize visE ⟨⟨a1,a2,a3,a4,a5,a6,a7⟩,com,last,os,bs,ps,⟨cap,pg⟩⟩ c=E at *
 by_cases h1:E≠0
 ·rw [if_pos h1]
  simp only [dSr]
  refine of_tri [] [2,4,9,16,26] Try.func71 rfl call71 rfl (by decide) (by decide) rfl rfl Try.ntmps71 (by simp (disch:=omega) only [seval,go_sem,cnd,intV,shV,convV,strV,List.replicate,l_2,l_1];rfl) (by simp (disch:=omega) only [seval,go_sem,cnd,intV,shV,convV,strV,l_2,l_1];rfl) ?_
  ((repeat' (first|((with_reducible refine isTriD ?_);((with_reducible refine isCallD ?_);((with_reducible refine LVcall (st:=[]) ?_);simp only [seval,go_sem];(refine CallL.c (hvc) ?_))))|(with_reducible refine isRet ?_;refine RetV (rs:=[.cell 4 32,.tmp 5]) (by with_unfolding_all rfl) rfl ?_<;>simp only [seval,go_sem]<;>(repeat' (with_reducible apply And.intro))<;>(try rfl))|(with_reducible (refine TVq (st:=[]) ?_))|simp only [seval,go_sem]|(with_reducible refine oV_st (by simp (disch:=omega) only [seval,go_sem,cnd,intV,shV,convV,strV];rfl) ?_)))<;>(try (fail)))
 ·rw [if_neg h1]
  have h1':E=0:=by simpa using h1
  subst h1'
  simp only
  by_cases h2:a5≤totalP ps 0
  ·rw [if_pos h2]
   simp only [dSr]
   refine of_tri [] [2,4,9,16,26] Try.func71 rfl call71 rfl (by decide) (by decide) rfl rfl Try.ntmps71 (by simp (disch:=omega) only [seval,go_sem,cnd,intV,shV,convV,strV,List.replicate,l_2,l_1];rfl) (by simp (disch:=omega) only [seval,go_sem,cnd,intV,shV,convV,strV,l_2,l_1];rfl) ?_
   ((repeat' (first|((with_reducible refine isTriD ?_);((with_reducible refine isCallD ?_);((with_reducible refine LVcall (st:=[]) ?_);simp only [seval,go_sem];(refine CallL.c (hvc) ?_))))|(with_reducible refine ListD.nil ?_)|((with_reducible refine isListD ?_);first|(with_reducible refine ListD.step (by simp only [seval,go_sem];rfl) ?_)|((with_reducible refine isCallV ?_);((with_reducible (refine ListD.dE (by simp only [seval,go_sem];rfl) (by simp only [seval,go_sem];rfl) ?_));refine CallW.c (htc) (by simp only [seval,go_sem];rfl) ?_))|(with_reducible refine ListD.step (by simp (disch:=omega) only [seval,go_sem,cnd,intV,shV,convV,strV];rfl) ?_))|(with_reducible refine isDrawn ?_;refine Tri.drawnD mix (by kernel_rfl) (by simp only [l_3,l_4];rfl) ?_)|(with_reducible refine isRet ?_;refine RetV (rs:=[.cell 4 32,.tmp 5]) (by with_unfolding_all rfl) rfl ?_<;>simp only [seval,go_sem]<;>(repeat' (with_reducible apply And.intro))<;>(try rfl))|(with_reducible (refine TVq (st:=[]) ?_))|simp only [seval,go_sem]|(with_reducible refine oV_st (by simp (disch:=omega) only [seval,go_sem,cnd,intV,shV,convV,strV];rfl) ?_)))<;>(try (fail)))
  ·rw [if_neg h2]
   simp only [dSr]
   refine of_tri [] [2,4,9,16,26] Try.func71 rfl call71 rfl (by decide) (by decide) rfl rfl Try.ntmps71 (by simp (disch:=omega) only [seval,go_sem,cnd,intV,shV,convV,strV,List.replicate,l_2,l_1];rfl) (by simp (disch:=omega) only [seval,go_sem,cnd,intV,shV,convV,strV,l_2,l_1];rfl) ?_
   ((repeat' (first|((with_reducible refine isTriD ?_);((with_reducible refine isCallD ?_);((with_reducible refine LVcall (st:=[]) ?_);simp only [seval,go_sem];first|(refine CallL.c (hvc) ?_)|(refine CallL.c (hac) ?_))))|(with_reducible refine ListD.nil ?_)|((with_reducible refine isListD ?_);first|(with_reducible refine ListD.step (by simp only [seval,go_sem];rfl) ?_)|((with_reducible refine isCallV ?_);((with_reducible (refine ListD.dE (by simp only [seval,go_sem];rfl) (by simp only [seval,go_sem];rfl) ?_));refine CallW.c (htc) (by simp only [seval,go_sem];rfl) ?_))|(with_reducible refine ListD.step (by simp (disch:=omega) only [seval,go_sem,cnd,intV,shV,convV,strV];rfl) ?_))|(with_reducible refine isDrawn ?_;refine Tri.drawnD mix (by kernel_rfl) (by simp only [l_3,l_4];rfl) ?_)|(with_reducible refine isRet ?_;refine RetV (rs:=[.cell 4 32,.tmp 5]) (by with_unfolding_all rfl) rfl ?_<;>simp only [seval,go_sem]<;>(repeat' (with_reducible apply And.intro))<;>(try rfl))|(with_reducible (refine TVq (st:=[]) ?_))|simp only [seval,go_sem]|(with_reducible refine oV_st (by simp (disch:=omega) only [seval,go_sem,cnd,intV,shV,convV,strV];rfl) ?_)))<;>(try (fail)))
set_option maxRecDepth 100000 in set_option maxHeartbeats 6400000 in
theorem runpin_calls {a1 a2 a3 a4 a5 a6 a7 com last cap:Int} {os:List Ob} {bs:List Bd} {ps:List Pn} {pg:List Pg} {c:Int} (hl:ps.length≤100000):ACalls Try.prog 72 [.agg [.sc (.int .i64 a1),.sc (.int .i64 a2),.sc (.int .i64 a3),.sc (.int .i64 a4),.sc (.int .i64 a5),.sc (.int .i64 a6),.sc (.int .i64 a7),.sc (.int .i64 com),.sc (.int .i64 last),.sl 2 (os.map rowOb),.sl 4 (bs.map rowBd),.sl 2 (ps.map rowP),.sc (.int .i64 cap),.sl 3 (pg.map rowPg)],.sc (.int .i64 c)] (.tup [.agg (dSr (unpinR ⟨⟨a1,a2,a3,a4,a5,a6,a7⟩,com,last,os,bs,ps,⟨cap,pg⟩⟩ c).1),.sc (.int .i64 (unpinR ⟨⟨a1,a2,a3,a4,a5,a6,a7⟩,com,last,os,bs,ps,⟨cap,pg⟩⟩ c).2)]) []:=by
 have hpc:=rpinned_calls (a1:=a1) (a2:=a2) (a3:=a3) (a4:=a4) (a5:=a5) (a6:=a6) (a7:=a7) (com:=com) (last:=last) (cap:=cap) (os:=os) (bs:=bs) (ps:=ps) (pg:=pg) (c:=c) hl
 have hrc:=rremp_val (l:=ps) (c:=c) hl
 unfold unpinR
 simp only
 cases h1:pinnedR ps c with
 | false=>
   rw [if_pos rfl]
   rw [h1] at hpc
   simp only [dSr]
   refine of_tri [] [2,4,8,15] Try.func72 rfl call72 rfl (by decide) (by decide) rfl rfl Try.ntmps72 (by simp (disch:=omega) only [seval,go_sem,cnd,intV,shV,convV,strV,List.replicate,l_2,l_1];rfl) (by simp (disch:=omega) only [seval,go_sem,cnd,intV,shV,convV,strV,l_2,l_1];rfl) ?_
   ((repeat' (first|((with_reducible refine isTriD ?_);((with_reducible refine isCallD ?_);((with_reducible refine LVcall (st:=[]) ?_);simp only [seval,go_sem];(refine CallL.c (hpc) ?_))))|(with_reducible refine isRet ?_;refine RetV (rs:=[.cell 4 32,.tmp 5]) (by with_unfolding_all rfl) rfl ?_<;>simp only [seval,go_sem]<;>(repeat' (with_reducible apply And.intro))<;>(try rfl))|(with_reducible (refine TVq (st:=[]) ?_))|simp only [seval,go_sem]))<;>(try (fail)))
 | true=>
   rw [if_neg (by decide)]
   rw [h1] at hpc
   simp only [dSr]
   refine of_tri [] [2,4,8,15] Try.func72 rfl call72 rfl (by decide) (by decide) rfl rfl Try.ntmps72 (by simp (disch:=omega) only [seval,go_sem,cnd,intV,shV,convV,strV,List.replicate,l_2,l_1];rfl) (by simp (disch:=omega) only [seval,go_sem,cnd,intV,shV,convV,strV,l_2,l_1];rfl) ?_
   ((repeat' (first|((with_reducible refine isTriD ?_);((with_reducible refine isCallD ?_);((with_reducible refine LVcall (st:=[]) ?_);simp only [seval,go_sem];first|(refine CallL.c (hpc) ?_)|(refine CallL.c (hrc) ?_))))|(with_reducible refine isRet ?_;refine RetV (rs:=[.cell 4 32,.tmp 5]) (by with_unfolding_all rfl) rfl ?_<;>simp only [seval,go_sem]<;>(repeat' (with_reducible apply And.intro))<;>(try rfl))|(with_reducible (refine TVq (st:=[]) ?_))|simp only [seval,go_sem]))<;>(try (fail)))
set_option maxRecDepth 100000 in set_option maxHeartbeats 6400000 in
theorem rren_calls {a1 a2 a3 a4 a5 a6 a7 com last cap:Int} {os:List Ob} {bs:List Bd} {ps:List Pn} {pg:List Pg} {n m:ByteArray} (hl:bs.length≤100000) (h0:0≤com) (h9:com≤1000000000):ACalls Try.prog 70 [.agg [.sc (.int .i64 a1),.sc (.int .i64 a2),.sc (.int .i64 a3),.sc (.int .i64 a4),.sc (.int .i64 a5),.sc (.int .i64 a6),.sc (.int .i64 a7),.sc (.int .i64 com),.sc (.int .i64 last),.sl 2 (os.map rowOb),.sl 4 (bs.map rowBd),.sl 2 (ps.map rowP),.sc (.int .i64 cap),.sl 3 (pg.map rowPg)],.sc (.string n),.sc (.string m)] (.tup [.agg (dSr (renameR ⟨⟨a1,a2,a3,a4,a5,a6,a7⟩,com,last,os,bs,ps,⟨cap,pg⟩⟩ n m).1),.sc (.int .i64 (renameR ⟨⟨a1,a2,a3,a4,a5,a6,a7⟩,com,last,os,bs,ps,⟨cap,pg⟩⟩ n m).2.1),.sc (.int .i64 (renameR ⟨⟨a1,a2,a3,a4,a5,a6,a7⟩,com,last,os,bs,ps,⟨cap,pg⟩⟩ n m).2.2)]) []:=by
 have hnc:=risname_calls (s:=m)
 have hb1:=rbound_calls (a1:=a1) (a2:=a2) (a3:=a3) (a4:=a4) (a5:=a5) (a6:=a6) (a7:=a7) (com:=com) (last:=last) (cap:=cap) (os:=os) (bs:=bs) (ps:=ps) (pg:=pg) (n:=n) hl
 have hb2:=rbound_calls (a1:=a1) (a2:=a2) (a3:=a3) (a4:=a4) (a5:=a5) (a6:=a6) (a7:=a7) (com:=com) (last:=last) (cap:=cap) (os:=os) (bs:=bs) (ps:=ps) (pg:=pg) (n:=m) hl
 have hrc:=rrename2_calls (l:=bs) (n:=n) (m:=m) (c:=com+1) hl
 unfold renameR boundR
 simp only
 cases c1:nameOk m with
 | false=>
   rw [if_pos rfl]
   rw [c1] at hnc
   simp only [dSr]
   refine of_tri [] [3,6,11,17,23,44] Try.func70 rfl call70 rfl (by decide) (by decide) rfl rfl Try.ntmps70 (by simp (disch:=omega) only [seval,go_sem,cnd,intV,shV,convV,strV,List.replicate,l_2,l_1];rfl) (by simp (disch:=omega) only [seval,go_sem,cnd,intV,shV,convV,strV,l_2,l_1];rfl) ?_
   ((repeat' (first|((with_reducible refine isTriD ?_);((with_reducible refine isCallD ?_);((with_reducible refine LVcall (st:=[]) ?_);simp only [seval,go_sem];(refine CallL.c (hnc) ?_))))|(with_reducible refine isRet ?_;refine RetV (rs:=[.cell 6 32,.tmp 7,.tmp 8]) (by with_unfolding_all rfl) rfl ?_<;>simp only [seval,go_sem]<;>(repeat' (with_reducible apply And.intro))<;>(try rfl))|(with_reducible (refine TVq (st:=[]) ?_))|simp only [seval,go_sem]))<;>(try (fail)))
 | true=>
   rw [if_neg (by decide)]
   rw [c1] at hnc
   cases c2:(lookB n com bs).2 with
   | false=>
     rw [if_pos rfl]
     rw [c2] at hb1
     simp only [dSr]
     refine of_tri [] [3,6,11,17,23,44] Try.func70 rfl call70 rfl (by decide) (by decide) rfl rfl Try.ntmps70 (by simp (disch:=omega) only [seval,go_sem,cnd,intV,shV,convV,strV,List.replicate,l_2,l_1];rfl) (by simp (disch:=omega) only [seval,go_sem,cnd,intV,shV,convV,strV,l_2,l_1];rfl) ?_
     ((repeat' (first|((with_reducible refine isTriD ?_);((with_reducible refine isCallD ?_);((with_reducible refine LVcall (st:=[]) ?_);simp only [seval,go_sem];first|(refine CallL.c (hnc) ?_)|(refine CallL.c (hb1) ?_))))|(with_reducible refine isRet ?_;refine RetV (rs:=[.cell 6 32,.tmp 7,.tmp 8]) (by with_unfolding_all rfl) rfl ?_<;>simp only [seval,go_sem]<;>(repeat' (with_reducible apply And.intro))<;>(try rfl))|(with_reducible (refine TVq (st:=[]) ?_))|simp only [seval,go_sem]))<;>(try (fail)))
   | true=>
     rw [if_neg (by decide)]
     rw [c2] at hb1
     cases c3:(lookB m com bs).2 with
     | true=>
       rw [if_pos rfl]
       rw [c3] at hb2
       simp only [dSr]
       refine of_tri [] [3,6,11,17,23,44] Try.func70 rfl call70 rfl (by decide) (by decide) rfl rfl Try.ntmps70 (by simp (disch:=omega) only [seval,go_sem,cnd,intV,shV,convV,strV,List.replicate,l_2,l_1];rfl) (by simp (disch:=omega) only [seval,go_sem,cnd,intV,shV,convV,strV,l_2,l_1];rfl) ?_
       ((repeat' (first|((with_reducible refine isTriD ?_);((with_reducible refine isCallD ?_);((with_reducible refine LVcall (st:=[]) ?_);simp only [seval,go_sem];first|(refine CallL.c (hnc) ?_)|(refine CallL.c (hb1) ?_)|(refine CallL.c (hb2) ?_))))|(with_reducible refine isRet ?_;refine RetV (rs:=[.cell 6 32,.tmp 7,.tmp 8]) (by with_unfolding_all rfl) rfl ?_<;>simp only [seval,go_sem]<;>(repeat' (with_reducible apply And.intro))<;>(try rfl))|(with_reducible (refine TVq (st:=[]) ?_))|simp only [seval,go_sem]))<;>(try (fail)))
     | false=>
       rw [if_neg (by decide)]
       rw [c3] at hb2
       by_cases c4:a6≤com
       ·rw [if_pos c4]
        simp only [dSr]
        refine of_tri [] [3,6,11,17,23,44] Try.func70 rfl call70 rfl (by decide) (by decide) rfl rfl Try.ntmps70 (by simp (disch:=omega) only [seval,go_sem,cnd,intV,shV,convV,strV,List.replicate,l_2,l_1];rfl) (by simp (disch:=omega) only [seval,go_sem,cnd,intV,shV,convV,strV,l_2,l_1];rfl) ?_
        ((repeat' (first|((with_reducible refine isTriD ?_);((with_reducible refine isCallD ?_);((with_reducible refine LVcall (st:=[]) ?_);simp only [seval,go_sem];first|(refine CallL.c (hnc) ?_)|(refine CallL.c (hb1) ?_)|(refine CallL.c (hb2) ?_))))|(with_reducible refine isRet ?_;refine RetV (rs:=[.cell 6 32,.tmp 7,.tmp 8]) (by with_unfolding_all rfl) rfl ?_<;>simp only [seval,go_sem]<;>(repeat' (with_reducible apply And.intro))<;>(try rfl))|(with_reducible (refine TVq (st:=[]) ?_))|simp only [seval,go_sem]|(with_reducible refine oV_st (by simp (disch:=omega) only [seval,go_sem,cnd,intV,shV,convV,strV];rfl) ?_)))<;>(try (fail)))
       ·rw [if_neg c4]
        simp only [dSr]
        refine of_tri [] [3,6,11,17,23,44] Try.func70 rfl call70 rfl (by decide) (by decide) rfl rfl Try.ntmps70 (by simp (disch:=omega) only [seval,go_sem,cnd,intV,shV,convV,strV,List.replicate,l_2,l_1];rfl) (by simp (disch:=omega) only [seval,go_sem,cnd,intV,shV,convV,strV,l_2,l_1];rfl) ?_
        ((repeat' (first|((with_reducible refine isTriD ?_);first|((with_reducible refine isCallD ?_);((with_reducible refine LVcall (st:=[]) ?_);simp only [seval,go_sem];first|(refine CallL.c (hnc) ?_)|(refine CallL.c (hb1) ?_)|(refine CallL.c (hb2) ?_)|(refine CallL.c (hrc) ?_)))|((with_reducible first|refine TriD.step (by simp only [seval,go_sem];rfl) ?_);refine LVs (st:=[]) ?_))|(with_reducible refine isDrawnN 11 ?_;refine Tri.mixedP 11 mix 6 rfl (.f 1 <| .a <| .b 0 (.a <| .b 2 (.a <| .b 3 (.f 4 <| .f 5 <| .d) .e) <| .b 3 (.a <| .b 2 (.f 4 <| .f 5 <| .d) .e) .e) <| .b 2 (.a <| .b 0 (.a <| .b 3 (.f 4 <| .f 5 <| .d) .e) .e) .e) (by kernel_rfl) ?_)|(with_reducible refine isAnyP ?_;first|refine AnyP.D ?_|refine AnyP.F (by simp only [seval,go_sem,l_7,l_6];rfl) (by first|(simp only [seval,go_sem];done)) (by first|(simp only [seval,go_sem];with_reducible rfl)) ?_|refine AnyP.A ?_)|(with_reducible first|exact NextsP.E|refine NextsP.B (by simp only [seval,go_sem,l_7,l_6];rfl) ?_ ?_)|(with_reducible refine isRet ?_;refine RetV (rs:=[.cell 6 32,.tmp 7,.tmp 8]) (by with_unfolding_all rfl) rfl ?_<;>simp only [seval,go_sem]<;>(repeat' (with_reducible apply And.intro))<;>(try rfl))|(with_reducible (refine TVq (st:=[]) ?_))|simp only [seval,go_sem]|(with_reducible refine oV_st (by simp (disch:=omega) only [seval,go_sem,cnd,intV,shV,convV,strV];rfl) ?_)))<;>(try (fail)))
end Go.Proofs.Ytmgodadmafcliaa
