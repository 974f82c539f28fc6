/- The program's store walked: Live, Commit, bound, full, pinned, visible, find, Version, Names. -/
import Derived.Test.YteemiclhnfkekaaZStPg
import Derived.Test.YteemiclhnfkekaaZArA
import Derived.Test.YteemiclhnfkekaaZCfg
import Derived.Test.YteemiclhnfkekaaZCov
import Derived.Test.YteemiclhnfkekaaZDiF
set_option linter.unusedSimpArgs false
set_option linter.unusedVariables false
namespace Go.Proofs.Yteemiclhnfkekaa
open Go.RowKit Go.Avm
set_option maxRecDepth 100000 in set_option maxHeartbeats 3200000 in
theorem slive_calls {a1 a2 a3 a4 a5 a6 a7 com last cap:Int} {os:List Ob} {bs:List Bd} {ps:List Pn} {pg:List Pg}:MCalls Try.prog 29 [.box [.sc (.int .i64 a1),.sc (.int .i64 a2),.sc (.int .i64 a3),.sc (.int .i64 a4),.sc (.int .i64 a5),.sc (.int .i64 a6),.sc (.int .i64 a7),.sc (.int .i64 com),.mp 1,.sc (.int .i64 last),.sl 4 (bs.map rowBd),.sl 2 (ps.map rowP),.ref 2 0],.ext (mapX (.int .i64) (mapOb os)),.box [.sc (.int .i64 cap),.mp 3],.ext (mapB (.int .i64) (ownB (mapPg pg)))] [.ref 0 0] (.sc (.int .i64 pg.length)) [.box [.sc (.int .i64 a1),.sc (.int .i64 a2),.sc (.int .i64 a3),.sc (.int .i64 a4),.sc (.int .i64 a5),.sc (.int .i64 a6),.sc (.int .i64 a7),.sc (.int .i64 com),.mp 1,.sc (.int .i64 last),.sl 4 (bs.map rowBd),.sl 2 (ps.map rowP),.ref 2 0],.ext (mapX (.int .i64) (mapOb os)),.box [.sc (.int .i64 cap),.mp 3],.ext (mapB (.int .i64) (ownB (mapPg pg)))]:=by
 refine of_tri [1000,1001,1002,1003] [7] Try.func29 rfl call29 rfl (by decide) (by decide) (by first|rfl) (by first|(simp only [seval,go_sem,List.all_cons,List.all_nil,Bool.and_true,List.length_cons,List.length_nil];done)) Try.ntmps29 (by simp (disch:=omega) only [seval,go_sem,cnd,intV,shV,convV,strV,List.replicate,l_2,l_1];rfl) (by simp (disch:=omega) only [seval,go_sem,cnd,intV,shV,convV,strV,l_2,l_1];rfl) ?_
 ((repeat' (first|((with_reducible refine isTriD ?_);((with_reducible refine isCallD ?_);((with_reducible ((refine TriD.cJ (dst:=_) [] (by simp only [seval,go_sem];rfl) (by simp only [seval,go_sem];rfl) (alive_calls) (by simp only [seval,go_sem];first|done|fail) (by simp only [seval,go_sem];rfl) (by simp only [seval,go_sem];rfl) ?_)));refine LVs (st:=[]) ?_)))|(with_reducible refine isRet ?_;refine RetV (rs:=[.tmp 2]) (by with_unfolding_all rfl) rfl ?_<;>simp only [seval,go_sem]<;>(repeat' (with_reducible apply And.intro))<;>(try rfl))|(with_reducible (refine TVq (st:=[]) ?_))|simp only [seval,go_sem]))<;>(try (fail)))
set_option maxRecDepth 100000 in set_option maxHeartbeats 3200000 in
theorem scommit_calls {a1 a2 a3 a4 a5 a6 a7 com last cap:Int} {os:List Ob} {bs:List Bd} {ps:List Pn} {pg:List Pg}:MCalls Try.prog 37 [.box [.sc (.int .i64 a1),.sc (.int .i64 a2),.sc (.int .i64 a3),.sc (.int .i64 a4),.sc (.int .i64 a5),.sc (.int .i64 a6),.sc (.int .i64 a7),.sc (.int .i64 com),.mp 1,.sc (.int .i64 last),.sl 4 (bs.map rowBd),.sl 2 (ps.map rowP),.ref 2 0],.ext (mapX (.int .i64) (mapOb os)),.box [.sc (.int .i64 cap),.mp 3],.ext (mapB (.int .i64) (ownB (mapPg pg)))] [.ref 0 0] (.sc (.int .i64 com)) [.box [.sc (.int .i64 a1),.sc (.int .i64 a2),.sc (.int .i64 a3),.sc (.int .i64 a4),.sc (.int .i64 a5),.sc (.int .i64 a6),.sc (.int .i64 a7),.sc (.int .i64 com),.mp 1,.sc (.int .i64 last),.sl 4 (bs.map rowBd),.sl 2 (ps.map rowP),.ref 2 0],.ext (mapX (.int .i64) (mapOb os)),.box [.sc (.int .i64 cap),.mp 3],.ext (mapB (.int .i64) (ownB (mapPg pg)))]:=by
 refine of_tri [1000,1001,1002,1003] [] Try.func37 rfl call37 rfl (by decide) (by decide) (by first|rfl) (by first|(simp only [seval,go_sem,List.all_cons,List.all_nil,Bool.and_true,List.length_cons,List.length_nil];done)) Try.ntmps37 (by simp (disch:=omega) only [seval,go_sem,cnd,intV,shV,convV,strV,List.replicate,l_2,l_1];rfl) (by simp (disch:=omega) only [seval,go_sem,cnd,intV,shV,convV,strV,l_2,l_1];rfl) ?_
 ((repeat' (first|(with_reducible refine isRet ?_;refine RetV (rs:=[.tmp 2]) (by with_unfolding_all rfl) rfl ?_<;>simp only [seval,go_sem]<;>(repeat' (with_reducible apply And.intro))<;>(try rfl))|(with_reducible (refine TVq (st:=[]) ?_))|simp only [seval,go_sem]))<;>(try (fail)))
set_option maxRecDepth 100000 in set_option maxHeartbeats 3200000 in
theorem sbound_calls {a1 a2 a3 a4 a5 a6 a7 com last cap:Int} {os:List Ob} {bs:List Bd} {ps:List Pn} {pg:List Pg} {n:ByteArray} (hb:bs.length≤100000):MCalls Try.prog 40 [.box [.sc (.int .i64 a1),.sc (.int .i64 a2),.sc (.int .i64 a3),.sc (.int .i64 a4),.sc (.int .i64 a5),.sc (.int .i64 a6),.sc (.int .i64 a7),.sc (.int .i64 com),.mp 1,.sc (.int .i64 last),.sl 4 (bs.map rowBd),.sl 2 (ps.map rowP),.ref 2 0],.ext (mapX (.int .i64) (mapOb os)),.box [.sc (.int .i64 cap),.mp 3],.ext (mapB (.int .i64) (ownB (mapPg pg)))] [.ref 0 0,.sc (.string n)] (.sc (.bool (boundR ⟨⟨a1,a2,a3,a4,a5,a6,a7⟩,com,last,os,bs,ps,⟨cap,pg⟩⟩ n))) [.box [.sc (.int .i64 a1),.sc (.int .i64 a2),.sc (.int .i64 a3),.sc (.int .i64 a4),.sc (.int .i64 a5),.sc (.int .i64 a6),.sc (.int .i64 a7),.sc (.int .i64 com),.mp 1,.sc (.int .i64 last),.sl 4 (bs.map rowBd),.sl 2 (ps.map rowP),.ref 2 0],.ext (mapX (.int .i64) (mapOb os)),.box [.sc (.int .i64 cap),.mp 3],.ext (mapB (.int .i64) (ownB (mapPg pg)))]:=by
 unfold boundR
 refine of_tri [1000,1001,1002,1003] [17] Try.func40 rfl call40 rfl (by decide) (by decide) (by first|rfl) (by first|(simp only [seval,go_sem,List.all_cons,List.all_nil,Bool.and_true,List.length_cons,List.length_nil];done)) Try.ntmps40 (by simp (disch:=omega) only [seval,go_sem,cnd,intV,shV,convV,strV,List.replicate,l_2,l_1];rfl) (by simp (disch:=omega) only [seval,go_sem,cnd,intV,shV,convV,strV,l_2,l_1];rfl) ?_
 ((repeat' (first|(with_reducible refine ListD.nil ?_)|((with_reducible refine isListD ?_);first|(with_reducible refine ListD.step (by simp only [seval,go_sem];rfl) ?_)|((with_reducible refine isCallV ?_);((with_reducible (refine ListD.dE (by simp only [seval,go_sem];rfl) (by simp only [seval,go_sem];rfl) ?_));refine CallW.c (look_calls ?_) (by simp only [seval,go_sem];rfl) ?_)))|(with_reducible refine isDrawn ?_;refine Tri.drawnD mix (by kernel_rfl) (by simp only [l_3,l_4];rfl) ?_)|(with_reducible refine isRet ?_;refine RetV (rs:=[.tmp 4]) (by with_unfolding_all rfl) rfl ?_<;>simp only [seval,go_sem]<;>(repeat' (with_reducible apply And.intro))<;>(try rfl))|(with_reducible (refine TVq (st:=[]) ?_))|simp only [seval,go_sem]))<;>(try ((with_reducible assumption))))
set_option maxRecDepth 100000 in set_option maxHeartbeats 3200000 in
theorem sfull_calls {a1 a2 a3 a4 a5 a6 a7 com last cap:Int} {os:List Ob} {bs:List Bd} {ps:List Pn} {pg:List Pg}:MCalls Try.prog 42 [.box [.sc (.int .i64 a1),.sc (.int .i64 a2),.sc (.int .i64 a3),.sc (.int .i64 a4),.sc (.int .i64 a5),.sc (.int .i64 a6),.sc (.int .i64 a7),.sc (.int .i64 com),.mp 1,.sc (.int .i64 last),.sl 4 (bs.map rowBd),.sl 2 (ps.map rowP),.ref 2 0],.ext (mapX (.int .i64) (mapOb os)),.box [.sc (.int .i64 cap),.mp 3],.ext (mapB (.int .i64) (ownB (mapPg pg)))] [.ref 0 0] (.sc (.bool (decide (a6≤com)))) [.box [.sc (.int .i64 a1),.sc (.int .i64 a2),.sc (.int .i64 a3),.sc (.int .i64 a4),.sc (.int .i64 a5),.sc (.int .i64 a6),.sc (.int .i64 a7),.sc (.int .i64 com),.mp 1,.sc (.int .i64 last),.sl 4 (bs.map rowBd),.sl 2 (ps.map rowP),.ref 2 0],.ext (mapX (.int .i64) (mapOb os)),.box [.sc (.int .i64 cap),.mp 3],.ext (mapB (.int .i64) (ownB (mapPg pg)))]:=by
 refine of_tri [1000,1001,1002,1003] [] Try.func42 rfl call42 rfl (by decide) (by decide) (by first|rfl) (by first|(simp only [seval,go_sem,List.all_cons,List.all_nil,Bool.and_true,List.length_cons,List.length_nil];done)) Try.ntmps42 (by simp (disch:=omega) only [seval,go_sem,cnd,intV,shV,convV,strV,List.replicate,l_2,l_1];rfl) (by simp (disch:=omega) only [seval,go_sem,cnd,intV,shV,convV,strV,l_2,l_1];rfl) ?_
 ((repeat' (first|(with_reducible refine ListD.nil ?_)|((with_reducible refine isListD ?_);(with_reducible first|refine ListD.step (by simp only [seval,go_sem];rfl) ?_|refine ListD.step (by simp (disch:=omega) only [seval,go_sem,cnd,intV,shV,convV,strV];rfl) ?_))|(with_reducible refine isDrawn ?_;refine Tri.drawnD mix (by kernel_rfl) (by simp only [l_3,l_4];rfl) ?_)|(with_reducible refine isRet ?_;refine RetV (rs:=[.tmp 2]) (by with_unfolding_all rfl) rfl ?_<;>simp only [seval,go_sem]<;>(repeat' (with_reducible apply And.intro))<;>(try rfl))|(with_reducible (refine TVq (st:=[]) ?_))|simp only [seval,go_sem]))<;>(try (fail)))
def idxPn (c:Int):List Pn→Nat→Int
 | [],_=> -1
 | p::l,k=>if p.commit=c then (k:Int) else idxPn c l (k+1)
theorem idxPn_any (c:Int): ∀ (l:List Pn) (k:Nat),decide (0≤idxPn c l k)=pinnedR l c
 | [],_=>rfl
 | p::l,k=>by
   rw [idxPn,pinnedR,List.any_cons]
   by_cases h:p.commit=c
   ·simp [h]
   ·have:=idxPn_any c l (k+1)
    simp only [h,if_false,this,pinnedR]
    simp [h]
set_option maxRecDepth 100000 in set_option maxHeartbeats 3200000 in
theorem pin1_calls {p:Pn} {c:Int}:ACalls Try.prog 109 [.agg (rowP p), .ro [.sc (.int .i64 c)]] (.sc (.bool (decide (p.commit=c)))) []:=by
 simp only [rowP]
 refine of_tri [] [2] Try.func109 rfl call109 rfl (by decide) (by decide) rfl rfl Try.ntmps109 (by simp (disch:=omega) only [seval,go_sem,cnd,intV,shV,convV,strV,List.replicate,l_2,l_1];rfl) (by simp (disch:=omega) only [seval,go_sem,cnd,intV,shV,convV,strV,l_2,l_1];rfl) ?_
 ((repeat' (first|(with_reducible refine isRet ?_;refine RetV (rs:=[.tmp 3]) (by with_unfolding_all rfl) rfl ?_<;>simp only [seval,go_sem]<;>(repeat' (with_reducible apply And.intro))<;>(try rfl))|(with_reducible (refine TVq (st:=[]) ?_))|simp only [seval,go_sem]|(with_reducible refine oV_st (by simp (disch:=omega) only [seval,go_sem,cnd,intV,shV,convV,strV];rfl) ?_)))<;>(try (fail)))
set_option maxRecDepth 100000 in set_option maxHeartbeats 3200000 in
theorem idxp_calls {l:List Pn} {c:Int} (hl:l.length≤100000):ACalls Try.prog 116 [.sl 2 (l.map rowP), .fn 109 [.ro [.sc (.int .i64 c)]]] (.sc (.int .i64 (idxPn c l 0))) []:=by
 refine of_tri [] [16] Try.func116 rfl call116 rfl (by decide) (by decide) rfl rfl Try.ntmps116 (by simp (disch:=omega) only [seval,go_sem,cnd,intV,shV,convV,strV,List.replicate,l_2,l_1];rfl) (by simp (disch:=omega) only [seval,go_sem,cnd,intV,shV,convV,strV,l_2,l_1];rfl) ?_
 ((repeat' (first|(with_reducible (refine TVq (st:=[]) ?_))|simp only [seval,go_sem]))<;>(try (fail)))
 all_goals (with_reducible refine Tri.loopU (fun (k:Nat)=>[(8,.sc (.int .i64 k)),(4,.any),(5,.any),(9,.any),(10,.any),(11,.any),(12,.any),(13,.any),(14,.any),(15,.any),(16,.any),(17,.any),(18,.any)]) (fun (k:Nat)=>[(16,.dead)]) (fun (k:Nat)=>k≤l.length∧idxPn c (l.drop k) k=idxPn c l 0) (fun (k:Nat)=>l.length-k) (0) (⟨Nat.zero_le _,rfl⟩) (by intro _;simp (disch:=omega) only [seval,go_sem,cnd,intV,shV,convV,strV];rfl) (by intro _;simp (disch:=omega) only [seval,go_sem,cnd,intV,shV,convV,strV];rfl) (by (refine leQL_spec ?_);(try simp only [seval,go_sem]);first|done|fail) (by (refine leQH_spec ?_);(try simp only [seval,go_sem]);first|done|fail) (fun k hI=>?_))
 all_goals
  obtain ⟨hk,hf⟩:=hI
  by_cases hlt:k<l.length
  ·obtain ⟨b,hb⟩:=get_lt hlt
   have hb':=get_map rowP hb
   have hc1:=pin1_calls (p:=b) (c:=c)
   simp only [rowP] at hc1
   rw [drop_get hb,idxPn] at hf
   by_cases hp:b.commit=c
   ·rw [if_pos hp] at hf
    rw [← hf]
    rw [decide_eq_true hp] at hc1
    ((repeat' (first|((with_reducible refine isTriD ?_);((with_reducible refine isCallD ?_);((with_reducible refine LVcall (st:=[]) ?_);simp only [seval,go_sem,hb',rowP];(refine CallL.c (hc1) ?_))))|(with_reducible refine isRet ?_;refine RetV (rs:=[.tmp 4]) (by with_unfolding_all rfl) rfl ?_<;>simp only [seval,go_sem]<;>(repeat' (with_reducible apply And.intro))<;>(try rfl))|(with_reducible (refine TVq (st:=[]) ?_))|simp only [seval,go_sem,hb',rowP]|(with_reducible refine oV_st (by simp (disch:=omega) only [seval,go_sem,cnd,intV,shV,convV,strV,hb',rowP];rfl) ?_)))<;>(try (fail)))
   ·rw [if_neg hp] at hf
    rw [decide_eq_false hp] at hc1
    ((repeat' (first|((with_reducible refine isTriD ?_);((with_reducible refine isCallD ?_);((with_reducible refine LVcall (st:=[]) ?_);simp only [seval,go_sem,hb',rowP];(refine CallL.c (hc1) ?_))))|(with_reducible (refine TVq (st:=[]) ?_))|simp only [seval,go_sem,hb',rowP]|(with_reducible refine oV_st (by simp (disch:=omega) only [seval,go_sem,cnd,intV,shV,convV,strV,hb',rowP];rfl) ?_)))<;>(try (fail)))
    all_goals (try (refine isNextM (k+1) (by (refine leQL_spec ?_);(try simp only [seval,go_sem]);first|((repeat' (with_reducible apply And.intro))<;>first|rfl);first|done|fail) (by (refine leQH_spec ?_);(try simp only [seval,go_sem]);first|done|fail) ?_ ?_<;>(try (omega))))
    all_goals (try (exact ⟨by omega,hf⟩))
  ·rw [List.drop_eq_nil_of_le (by omega),idxPn] at hf
   rw [← hf]
   ((repeat' (first|(with_reducible refine isRet ?_;refine RetV (rs:=[.tmp 4]) (by with_unfolding_all rfl) rfl ?_<;>simp only [seval,go_sem]<;>(repeat' (with_reducible apply And.intro))<;>(try rfl))|(with_reducible (refine TVq (st:=[]) ?_))|simp only [seval,go_sem]|(with_reducible refine oV_st (by simp (disch:=omega) only [seval,go_sem,cnd,intV,shV,convV,strV];rfl) ?_)))<;>(try (fail)))
set_option maxRecDepth 100000 in set_option maxHeartbeats 3200000 in
theorem hasp_calls {l:List Pn} {c:Int} (hl:l.length≤100000):ACalls Try.prog 108 [.sl 2 (l.map rowP), .fn 109 [.ro [.sc (.int .i64 c)]]] (.sc (.bool (pinnedR l c))) []:=by
 have hix:=idxp_calls (l:=l) (c:=c) hl
 rw [← idxPn_any c l 0]
 refine of_tri [] [7] Try.func108 rfl call108 rfl (by decide) (by decide) rfl rfl Try.ntmps108 (by simp (disch:=omega) only [seval,go_sem,cnd,intV,shV,convV,strV,List.replicate,l_2,l_1];rfl) (by simp (disch:=omega) only [seval,go_sem,cnd,intV,shV,convV,strV,l_2,l_1];rfl) ?_
 ((repeat' (first|((with_reducible refine isTriD ?_);((with_reducible refine isCallD ?_);((with_reducible refine LVcall (st:=[]) ?_);simp only [seval,go_sem];(refine CallL.c (hix) ?_))))|(with_reducible refine isRet ?_;refine RetV (rs:=[.tmp 4]) (by with_unfolding_all rfl) rfl ?_<;>simp only [seval,go_sem]<;>(repeat' (with_reducible apply And.intro))<;>(try rfl))|(with_reducible (refine TVq (st:=[]) ?_))|simp only [seval,go_sem]|(with_reducible refine oV_st (by simp (disch:=omega) only [seval,go_sem,cnd,intV,shV,convV,strV];rfl) ?_)))<;>(try (fail)))
set_option maxRecDepth 100000 in set_option maxHeartbeats 3200000 in
theorem spinned_calls {a1 a2 a3 a4 a5 a6 a7 com last cap:Int} {os:List Ob} {bs:List Bd} {ps:List Pn} {pg:List Pg} {c:Int} (hp:ps.length≤100000):MCalls Try.prog 90 [.box [.sc (.int .i64 a1),.sc (.int .i64 a2),.sc (.int .i64 a3),.sc (.int .i64 a4),.sc (.int .i64 a5),.sc (.int .i64 a6),.sc (.int .i64 a7),.sc (.int .i64 com),.mp 1,.sc (.int .i64 last),.sl 4 (bs.map rowBd),.sl 2 (ps.map rowP),.ref 2 0],.ext (mapX (.int .i64) (mapOb os)),.box [.sc (.int .i64 cap),.mp 3],.ext (mapB (.int .i64) (ownB (mapPg pg)))] [.ref 0 0,.sc (.int .i64 c)] (.sc (.bool (pinnedR ps c))) [.box [.sc (.int .i64 a1),.sc (.int .i64 a2),.sc (.int .i64 a3),.sc (.int .i64 a4),.sc (.int .i64 a5),.sc (.int .i64 a6),.sc (.int .i64 a7),.sc (.int .i64 com),.mp 1,.sc (.int .i64 last),.sl 4 (bs.map rowBd),.sl 2 (ps.map rowP),.ref 2 0],.ext (mapX (.int .i64) (mapOb os)),.box [.sc (.int .i64 cap),.mp 3],.ext (mapB (.int .i64) (ownB (mapPg pg)))]:=by
 refine of_tri [1000,1001,1002,1003] [3,10] Try.func90 rfl call90 rfl (by decide) (by decide) (by first|rfl) (by first|(simp only [seval,go_sem,List.all_cons,List.all_nil,Bool.and_true,List.length_cons,List.length_nil];done)) Try.ntmps90 (by simp (disch:=omega) only [seval,go_sem,cnd,intV,shV,convV,strV,List.replicate,l_2,l_1];rfl) (by simp (disch:=omega) only [seval,go_sem,cnd,intV,shV,convV,strV,l_2,l_1];rfl) ?_
 ((repeat' (first|((with_reducible refine isTriD ?_);((with_reducible refine isCallD ?_);((with_reducible refine LVcall (st:=[]) ?_);simp only [seval,go_sem];(refine CallL.c (hasp_calls ?_) ?_))))|(with_reducible refine isRet ?_;refine RetV (rs:=[.tmp 4]) (by with_unfolding_all rfl) rfl ?_<;>simp only [seval,go_sem]<;>(repeat' (with_reducible apply And.intro))<;>(try rfl))|(with_reducible (refine TVq (st:=[]) ?_))|simp only [seval,go_sem]))<;>(try ((with_reducible assumption))))
theorem visE_cases (s:Sr) (c:Int):(c<0∧visE s c=5)∨(0≤c∧s.commit<c∧visE s c=5)∨(0≤c∧c<s.commit∧pinnedR s.pins c=false∧visE s c=17)∨(0≤c∧c<s.commit∧pinnedR s.pins c=true∧visE s c=0)∨(0≤c∧c=s.commit∧visE s c=0):=by
 unfold visE
 by_cases h1:0≤c
 ·by_cases h2:c≤s.commit
  ·have hr:inR c 0 s.commit=true:=by simp [inR];omega
   rw [if_neg (by simp [hr])]
   by_cases h3:c=s.commit
   ·exact .inr (.inr (.inr (.inr ⟨h1,h3,if_neg (fun h=>h.1 h3)⟩)))
   ·cases h4:pinnedR s.pins c
    ·exact .inr (.inr (.inl ⟨h1,by omega,rfl,if_pos ⟨h3,rfl⟩⟩))
    ·exact .inr (.inr (.inr (.inl ⟨h1,by omega,rfl,if_neg (fun h=>by cases h.2)⟩)))
  ·have hr:inR c 0 s.commit=false:=by simp [inR];omega
   exact .inr (.inl ⟨h1,by omega,if_pos hr⟩)
 ·have hr:inR c 0 s.commit=false:=by simp [inR];omega
  exact .inl ⟨by omega,if_pos hr⟩
set_option maxRecDepth 100000 in set_option maxHeartbeats 3200000 in
theorem svis_calls {a1 a2 a3 a4 a5 a6 a7 com last cap:Int} {os:List Ob} {bs:List Bd} {ps:List Pn} {pg:List Pg} {c:Int} (hp:ps.length≤100000):MCalls Try.prog 65 [.box [.sc (.int .i64 a1),.sc (.int .i64 a2),.sc (.int .i64 a3),.sc (.int .i64 a4),.sc (.int .i64 a5),.sc (.int .i64 a6),.sc (.int .i64 a7),.sc (.int .i64 com),.mp 1,.sc (.int .i64 last),.sl 4 (bs.map rowBd),.sl 2 (ps.map rowP),.ref 2 0],.ext (mapX (.int .i64) (mapOb os)),.box [.sc (.int .i64 cap),.mp 3],.ext (mapB (.int .i64) (ownB (mapPg pg)))] [.ref 0 0,.sc (.int .i64 c)] (.sc (.int .i64 (visE ⟨⟨a1,a2,a3,a4,a5,a6,a7⟩,com,last,os,bs,ps,⟨cap,pg⟩⟩ c))) [.box [.sc (.int .i64 a1),.sc (.int .i64 a2),.sc (.int .i64 a3),.sc (.int .i64 a4),.sc (.int .i64 a5),.sc (.int .i64 a6),.sc (.int .i64 a7),.sc (.int .i64 com),.mp 1,.sc (.int .i64 last),.sl 4 (bs.map rowBd),.sl 2 (ps.map rowP),.ref 2 0],.ext (mapX (.int .i64) (mapOb os)),.box [.sc (.int .i64 cap),.mp 3],.ext (mapB (.int .i64) (ownB (mapPg pg)))]:=by
 have hpc:=spinned_calls (a1:=a1) (a2:=a2) (a3:=a3) (a4:=a4) (a5:=a5) (a6:=a6) (a7:=a7) (com:=com) (last:=last) (cap:=cap) (os:=os) (bs:=bs) (ps:=ps) (pg:=pg) (c:=c) hp
 rcases visE_cases ⟨⟨a1,a2,a3,a4,a5,a6,a7⟩,com,last,os,bs,ps,⟨cap,pg⟩⟩ c with ⟨h1,e⟩|⟨h1,h2,e⟩|⟨h1,h2,h3,e⟩|⟨h1,h2,h3,e⟩|⟨h1,h2,e⟩
 all_goals (try simp only at *)
 all_goals rw [e]
 ·refine of_tri [1000,1001,1002,1003] [24] Try.func65 rfl call65 rfl (by decide) (by decide) (by first|rfl) (by first|(simp only [seval,go_sem,List.all_cons,List.all_nil,Bool.and_true,List.length_cons,List.length_nil];done)) Try.ntmps65 (by simp (disch:=omega) only [seval,go_sem,cnd,intV,shV,convV,strV,List.replicate,l_2,l_1];rfl) (by simp (disch:=omega) only [seval,go_sem,cnd,intV,shV,convV,strV,l_2,l_1];rfl) ?_
  ((repeat' (first|(with_reducible refine isRet ?_;refine RetV (rs:=[.tmp 4]) (by with_unfolding_all rfl) rfl ?_<;>simp only [seval,go_sem]<;>(repeat' (with_reducible apply And.intro))<;>(try rfl))|(with_reducible (refine TVq (st:=[]) ?_))|simp only [seval,go_sem,h1]|(with_reducible refine oV_st (by simp (disch:=omega) only [seval,go_sem,cnd,intV,shV,convV,strV,h1];rfl) ?_)))<;>(try (fail)))
 ·refine of_tri [1000,1001,1002,1003] [24] Try.func65 rfl call65 rfl (by decide) (by decide) (by first|rfl) (by first|(simp only [seval,go_sem,List.all_cons,List.all_nil,Bool.and_true,List.length_cons,List.length_nil];done)) Try.ntmps65 (by simp (disch:=omega) only [seval,go_sem,cnd,intV,shV,convV,strV,List.replicate,l_2,l_1];rfl) (by simp (disch:=omega) only [seval,go_sem,cnd,intV,shV,convV,strV,l_2,l_1];rfl) ?_
  (all_goals (try have hZ:=(And.intro h1 h2));(repeat' (first|(with_reducible refine isRet ?_;refine RetV (rs:=[.tmp 4]) (by with_unfolding_all rfl) rfl ?_<;>simp only [seval,go_sem]<;>(repeat' (with_reducible apply And.intro))<;>(try rfl))|(with_reducible (refine TVq (st:=[]) ?_))|simp only [seval,go_sem,hZ]|(with_reducible refine oV_st (by simp (disch:=omega) only [seval,go_sem,cnd,intV,shV,convV,strV,hZ];rfl) ?_)))<;>(try (fail));all_goals (try clear hZ))
 ·rw [h3] at hpc
  refine of_tri [1000,1001,1002,1003] [24] Try.func65 rfl call65 rfl (by decide) (by decide) (by first|rfl) (by first|(simp only [seval,go_sem,List.all_cons,List.all_nil,Bool.and_true,List.length_cons,List.length_nil];done)) Try.ntmps65 (by simp (disch:=omega) only [seval,go_sem,cnd,intV,shV,convV,strV,List.replicate,l_2,l_1];rfl) (by simp (disch:=omega) only [seval,go_sem,cnd,intV,shV,convV,strV,l_2,l_1];rfl) ?_
  (all_goals (try have hZ:=(And.intro h1 h2));(repeat' (first|((with_reducible refine isTriD ?_);((with_reducible refine isCallD ?_);((with_reducible ((refine TriD.cK (dst:=_) [] (by simp only [seval,go_sem,hZ];rfl) (by simp only [seval,go_sem,hZ];rfl) (hpc) (by simp only [seval,go_sem,hZ];first|done|fail) (by simp only [seval,go_sem,hZ];first|done|fail) (by simp only [seval,go_sem,hZ];rfl) ?_)));refine LVs (st:=[]) ?_)))|(with_reducible refine isRet ?_;refine RetV (rs:=[.tmp 4]) (by with_unfolding_all rfl) rfl ?_<;>simp only [seval,go_sem]<;>(repeat' (with_reducible apply And.intro))<;>(try rfl))|(with_reducible (refine TVq (st:=[]) ?_))|simp only [seval,go_sem,hZ]|(with_reducible refine oV_st (by simp (disch:=omega) only [seval,go_sem,cnd,intV,shV,convV,strV,hZ];rfl) ?_)))<;>(try (fail));all_goals (try clear hZ))
 ·rw [h3] at hpc
  refine of_tri [1000,1001,1002,1003] [24] Try.func65 rfl call65 rfl (by decide) (by decide) (by first|rfl) (by first|(simp only [seval,go_sem,List.all_cons,List.all_nil,Bool.and_true,List.length_cons,List.length_nil];done)) Try.ntmps65 (by simp (disch:=omega) only [seval,go_sem,cnd,intV,shV,convV,strV,List.replicate,l_2,l_1];rfl) (by simp (disch:=omega) only [seval,go_sem,cnd,intV,shV,convV,strV,l_2,l_1];rfl) ?_
  (all_goals (try have hZ:=(And.intro h1 h2));(repeat' (first|((with_reducible refine isTriD ?_);((with_reducible refine isCallD ?_);((with_reducible ((refine TriD.cK (dst:=_) [] (by simp only [seval,go_sem,hZ];rfl) (by simp only [seval,go_sem,hZ];rfl) (hpc) (by simp only [seval,go_sem,hZ];first|done|fail) (by simp only [seval,go_sem,hZ];first|done|fail) (by simp only [seval,go_sem,hZ];rfl) ?_)));refine LVs (st:=[]) ?_)))|(with_reducible refine isRet ?_;refine RetV (rs:=[.tmp 4]) (by with_unfolding_all rfl) rfl ?_<;>simp only [seval,go_sem]<;>(repeat' (with_reducible apply And.intro))<;>(try rfl))|(with_reducible (refine TVq (st:=[]) ?_))|simp only [seval,go_sem,hZ]|(with_reducible refine oV_st (by simp (disch:=omega) only [seval,go_sem,cnd,intV,shV,convV,strV,hZ];rfl) ?_)))<;>(try (fail));all_goals (try clear hZ))
 ·subst h2
  refine of_tri [1000,1001,1002,1003] [24] Try.func65 rfl call65 rfl (by decide) (by decide) (by first|rfl) (by first|(simp only [seval,go_sem,List.all_cons,List.all_nil,Bool.and_true,List.length_cons,List.length_nil];done)) Try.ntmps65 (by simp (disch:=omega) only [seval,go_sem,cnd,intV,shV,convV,strV,List.replicate,l_2,l_1];rfl) (by simp (disch:=omega) only [seval,go_sem,cnd,intV,shV,convV,strV,l_2,l_1];rfl) ?_
  ((repeat' (first|(with_reducible refine isRet ?_;refine RetV (rs:=[.tmp 4]) (by with_unfolding_all rfl) rfl ?_<;>simp only [seval,go_sem]<;>(repeat' (with_reducible apply And.intro))<;>(try rfl))|(with_reducible (refine TVq (st:=[]) ?_))|simp only [seval,go_sem,h1,bne_self_eq_false]|(with_reducible refine oV_st (by simp (disch:=omega) only [seval,go_sem,cnd,intV,shV,convV,strV,h1,bne_self_eq_false];rfl) ?_)))<;>(try (fail)))
end Go.Proofs.Yteemiclhnfkekaa
/- Pins: the walks of the reference's AddPin and RemovePin. -/
set_option linter.unusedSimpArgs false
set_option linter.unusedVariables false
namespace Go.Proofs.Yteemiclhnfkekaa
open Go.RowKit Go.Avm
end Go.Proofs.Yteemiclhnfkekaa
/- The reference's store: what looks at it, pins, drops and renames; the walks. -/
set_option linter.unusedSimpArgs false
set_option linter.unusedVariables false
namespace Go.Proofs.Yteemiclhnfkekaa
open Go.RowKit Go.Avm
end Go.Proofs.Yteemiclhnfkekaa
/- The reference's store: the version of a name; Pin, Unpin, Rename, Drop; the walks. -/
set_option linter.unusedSimpArgs false
set_option linter.unusedVariables false
namespace Go.Proofs.Yteemiclhnfkekaa
open Go.RowKit Go.Avm
theorem findN_split (c:Int): ∀ (l:List Ver) (i:Nat),(findN c l i=(0,false))∨ ∃ (k:Nat) (v:Ver),l[k]? = some v∧findN c l i=(((i+k:Nat):Int),true)
 | [],_=> .inl rfl
 | v::l,i=>by
   rw [findN]
   split
   ·exact .inr ⟨0,v,rfl,rfl⟩
   ·rcases findN_split c l (i+1) with h|⟨k,u,h1,h2⟩
    ·exact .inl h
    ·exact .inr ⟨k+1,u,by simpa using h1,by rw [h2,show i+1+k=i+(k+1) by omega]⟩
end Go.Proofs.Yteemiclhnfkekaa
