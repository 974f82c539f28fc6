/- The program's store walked: find, Version, data, Read. -/
import Derived.Test.YteemiclhnfkekaaZStA
import Derived.Test.YteemiclhnfkekaaZDiB
import Derived.Lib.RowBridge
import Derived.Shelf.Sort.Plain
import Derived.Shelf.Slices.CompactS
import Derived.Shelf.Slices.In.SortNone
import Derived.Test.YteemiclhnfkekaaZAvmS
import Derived.Test.YteemiclhnfkekaaZBase
set_option linter.unusedSimpArgs false
set_option linter.unusedVariables false
namespace Go.Proofs.Yteemiclhnfkekaa
open Go.RowKit Go.Avm
theorem findS_split (s:Sr) (n:ByteArray) (c:Int):(visE s c≠0∧findS s n c=(0,zeroV,visE s c))∨(visE s c=0∧(lookB n c s.binds).2=false∧findS s n c=(0,zeroV,8))∨
  (visE s c=0∧(lookB n c s.binds).2=true∧findN c (versS s.objs (lookB n c s.binds).1) 0=(0,false)∧findS s n c=(0,zeroV,8))∨
  ∃ (k:Nat) (v:Ver),visE s c=0∧(lookB n c s.binds).2=true∧(versS s.objs (lookB n c s.binds).1)[k]? = some v∧findN c (versS s.objs (lookB n c s.binds).1) 0=((k:Int),true)∧findS s n c=((lookB n c s.binds).1,v,0):=by
 by_cases h1:visE s c=0
 ·cases h2:(lookB n c s.binds).2
  ·exact .inr (.inl ⟨h1,rfl,by rw [findS,if_neg (by simp [h1]),if_pos h2]⟩)
  ·rcases findN_split c (versS s.objs (lookB n c s.binds).1) 0 with h|⟨k,v,h3,h4⟩
   ·exact .inr (.inr (.inl ⟨h1,rfl,h,by rw [findS,if_neg (by simp [h1]),if_neg (by simp [h2]),h,if_pos rfl]⟩))
   ·rw [Nat.zero_add] at h4
    refine .inr (.inr (.inr ⟨k,v,h1,rfl,h3,h4,?_⟩))
    rw [findS,if_neg (by simp [h1]),if_neg (by simp [h2]),h4,if_neg (by simp)]
    simp [verGet,h3]
 ·exact .inl ⟨h1,by rw [findS,if_pos h1]⟩
set_option maxRecDepth 100000 in set_option maxHeartbeats 6400000 in
theorem sfind_calls {a1 a2 a3 a4 a5 a6 a7 com last cap:Int} {os:List Ob} {bs:List Bd} {ps:List Pn} {pg:List Pg} {n:ByteArray} {c:Int} (hb:bs.length≤100000) (hp:ps.length≤100000) (hv: ∀ o∈os,o.vers.length≤100000):MCalls Try.prog 44 [.box [.sc (.int .i64 a1),.sc (.int .i64 a2),.sc (.int .i64 a3),.sc (.int .i64 a4),.sc (.int .i64 a5),.sc (.int .i64 a6),.sc (.int .i64 a7),.sc (.int .i64 com),.mp 1,.sc (.int .i64 last),.sl 4 (bs.map rowBd),.sl 2 (ps.map rowP),.ref 2 0],.ext (mapX (.int .i64) (mapOb os)),.box [.sc (.int .i64 cap),.mp 3],.ext (mapB (.int .i64) (ownB (mapPg pg)))] [.ref 0 0,.sc (.string n),.sc (.int .i64 c)] (.tup [.sc (.int .i64 (findS ⟨⟨a1,a2,a3,a4,a5,a6,a7⟩,com,last,os,bs,ps,⟨cap,pg⟩⟩ n c).1),.agg (rowV (findS ⟨⟨a1,a2,a3,a4,a5,a6,a7⟩,com,last,os,bs,ps,⟨cap,pg⟩⟩ n c).2.1),.sc (.int .i64 (findS ⟨⟨a1,a2,a3,a4,a5,a6,a7⟩,com,last,os,bs,ps,⟨cap,pg⟩⟩ n c).2.2)]) [.box [.sc (.int .i64 a1),.sc (.int .i64 a2),.sc (.int .i64 a3),.sc (.int .i64 a4),.sc (.int .i64 a5),.sc (.int .i64 a6),.sc (.int .i64 a7),.sc (.int .i64 com),.mp 1,.sc (.int .i64 last),.sl 4 (bs.map rowBd),.sl 2 (ps.map rowP),.ref 2 0],.ext (mapX (.int .i64) (mapOb os)),.box [.sc (.int .i64 cap),.mp 3],.ext (mapB (.int .i64) (ownB (mapPg pg)))]:=by
 have hvi:=svis_calls (a1:=a1) (a2:=a2) (a3:=a3) (a4:=a4) (a5:=a5) (a6:=a6) (a7:=a7) (com:=com) (last:=last) (cap:=cap) (os:=os) (bs:=bs) (ps:=ps) (pg:=pg) (c:=c) hp
 have hlk:=look_calls (l:=bs) (n:=n) (c:=c) hb
 rcases findS_split ⟨⟨a1,a2,a3,a4,a5,a6,a7⟩,com,last,os,bs,ps,⟨cap,pg⟩⟩ n c with ⟨h1,e⟩|⟨h1,h2,e⟩|⟨h1,h2,h3,e⟩|⟨k,v,h1,h2,h3,h4,e⟩
 ·rw [e]
  simp only [rowV,zeroV,l_4]
  generalize visE ⟨⟨a1,a2,a3,a4,a5,a6,a7⟩,com,last,os,bs,ps,⟨cap,pg⟩⟩ c=E at *
  refine of_tri [1000,1001,1002,1003] [7,15,27,41] Try.func44 rfl call44 rfl (by decide) (by decide) (by first|rfl) (by first|(simp only [seval,go_sem,List.all_cons,List.all_nil,Bool.and_true,List.length_cons,List.length_nil];done)) Try.ntmps44 (by simp (disch:=omega) only [seval,go_sem,cnd,intV,shV,convV,strV,List.replicate,l_2,l_1];rfl) (by simp (disch:=omega) only [seval,go_sem,cnd,intV,shV,convV,strV,l_2,l_1];rfl) ?_
  ((repeat' (first|((with_reducible refine isTriD ?_);((with_reducible refine isCallD ?_);((with_reducible ((refine TriD.cK (dst:=_) [] (by simp only [seval,go_sem,h1];rfl) (by simp only [seval,go_sem,h1];rfl) (hvi) (by simp only [seval,go_sem,h1];first|done|fail) (by simp only [seval,go_sem,h1];first|done|fail) (by simp only [seval,go_sem,h1];rfl) ?_)));refine LVs (st:=[]) ?_)))|(with_reducible refine isRet ?_;refine RetV (rs:=[.tmp 6,.cell 7 86,.tmp 8]) (by with_unfolding_all rfl) rfl ?_<;>simp only [seval,go_sem]<;>(repeat' (with_reducible apply And.intro))<;>(try rfl))|(with_reducible (refine TVq (st:=[]) ?_))|simp only [seval,go_sem,h1]|(with_reducible refine oV_st (by simp (disch:=omega) only [seval,go_sem,cnd,intV,shV,convV,strV,h1];rfl) ?_)))<;>(try (fail)))
 ·rw [e]
  simp only at h2
  simp only [rowV,zeroV,l_4]
  rw [h1] at hvi
  rw [h2] at hlk
  refine of_tri [1000,1001,1002,1003] [7,15,27,41] Try.func44 rfl call44 rfl (by decide) (by decide) (by first|rfl) (by first|(simp only [seval,go_sem,List.all_cons,List.all_nil,Bool.and_true,List.length_cons,List.length_nil];done)) Try.ntmps44 (by simp (disch:=omega) only [seval,go_sem,cnd,intV,shV,convV,strV,List.replicate,l_2,l_1];rfl) (by simp (disch:=omega) only [seval,go_sem,cnd,intV,shV,convV,strV,l_2,l_1];rfl) ?_
  ((repeat' (first|((with_reducible refine isTriD ?_);((with_reducible refine isCallD ?_);first|((with_reducible ((refine TriD.cK (dst:=_) [] (by simp only [seval,go_sem];rfl) (by simp only [seval,go_sem];rfl) (hvi) (by simp only [seval,go_sem];first|done|fail) (by simp only [seval,go_sem];first|done|fail) (by simp only [seval,go_sem];rfl) ?_)));refine LVs (st:=[]) ?_)|((with_reducible refine LVcall (st:=[]) ?_);simp only [seval,go_sem];(refine CallL.c (hlk) ?_))))|(with_reducible refine isRet ?_;refine RetV (rs:=[.tmp 6,.cell 7 86,.tmp 8]) (by with_unfolding_all rfl) rfl ?_<;>simp only [seval,go_sem]<;>(repeat' (with_reducible apply And.intro))<;>(try rfl))|(with_reducible (refine TVq (st:=[]) ?_))|simp only [seval,go_sem]|(with_reducible refine oV_st (by simp (disch:=omega) only [seval,go_sem,cnd,intV,shV,convV,strV];rfl) ?_)))<;>(try (fail)))
 ·rw [e]
  simp only at h2 h3
  simp only [rowV,zeroV,l_4]
  rw [h1] at hvi
  rw [h2] at hlk
  generalize (lookB n c bs).1=L at *
  rcases ob_at L os with ⟨q1,q2,q3,q4,q5⟩|⟨j,o,q1,q2,q3,q4,q5,q6,q7,q8⟩
  ·have hfi:=find_calls (vs:=[]) (c:=c) (by simp)
   rw [q5] at h3
   rw [h3] at hfi
   simp only [l_4] at hfi
   have hfi:=MCalls.args hfi (LeL.cons (LeD.nil 4) (LeL.refl _))
   refine of_tri [1000,1001,1002,1003] [7,15,27,41] Try.func44 rfl call44 rfl (by decide) (by decide) (by first|rfl) (by first|(simp only [seval,go_sem,List.all_cons,List.all_nil,Bool.and_true,List.length_cons,List.length_nil];done)) Try.ntmps44 (by simp (disch:=omega) only [seval,go_sem,cnd,intV,shV,convV,strV,List.replicate,l_2,l_1];rfl) (by simp (disch:=omega) only [seval,go_sem,cnd,intV,shV,convV,strV,l_2,l_1];rfl) ?_
   ((repeat' (first|((with_reducible refine isTriD ?_);first|((with_reducible refine isCallD ?_);first|((with_reducible ((refine TriD.cK (dst:=_) [] (by simp only [seval,go_sem,q3];rfl) (by simp only [seval,go_sem,q3];rfl) (hvi) (by simp only [seval,go_sem,q3];first|done|fail) (by simp only [seval,go_sem,q3];first|done|fail) (by simp only [seval,go_sem,q3];rfl) ?_)));refine LVs (st:=[]) ?_)|((with_reducible refine LVcall (st:=[]) ?_);simp only [seval,go_sem,q3];first|(refine CallL.c (hlk) ?_)|(refine CallL.c (hfi) ?_)))|(with_reducible refine isLookup ?_;with_reducible refine TriD.lookup (by simp only [seval,go_sem,q3]) (by simp only [seval,go_sem,q3];rfl) (by simp only [seval,go_sem,q3];rfl) (by simp only [seval,go_sem,q3];rfl) (by simp only [seval,go_sem,q3];rfl) (by simp only [seval,go_sem,q3];rfl) (by simp only [seval,go_sem,q3];rfl) (by simp only [seval,go_sem,q3];rfl) (by simp only [seval,go_sem,q3];rfl) (by simp only [seval,go_sem,q3];first|done|fail) (by simp only [seval,go_sem,q3];rfl) (by simp only [seval,go_sem,q3];rfl) ?_;refine LVs (st:=[]) ?_))|(with_reducible refine isRet ?_;refine RetV (rs:=[.tmp 6,.cell 7 86,.tmp 8]) (by with_unfolding_all rfl) rfl ?_<;>simp only [seval,go_sem]<;>(repeat' (with_reducible apply And.intro))<;>(try rfl))|(with_reducible (refine TVq (st:=[]) ?_))|simp only [seval,go_sem,q3]|(with_reducible refine oV_st (by simp (disch:=omega) only [seval,go_sem,cnd,intV,shV,convV,strV,q3];rfl) ?_)))<;>(try (fail)))
  ·have hfi:=find_calls (vs:=o.vers) (c:=c) (hv o (List.mem_of_getElem? q1))
   rw [q7] at h3
   rw [h3] at hfi
   refine of_tri [1000,1001,1002,1003] [7,15,27,41] Try.func44 rfl call44 rfl (by decide) (by decide) (by first|rfl) (by first|(simp only [seval,go_sem,List.all_cons,List.all_nil,Bool.and_true,List.length_cons,List.length_nil];done)) Try.ntmps44 (by simp (disch:=omega) only [seval,go_sem,cnd,intV,shV,convV,strV,List.replicate,l_2,l_1];rfl) (by simp (disch:=omega) only [seval,go_sem,cnd,intV,shV,convV,strV,l_2,l_1];rfl) ?_
   ((repeat' (first|((with_reducible refine isTriD ?_);first|((with_reducible refine isCallD ?_);first|((with_reducible ((refine TriD.cK (dst:=_) [] (by simp only [seval,go_sem,q4];rfl) (by simp only [seval,go_sem,q4];rfl) (hvi) (by simp only [seval,go_sem,q4];first|done|fail) (by simp only [seval,go_sem,q4];first|done|fail) (by simp only [seval,go_sem,q4];rfl) ?_)));refine LVs (st:=[]) ?_)|((with_reducible refine LVcall (st:=[]) ?_);simp only [seval,go_sem,q4];first|(refine CallL.c (hlk) ?_)|(refine CallL.c (hfi) ?_)))|(with_reducible refine isLookup ?_;with_reducible refine TriD.lookup (by simp only [seval,go_sem,q4]) (by simp only [seval,go_sem,q4];rfl) (by simp only [seval,go_sem,q4];rfl) (by simp only [seval,go_sem,q4];rfl) (by simp only [seval,go_sem,q4];rfl) (by simp only [seval,go_sem,q4];rfl) (by simp only [seval,go_sem,q4];rfl) (by simp only [seval,go_sem,q4];rfl) (by simp only [seval,go_sem,q4];rfl) (by simp only [seval,go_sem,q4];first|done|fail) (by simp only [seval,go_sem,q4];rfl) (by simp only [seval,go_sem,q4];rfl) ?_;refine LVs (st:=[]) ?_))|(with_reducible refine isRet ?_;refine RetV (rs:=[.tmp 6,.cell 7 86,.tmp 8]) (by with_unfolding_all rfl) rfl ?_<;>simp only [seval,go_sem]<;>(repeat' (with_reducible apply And.intro))<;>(try rfl))|(with_reducible (refine TVq (st:=[]) ?_))|simp only [seval,go_sem,q4]|(with_reducible refine oV_st (by simp (disch:=omega) only [seval,go_sem,cnd,intV,shV,convV,strV,q4];rfl) ?_)))<;>(try (fail)))
 ·rw [e]
  simp only at h2 h3 h4
  simp only [rowV]
  rw [h1] at hvi
  rw [h2] at hlk
  generalize (lookB n c bs).1=L at *
  rcases ob_at L os with ⟨q1,q2,q3,q4,q5⟩|⟨j,o,q1,q2,q3,q4,q5,q6,q7,q8⟩
  ·rw [q5] at h3;simp at h3
  ·have hfi:=find_calls (vs:=o.vers) (c:=c) (hv o (List.mem_of_getElem? q1))
   rw [q7] at h3 h4
   rw [h4] at hfi
   have h3':=get_map rowV h3
   refine of_tri [1000,1001,1002,1003] [7,15,27,41] Try.func44 rfl call44 rfl (by decide) (by decide) (by first|rfl) (by first|(simp only [seval,go_sem,List.all_cons,List.all_nil,Bool.and_true,List.length_cons,List.length_nil];done)) Try.ntmps44 (by simp (disch:=omega) only [seval,go_sem,cnd,intV,shV,convV,strV,List.replicate,l_2,l_1];rfl) (by simp (disch:=omega) only [seval,go_sem,cnd,intV,shV,convV,strV,l_2,l_1];rfl) ?_
   ((repeat' (first|((with_reducible refine isTriD ?_);first|((with_reducible refine isCallD ?_);first|((with_reducible ((refine TriD.cK (dst:=_) [] (by simp only [seval,go_sem,q4,h3',rowV];rfl) (by simp only [seval,go_sem,q4,h3',rowV];rfl) (hvi) (by simp only [seval,go_sem,q4,h3',rowV];first|done|fail) (by simp only [seval,go_sem,q4,h3',rowV];first|done|fail) (by simp only [seval,go_sem,q4,h3',rowV];rfl) ?_)));refine LVs (st:=[]) ?_)|((with_reducible refine LVcall (st:=[]) ?_);simp only [seval,go_sem,q4,h3',rowV];first|(refine CallL.c (hlk) ?_)|(refine CallL.c (hfi) ?_)))|((with_reducible first|refine TriD.step (by simp only [seval,go_sem,q4,h3',rowV];rfl) ?_);refine LVs (st:=[]) ?_)|(with_reducible refine isLookup ?_;with_reducible refine TriD.lookup (by simp only [seval,go_sem,q4,h3',rowV]) (by simp only [seval,go_sem,q4,h3',rowV];rfl) (by simp only [seval,go_sem,q4,h3',rowV];rfl) (by simp only [seval,go_sem,q4,h3',rowV];rfl) (by simp only [seval,go_sem,q4,h3',rowV];rfl) (by simp only [seval,go_sem,q4,h3',rowV];rfl) (by simp only [seval,go_sem,q4,h3',rowV];rfl) (by simp only [seval,go_sem,q4,h3',rowV];rfl) (by simp only [seval,go_sem,q4,h3',rowV];rfl) (by simp only [seval,go_sem,q4,h3',rowV];first|done|fail) (by simp only [seval,go_sem,q4,h3',rowV];rfl) (by simp only [seval,go_sem,q4,h3',rowV];rfl) ?_;refine LVs (st:=[]) ?_))|(with_reducible refine isDrawnN 10 ?_;refine Tri.mixedP 10 mix 13 rfl (.f 0 <| .f 1 <| .f 2 <| .f 3 <| .f 5 <| .f 7 <| .f 10 <| .a <| .b 4 (.a <| .b 6 (.f 8 <| .a <| .b 9 (.a <| .b 11 (.f 12 <| .d) .e) .e) .e) .e) (by kernel_rfl) ?_)|(with_reducible refine isAnyP ?_;first|refine AnyP.D ?_|refine AnyP.Fn (by simp only [seval,go_sem,l_7,l_6];rfl) (by first|(simp only [seval,go_sem,q4,h3',rowV];with_reducible rfl)) ?_|refine AnyP.F (by simp only [seval,go_sem,l_7,l_6];rfl) (by first|(simp only [seval,go_sem,q4,h3',rowV];first|done|fail)) (by first|(simp only [seval,go_sem,q4,h3',rowV];with_reducible rfl)|(simp (disch:=omega) only [seval,go_sem,cnd,intV,shV,convV,strV,q4,h3',rowV];with_reducible rfl)) ?_|refine AnyP.A ?_)|(with_reducible first|exact NextsP.E|refine NextsP.B (by simp only [seval,go_sem,l_7,l_6];rfl) ?_ ?_)|(with_reducible refine isRet ?_;refine RetV (rs:=[.tmp 6,.cell 7 86,.tmp 8]) (by with_unfolding_all rfl) rfl ?_<;>simp only [seval,go_sem]<;>(repeat' (with_reducible apply And.intro))<;>(try rfl))|(with_reducible (refine TVq (st:=[]) ?_))|simp only [seval,go_sem,q4,h3',rowV]|(with_reducible refine oV_st (by simp (disch:=omega) only [seval,go_sem,cnd,intV,shV,convV,strV,q4,h3',rowV];rfl) ?_)))<;>(try (fail)))
set_option maxRecDepth 100000 in set_option maxHeartbeats 6400000 in
theorem sdata_calls {a1 a2 a3 a4 a5 a6 a7 com last cap:Int} {os:List Ob} {bs:List Bd} {ps:List Pn} {pg:List Pg} {f t s:Int} {p:List Int} (hp:p.length≤100000) (hd: ∀ x∈pg,x.data.length≤1000000) (hg:pg.length≤100000):MCalls Try.prog 46 [.box [.sc (.int .i64 a1),.sc (.int .i64 a2),.sc (.int .i64 a3),.sc (.int .i64 a4),.sc (.int .i64 a5),.sc (.int .i64 a6),.sc (.int .i64 a7),.sc (.int .i64 com),.mp 1,.sc (.int .i64 last),.sl 4 (bs.map rowBd),.sl 2 (ps.map rowP),.ref 2 0],.ext (mapX (.int .i64) (mapOb os)),.box [.sc (.int .i64 cap),.mp 3],.ext (mapB (.int .i64) (ownB (mapPg pg)))] [.ref 0 0,.agg [.sc (.int .i64 f),.sc (.int .i64 t),.sc (.int .i64 s),.sl 1 (p.map rowI)]] (.sl 1 ((storedR ⟨cap,pg⟩ p).map rowL)) [.box [.sc (.int .i64 a1),.sc (.int .i64 a2),.sc (.int .i64 a3),.sc (.int .i64 a4),.sc (.int .i64 a5),.sc (.int .i64 a6),.sc (.int .i64 a7),.sc (.int .i64 com),.mp 1,.sc (.int .i64 last),.sl 4 (bs.map rowBd),.sl 2 (ps.map rowP),.ref 2 0],.ext (mapX (.int .i64) (mapOb os)),.box [.sc (.int .i64 cap),.mp 3],.ext (mapB (.int .i64) (ownB (mapPg pg)))]:=by
 unfold storedR
 refine of_tri [1000,1001,1002,1003] [3,23,28,29,60] Try.func46 rfl call46 rfl (by decide) (by decide) (by first|rfl) (by first|(simp only [seval,go_sem,List.all_cons,List.all_nil,Bool.and_true,List.length_cons,List.length_nil];done)) Try.ntmps46 (by simp (disch:=omega) only [seval,go_sem,cnd,intV,shV,convV,strV,List.replicate,l_2,l_1];rfl) (by simp (disch:=omega) only [seval,go_sem,cnd,intV,shV,convV,strV,l_2,l_1];rfl) ?_
 ((repeat' (first|(with_reducible (refine TVq (st:=[]) ?_))|simp only [seval,go_sem]))<;>(try (fail)))
 all_goals (refine Tri.virt 5 60 1 (by first|(simp only [seval,go_sem];first|done|fail)) (by first|(simp only [seval,go_sem];first|done|fail)) (by simp only [seval,go_sem];rfl) ?_)
 all_goals (with_reducible refine Tri.loopV (fun (i:Nat)=>[(13,.sc (.int .i64 i)),(5,.slo 60 1 0 i),(7,.any),(8,.any),(9,.any),(14,.any),(15,.any),(16,.any),(17,.any),(18,.any),(19,.any),(20,.any),(21,.any),(22,.any),(23,.any),(24,.any),(25,.any),(26,.any),(27,.any),(28,.any),(29,.any),(30,.any)]) (fun (i:Nat)=>[(60,.row 1 (((p.take i).map fun n=>(dataR ⟨cap,pg⟩ n).1).map rowL)),(23,.dead),(28,.dead),(29,.dead)]) (fun (i:Nat)=>i≤p.length) (fun (i:Nat)=>p.length-i) (0) (Nat.zero_le _) (by intro _;simp (disch:=omega) only [seval,go_sem,cnd,intV,shV,convV,strV];rfl) (by intro _;simp (disch:=omega) only [seval,go_sem,cnd,intV,shV,convV,strV];rfl) (by (refine leQL_spec ?_);(try simp only [seval,go_sem]);first|done|fail) (by (refine leQH_spec ?_);(try simp only [seval,go_sem]);first|done|fail) (fun i hI=>?_))
 all_goals
  by_cases hlt:i<p.length
  ·obtain ⟨n,hn⟩:=get_lt hlt
   have hn':=get_map rowI hn
   have hda:=adata_calls (cap:=cap) (n:=n) hd
   have htk:(p.take (i+1))=p.take i++[n]:=by rw [List.take_add_one,hn];rfl
   have hll:(((p.take i).map fun n=>(dataR ⟨cap,pg⟩ n).1).map rowL).length=i:=by rw [List.length_map,List.length_map,List.length_take];omega
   (all_goals (try have hZ:=(And.intro hn' hll));(repeat' (first|((with_reducible refine isTriD ?_);((with_reducible refine isCallD ?_);((with_reducible ((refine TriD.cJ (dst:=_) [] (by simp only [seval,go_sem,rowI,hZ];rfl) (by simp only [seval,go_sem,rowI,hZ];rfl) (hda) (by simp only [seval,go_sem,rowI,hZ];first|done|fail) (by simp only [seval,go_sem,rowI,hZ];first|done|fail) (by simp only [seval,go_sem,rowI,hZ];rfl) ?_)));refine LVs (st:=[]) ?_)))|(with_reducible (refine TVq (st:=[]) ?_))|simp only [seval,go_sem,rowI,hZ]|(with_reducible refine oV_st (by simp (disch:=omega) only [seval,go_sem,cnd,intV,shV,convV,strV,rowI,hZ];rfl) ?_)))<;>(try (fail));all_goals (try clear hZ))
   all_goals (try ((refine isNextVM (i+1) (Imp.rnTo 29 60 (by decide) (by first|(simp only [seval,go_sem];first|done|fail)) (by simp only [seval,go_sem];rfl) (Imp.les (by (refine leQL_spec ?_);(try simp only [seval,go_sem,htk,rowL,List.map_append,l_3,l_4]);first|((repeat' (with_reducible apply And.intro))<;>first|rfl|(simp [htk,rowL,List.map_append,l_3,l_4];omega));first|done|fail) (by (refine leQH_spec ?_);(try simp only [seval,go_sem,htk,rowL,List.map_append,l_3,l_4]);first|done|fail))) ?_ ?_)<;>(try (omega))))
   all_goals done
  ·have e1:i=p.length:=by omega
   subst e1
   rw [List.take_length]
   have hll:((p.map fun n=>(dataR ⟨cap,pg⟩ n).1).map rowL).length=p.length:=by simp
   have htk:((p.map fun n=>(dataR ⟨cap,pg⟩ n).1).map rowL).take p.length=(p.map fun n=>(dataR ⟨cap,pg⟩ n).1).map rowL:=List.take_of_length_le (by rw [hll];exact Nat.le_refl _)
   (all_goals (try have hZ:=(And.intro hll htk));(repeat' (first|(with_reducible refine isRet ?_;(refine RetOK.frz 60 (by simp only [seval,go_sem];rfl) (by simp only [seval,go_sem,hZ];rfl) ?_);(with_reducible refine isRet ?_;refine RetOK.q rfl rfl (by simp only [seval,go_sem];rfl) (by decide) (by simp only [seval,go_sem];rfl) (by simp only [seval,go_sem];rfl) rfl ?_<;>(try simp only [seval,go_sem,hZ])<;>(repeat' (with_reducible apply And.intro))<;>(try rfl)))|(with_reducible (refine TVq (st:=[]) ?_))|simp only [seval,go_sem,hZ]|(with_reducible refine oV_st (by simp (disch:=omega) only [seval,go_sem,cnd,intV,shV,convV,strV,hZ];rfl) ?_)))<;>(try (fail));all_goals (try clear hZ))
   all_goals done
/-- What the program's Read computes. -/
def readS (s:Sr) (n:ByteArray) (c:Int):List Int×Int:=if (findS s n c).2.2≠0 then ([],(findS s n c).2.2) else (joinR (storedR s.ar (findS s n c).2.1.pages),0)
set_option maxRecDepth 100000 in set_option maxHeartbeats 6400000 in
theorem sread_calls {a1 a2 a3 a4 a5 a6 a7 com last cap:Int} {os:List Ob} {bs:List Bd} {ps:List Pn} {pg:List Pg} {n:ByteArray} {c:Int} (hb:bs.length≤100000) (hp:ps.length≤100000) (hv: ∀ o∈os,o.vers.length≤100000∧ ∀ v∈o.vers,v.pages.length≤1000) (hd: ∀ x∈pg,x.data.length≤1024) (hg:pg.length≤100000):MCalls Try.prog 31 [.box [.sc (.int .i64 a1),.sc (.int .i64 a2),.sc (.int .i64 a3),.sc (.int .i64 a4),.sc (.int .i64 a5),.sc (.int .i64 a6),.sc (.int .i64 a7),.sc (.int .i64 com),.mp 1,.sc (.int .i64 last),.sl 4 (bs.map rowBd),.sl 2 (ps.map rowP),.ref 2 0],.ext (mapX (.int .i64) (mapOb os)),.box [.sc (.int .i64 cap),.mp 3],.ext (mapB (.int .i64) (ownB (mapPg pg)))] [.ref 0 0,.sc (.string n),.sc (.int .i64 c)] (.tup [.sl 1 ((readS ⟨⟨a1,a2,a3,a4,a5,a6,a7⟩,com,last,os,bs,ps,⟨cap,pg⟩⟩ n c).1.map rowW),.sc (.int .i64 (readS ⟨⟨a1,a2,a3,a4,a5,a6,a7⟩,com,last,os,bs,ps,⟨cap,pg⟩⟩ n c).2)]) [.box [.sc (.int .i64 a1),.sc (.int .i64 a2),.sc (.int .i64 a3),.sc (.int .i64 a4),.sc (.int .i64 a5),.sc (.int .i64 a6),.sc (.int .i64 a7),.sc (.int .i64 com),.mp 1,.sc (.int .i64 last),.sl 4 (bs.map rowBd),.sl 2 (ps.map rowP),.ref 2 0],.ext (mapX (.int .i64) (mapOb os)),.box [.sc (.int .i64 cap),.mp 3],.ext (mapB (.int .i64) (ownB (mapPg pg)))]:=by
 have hfi:=sfind_calls (a1:=a1) (a2:=a2) (a3:=a3) (a4:=a4) (a5:=a5) (a6:=a6) (a7:=a7) (com:=com) (last:=last) (cap:=cap) (os:=os) (bs:=bs) (ps:=ps) (pg:=pg) (n:=n) (c:=c) hb hp (fun o ho=>(hv o ho).1)
 have hpg:(findS ⟨⟨a1,a2,a3,a4,a5,a6,a7⟩,com,last,os,bs,ps,⟨cap,pg⟩⟩ n c).2.1.pages.length≤1000:=by
  rcases findS_split ⟨⟨a1,a2,a3,a4,a5,a6,a7⟩,com,last,os,bs,ps,⟨cap,pg⟩⟩ n c with ⟨h1,e⟩|⟨h1,h2,e⟩|⟨h1,h2,h3,e⟩|⟨k,v,h1,h2,h3,h4,e⟩
  ·rw [e];simp [zeroV]
  ·rw [e];simp [zeroV]
  ·rw [e];simp [zeroV]
  ·rw [e]
   simp only at h3 ⊢
   rcases ob_at (lookB n c bs).1 os with ⟨q1,q2,q3,q4,q5⟩|⟨j,o,q1,q2,q3,q4,q5,q6,q7,q8⟩
   ·rw [q5] at h3;simp at h3
   ·rw [q7] at h3;exact (hv o (List.mem_of_getElem? q1)).2 v (List.mem_of_getElem? h3)
 have hdl: ∀ n,(dataR ⟨cap,pg⟩ n).1.length≤1024:=fun m=>by
  rcases pg_at m pg with ⟨h1,_⟩|⟨j,p,h1,h2,h3,h4,_⟩
  ·simp [dataR,h1]
  ·rw [dataR,if_neg (by rw [h3];omega),h4];exact hd p (List.mem_of_getElem? h1)
 unfold readS
 generalize findS ⟨⟨a1,a2,a3,a4,a5,a6,a7⟩,com,last,os,bs,ps,⟨cap,pg⟩⟩ n c=F at *
 obtain ⟨id,⟨f,t,s,p⟩,e⟩:=F
 simp only [rowV] at hfi hpg ⊢
 by_cases he:e=0
 ·subst he
  simp only [ne_eq,not_true_eq_false,if_false]
  have hda:=sdata_calls (a1:=a1) (a2:=a2) (a3:=a3) (a4:=a4) (a5:=a5) (a6:=a6) (a7:=a7) (com:=com) (last:=last) (cap:=cap) (os:=os) (bs:=bs) (ps:=ps) (pg:=pg) (f:=f) (t:=t) (s:=s) (p:=p) (by omega) (fun x hx=>by have:=hd x hx;omega) hg
  have hjo:=join_calls (l:=storedR ⟨cap,pg⟩ p) (by simp [storedR];omega) (fun x hx=>by
   obtain ⟨m,_,rfl⟩:=List.mem_map.1 hx
   have:=hdl m;omega)
  generalize storedR ⟨cap,pg⟩ p=L at *
  refine of_tri [1000,1001,1002,1003] [9,15,24,25] Try.func31 rfl call31 rfl (by decide) (by decide) (by first|rfl) (by first|(simp only [seval,go_sem,List.all_cons,List.all_nil,Bool.and_true,List.length_cons,List.length_nil];done)) Try.ntmps31 (by simp (disch:=omega) only [seval,go_sem,cnd,intV,shV,convV,strV,List.replicate,l_2,l_1];rfl) (by simp (disch:=omega) only [seval,go_sem,cnd,intV,shV,convV,strV,l_2,l_1];rfl) ?_
  ((repeat' (first|((with_reducible refine isTriD ?_);((with_reducible refine isCallD ?_);first|((with_reducible (first|(refine TriD.cK (dst:=_) [] (by simp only [seval,go_sem];rfl) (by simp only [seval,go_sem];rfl) (hfi) (by simp only [seval,go_sem];first|done|fail) (by simp only [seval,go_sem];first|done|fail) (by simp only [seval,go_sem];rfl) ?_)|(refine TriD.cK (dst:=_) [] (by simp only [seval,go_sem];rfl) (by simp only [seval,go_sem];rfl) (hda) (by simp only [seval,go_sem];first|done|fail) (by simp only [seval,go_sem];first|done|fail) (by simp only [seval,go_sem];rfl) ?_)));refine LVs (st:=[]) ?_)|((with_reducible refine LVcall (st:=[]) ?_);simp only [seval,go_sem];(refine CallL.c (hjo) ?_))))|(with_reducible refine isRet ?_;refine RetV (rs:=[.tmp 6,.tmp 7]) (by with_unfolding_all rfl) rfl ?_<;>simp only [seval,go_sem]<;>(repeat' (with_reducible apply And.intro))<;>(try rfl))|(with_reducible (refine TVq (st:=[]) ?_))|simp only [seval,go_sem]|(with_reducible refine oV_st (by simp (disch:=omega) only [seval,go_sem,cnd,intV,shV,convV,strV];rfl) ?_)))<;>(try (fail)))
 ·simp only [ne_eq,he,not_false_eq_true,if_true]
  refine of_tri [1000,1001,1002,1003] [9,15,24,25] Try.func31 rfl call31 rfl (by decide) (by decide) (by first|rfl) (by first|(simp only [seval,go_sem,List.all_cons,List.all_nil,Bool.and_true,List.length_cons,List.length_nil];done)) Try.ntmps31 (by simp (disch:=omega) only [seval,go_sem,cnd,intV,shV,convV,strV,List.replicate,l_2,l_1];rfl) (by simp (disch:=omega) only [seval,go_sem,cnd,intV,shV,convV,strV,l_2,l_1];rfl) ?_
  ((repeat' (first|((with_reducible refine isTriD ?_);((with_reducible refine isCallD ?_);((with_reducible ((refine TriD.cK (dst:=_) [] (by simp only [seval,go_sem,he];rfl) (by simp only [seval,go_sem,he];rfl) (hfi) (by simp only [seval,go_sem,he];first|done|fail) (by simp only [seval,go_sem,he];first|done|fail) (by simp only [seval,go_sem,he];rfl) ?_)));refine LVs (st:=[]) ?_)))|(with_reducible refine isRet ?_;refine RetV (rs:=[.tmp 6,.tmp 7]) (by with_unfolding_all rfl) rfl ?_<;>simp only [seval,go_sem]<;>(repeat' (with_reducible apply And.intro))<;>(try rfl))|(with_reducible (refine TVq (st:=[]) ?_))|simp only [seval,go_sem,he]|(with_reducible refine oV_st (by simp (disch:=omega) only [seval,go_sem,cnd,intV,shV,convV,strV,he];rfl) ?_)))<;>(try (fail)))
end Go.Proofs.Yteemiclhnfkekaa
/- Collector: what its functions compute (plain). -/
set_option linter.unusedSimpArgs false
set_option linter.unusedVariables false
namespace Go.Proofs.Yteemiclhnfkekaa
open Go.RowKit Go.Avm
def cmpI (a b:Int):Int:=if a<b then -1 else if b<a then 1 else 0
/-- The order of versions, as a number. -/
def cmpV (x y:Vn):Int:=if cmpI x.id y.id≠0 then cmpI x.id y.id else cmpI x.v.from_ y.v.from_
def sortV:List Vn→List Vn→List Vn
 | a,[]=>a
 | a,x::l=>sortV (insV x a) l
/-- In order: no later one comes before an earlier one. -/
def AscV (l:List Vn):Prop:=l.Pairwise fun x y=>befV y x=false
structure Vc where
 obj:Int
 frm:Int
 deriving DecidableEq
def rowVc (x:Vc):List D:=[.sc (.int .i64 x.obj), .sc (.int .i64 x.frm)]
def garbV (p:List Pn) (v:Ver):Bool:= !(v.to==0) && !coversP v.from_ v.to p
def vcOf (x:Vn):Vc:=⟨x.id,x.v.from_⟩
def garbR (p:List Pn):List Vn→List Vc
 | []=>[]
 | x::l=>if garbV p x.v=true then vcOf x::garbR p l else garbR p l
def livePgs (p:List Pn):List Vn→List Int
 | []=>[]
 | x::l=>if garbV p x.v=true then livePgs p l else x.v.pages++livePgs p l
def insI (n:Int):List Int→List Int
 | []=>[n]
 | y::l=>if y<n then y::insI n l else if y=n then y::l else n::y::l
def insAll:List Int→List Int→List Int
 | a,[]=>a
 | a,n::l=>insAll (insI n a) l
/-- The pages of all versions that are not garbage, as the reference lists them. -/
def reachR (p:List Pn) (l:List Vn):List Int:=insAll [] (livePgs p l)
def bumpV (x:Vn):Vc:=⟨x.id,if x.v.from_<9223372036854775807 then x.v.from_+1 else x.v.from_⟩
def befP (x:Vn) (a:Vc):Bool:=ptLt x.id x.v.from_ a.obj a.frm
def nextP (p:List Pn) (a:Vc):List Vn→Int→List Vc→Vc→List Vc×Vc×Bool
 | [],_,vs,nx=>(vs,nx,true)
 | x::l,c,vs,nx=>if befP x a=true then nextP p a l c vs nx else if c≤0 then (vs,nx,false) else nextP p a l (c-1) (if garbV p x.v=true then vs++[vcOf x] else vs) (bumpV x)
def skipR (a:Vc):List Vn→List Vn
 | []=>[]
 | x::l=>if befP x a=true then skipR a l else x::l
def nextR (p:List Pn):List Vn→Int→List Vc→Vc→List Vc×Vc×Bool
 | [],_,vs,nx=>(vs,nx,true)
 | x::l,c,vs,nx=>if 0<c then nextR p l (c-1) (if garbV p x.v=true then vs++[vcOf x] else vs) (bumpV x) else (vs,nx,false)
end Go.Proofs.Yteemiclhnfkekaa
/- Collector: sorted and compacted pages are those that the reference puts in their places one by one (plain). -/
set_option linter.unusedSimpArgs false
set_option linter.unusedVariables false
namespace Go.Proofs.Yteemiclhnfkekaa
open Go.RowKit Go.Avm
def sortI (l:List Int):List Int:=l.mergeSort fun x y=>decide (x≤y)
/-- Sorted and compacted. -/
def uniqI (l:List Int):List Int:=Lib.compact (sortI l)
end Go.Proofs.Yteemiclhnfkekaa
/- The library's slices.Sort (at []int and []string) and slices.Compact (at []string), by their contracts on the kit's shelf (the layings written by the kit's lay-shelf and lay-plain for this seat); as contracts of the machine. -/
set_option linter.unusedSimpArgs false
set_option linter.unusedVariables false
namespace Go.Proofs.Yteemiclhnfkekaa
open Go.Shelf
def lays189_ren:Go.Shelf.Ren:=⟨fun|189=>32|125=>50|257=>49|128=>80|129=>81|294=>71|295=>72|296=>73|297=>74|298=>75|299=>76|216=>77|300=>78|301=>79|328=>91|329=>92|330=>93|331=>94|332=>95|215=>96|343=>110|n=>n,fun|28=>22|3=>3|46=>46|0=>0|51=>131|53=>133|4=>4|183=>125|182=>124|131=>105|5=>5|9=>9|218=>139|222=>143|228=>157|229=>158|n=>n,fun|n=>n⟩
def lays190_ren:Go.Shelf.Ren:=⟨fun|190=>57|125=>50|258=>84|128=>80|129=>81|302=>97|303=>98|304=>99|305=>100|306=>101|307=>102|308=>103|309=>104|310=>105|333=>111|329=>92|330=>93|334=>112|335=>113|336=>114|344=>117|n=>n,fun|31=>83|9=>9|3=>3|46=>46|0=>0|51=>131|53=>133|4=>4|183=>125|182=>124|131=>105|5=>5|218=>139|222=>143|228=>157|229=>158|n=>n,fun|n=>n⟩
theorem lays190:Go.Proofs.Lays.n190 Try.prog lays190_ren:={
 mixed:=by kernel_rfl
 f125:=Try.func50.trans (congrArg some (by kernel_rfl))
 f128:=Try.func80.trans (congrArg some (by kernel_rfl))
 f129:=Try.func81.trans (congrArg some (by kernel_rfl))
 f190:=Try.func57.trans (congrArg some (by kernel_rfl))
 f258:=Try.func84.trans (congrArg some (by kernel_rfl))
 f302:=Try.func97.trans (congrArg some (by kernel_rfl))
 f303:=Try.func98.trans (congrArg some (by kernel_rfl))
 f304:=Try.func99.trans (congrArg some (by kernel_rfl))
 f305:=Try.func100.trans (congrArg some (by kernel_rfl))
 f306:=Try.func101.trans (congrArg some (by kernel_rfl))
 f307:=Try.func102.trans (congrArg some (by kernel_rfl))
 f308:=Try.func103.trans (congrArg some (by kernel_rfl))
 f309:=Try.func104.trans (congrArg some (by kernel_rfl))
 f310:=Try.func105.trans (congrArg some (by kernel_rfl))
 f329:=Try.func92.trans (congrArg some (by kernel_rfl))
 f330:=Try.func93.trans (congrArg some (by kernel_rfl))
 f333:=Try.func111.trans (congrArg some (by kernel_rfl))
 f334:=Try.func112.trans (congrArg some (by kernel_rfl))
 f335:=Try.func113.trans (congrArg some (by kernel_rfl))
 f336:=Try.func114.trans (congrArg some (by kernel_rfl))
 f344:=Try.func117.trans (congrArg some (by kernel_rfl))
 t0:=Try.underlying0
 a0:=Try.isAgg0
 z0:=Try.sizeOf0
 v0:=Try.zeroValue0
 t3:=Try.underlying3
 a3:=Try.isAgg3
 z3:=Try.sizeOf3
 v3:=Try.zeroValue3
 t4:=Try.underlying4
 a4:=Try.isAgg4
 z4:=Try.sizeOf4
 v4:=Try.zeroValue4
 t5:=Try.underlying5
 a5:=Try.isAgg5
 z5:=Try.sizeOf5
 v5:=Try.zeroValue5
 t9:=Try.underlying9
 a9:=Try.isAgg9
 z9:=Try.sizeOf9
 v9:=Try.zeroValue9
 t31:=Try.underlying83
 a31:=Try.isAgg83
 z31:=Try.sizeOf83
 v31:=Try.zeroValue83
 t46:=Try.underlying46
 a46:=Try.isAgg46
 z46:=Try.sizeOf46
 v46:=Try.zeroValue46
 t51:=Try.underlying131
 a51:=Try.isAgg131
 z51:=Try.sizeOf131
 v51:=Try.zeroValue131
 t53:=Try.underlying133
 a53:=Try.isAgg133
 z53:=Try.sizeOf133
 v53:=Try.zeroValue133
 t131:=Try.underlying105
 a131:=Try.isAgg105
 z131:=Try.sizeOf105
 v131:=Try.zeroValue105
 t182:=Try.underlying124
 a182:=Try.isAgg124
 z182:=Try.sizeOf124
 v182:=Try.zeroValue124
 t183:=Try.underlying125
 a183:=Try.isAgg125
 z183:=Try.sizeOf125
 v183:=Try.zeroValue125
 t218:=Try.underlying139
 a218:=Try.isAgg139
 z218:=Try.sizeOf139
 v218:=Try.zeroValue139
 t222:=Try.underlying143
 a222:=Try.isAgg143
 z222:=Try.sizeOf143
 v222:=Try.zeroValue143
 t228:=Try.underlying157
 a228:=Try.isAgg157
 z228:=Try.sizeOf157
 v228:=Try.zeroValue157
 t229:=Try.underlying158
 a229:=Try.isAgg158
 z229:=Try.sizeOf158
 v229:=Try.zeroValue158 }
open Go.Sort Go.RowKit in
theorem slices_Sort_string (blk off cap:Nat) (ss:List (List UInt8)) (w:World) (hH:Holds encStr w blk off ss.toArray) (hblk:blk<w.heap.size) (hsz:ss.length<4611686018427387904):
  Calls Try.prog 57 #[.slice (some ⟨blk,off,none⟩) ss.length cap] w fun e w'=>
   e = .returned (.tuple #[])∧ ∃ n os,w'=grow (putRow encStr (Sort.ahead w n) blk off (ss.mergeSort fun x y=>decide (x≤y)).toArray) os:=Any.slices_Sort_string lays190 blk off cap ss w hH hblk hsz
def lays194_ren:Go.Shelf.Ren:=⟨fun|194=>58|n=>n,fun|31=>83|9=>9|3=>3|4=>4|0=>0|n=>n,fun|n=>n⟩
theorem lays194:Go.Proofs.Lays.n194 Try.prog lays194_ren:={
 mixed:=by kernel_rfl
 f194:=Try.func58.trans (congrArg some (by kernel_rfl))
 t0:=Try.underlying0
 a0:=Try.isAgg0
 z0:=Try.sizeOf0
 v0:=Try.zeroValue0
 t3:=Try.underlying3
 a3:=Try.isAgg3
 z3:=Try.sizeOf3
 v3:=Try.zeroValue3
 t4:=Try.underlying4
 a4:=Try.isAgg4
 z4:=Try.sizeOf4
 v4:=Try.zeroValue4
 t9:=Try.underlying9
 a9:=Try.isAgg9
 z9:=Try.sizeOf9
 v9:=Try.zeroValue9
 t31:=Try.underlying83
 a31:=Try.isAgg83
 z31:=Try.sizeOf83
 v31:=Try.zeroValue83 }
open Go.RowKit Go.Lib Go.Sort in
theorem slices_Compact_string (blk off cap:Nat) (zs:List (List UInt8)) (w:World) (hH:Holds encStr w blk off zs.toArray) (hsz:zs.length≤9223372036854775807) (hcap:zs.length≤cap):
  Calls Try.prog 58 #[.slice (some ⟨blk,off,none⟩) zs.length cap] w fun e w'=>e = .returned (.slice (some ⟨blk,off,none⟩) (Lib.compact zs).length cap)∧ ∃ q,w'=putRow encStr (Sort.ahead w q) blk off (Lib.compact zs++List.replicate (zs.length-(Lib.compact zs).length) []).toArray:=Any.slices_Compact_string lays194 blk off cap zs w hH hsz hcap
open Go.RowKit Go.Lib Go.Sort in
theorem slices_Compact_string_empty (a:Option Addr) (cap:Nat) (w:World):
  Calls Try.prog 58 #[.slice a 0 cap] w fun e w'=>e = .returned (.slice a 0 cap)∧w'=w:=Any.slices_Compact_string_empty lays194 a cap w
open Go.RowKit Go.Sort in
theorem slices_Sort_string_none (p:Option Addr) (cap:Nat) (w:World):
  Calls Try.prog 57 #[.slice p 0 cap] w fun e w'=>e = .returned (.tuple #[])∧w'=w:=Any.slices_Sort_string_none lays190 p cap w
open Go.RowKit Go.Avm
end Go.Proofs.Yteemiclhnfkekaa
/- The library's sorting, of this seat: see Sh. -/
set_option linter.unusedSimpArgs false
set_option linter.unusedVariables false
namespace Go.Proofs.Yteemiclhnfkekaa
end Go.Proofs.Yteemiclhnfkekaa
