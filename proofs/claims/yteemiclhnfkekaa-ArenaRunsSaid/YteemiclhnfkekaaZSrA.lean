/- The reference's arena and pages: the walks of its functions. -/
import Derived.Test.YteemiclhnfkekaaZSlInsB
set_option linter.unusedSimpArgs false
set_option linter.unusedVariables false
namespace Go.Proofs.Yteemiclhnfkekaa
open Go.RowKit Go.Avm
set_option maxRecDepth 100000 in set_option maxHeartbeats 3200000 in
theorem index_calls {c n:Int} {l:List Pg} (hl:l.length≤100000):ACalls Try.prog 33 [.agg [.sc (.int .i64 c), .sl 3 (l.map rowPg)], .sc (.int .i64 n)] (.sc (.int .i64 (pgAt n l 0))) []:=by
 refine of_tri [] [2] Try.func33 rfl call33 rfl (by decide) (by decide) rfl rfl Try.ntmps33 (by simp (disch:=omega) only [seval,go_sem,cnd,intV,shV,convV,strV,List.replicate,l_2,l_1];rfl) (by simp (disch:=omega) only [seval,go_sem,cnd,intV,shV,convV,strV,l_2,l_1];rfl) ?_
 ((repeat' (first|(with_reducible (refine TVq (st:=[]) ?_))|simp only [seval,go_sem]))<;>(try (fail)))
 all_goals (with_reducible refine Tri.loopU (fun (k:Nat)=>[(5,.sc (.int .i64 k)),(4,.any),(6,.any),(7,.any),(8,.any),(9,.any),(10,.any),(11,.any),(12,.any),(13,.any),(14,.any),(15,.any),(16,.any),(17,.any),(18,.any),(19,.any),(20,.any),(21,.any)]) (fun (k:Nat)=>[]) (fun (k:Nat)=>k≤l.length∧pgAt n (l.drop k) k=pgAt n l 0) (fun (k:Nat)=>l.length-k) (0) (⟨Nat.zero_le _,rfl⟩) (by intro _;simp (disch:=omega) only [seval,go_sem,cnd,intV,shV,convV,strV];rfl) (by intro _;simp (disch:=omega) only [seval,go_sem,cnd,intV,shV,convV,strV];rfl) (by (refine leQL_spec ?_);(try simp only [seval,go_sem]);first|done|fail) (by (refine leQH_spec ?_);(try simp only [seval,go_sem]);first|done|fail) (fun k hI=>?_))
 all_goals obtain ⟨hk,hf⟩:=hI
 by_cases hlt:k<l.length
 ·obtain ⟨o,ho⟩:=get_lt hlt
  have ho':=get_map rowPg ho
  rw [drop_get ho,pgAt] at hf
  by_cases hc:o.num=n
  ·rw [if_pos hc] at hf
   rw [← hf]
   ((repeat' (first|(with_reducible refine isRet ?_;refine RetV (rs:=[.tmp 4]) (by with_unfolding_all rfl) rfl ?_<;>simp only [seval,go_sem]<;>(repeat' (with_reducible apply And.intro))<;>(try rfl))|(with_reducible (refine TVq (st:=[]) ?_))|simp only [seval,go_sem,ho',rowPg]|(with_reducible refine oV_st (by simp (disch:=omega) only [seval,go_sem,cnd,intV,shV,convV,strV,ho',rowPg];rfl) ?_)))<;>(try (fail)))
  ·rw [if_neg hc] at hf
   ((repeat' (first|(with_reducible (refine TVq (st:=[]) ?_))|simp only [seval,go_sem,ho',rowPg]|(with_reducible refine oV_st (by simp (disch:=omega) only [seval,go_sem,cnd,intV,shV,convV,strV,ho',rowPg];rfl) ?_)))<;>(try (fail)))
   all_goals (try (refine isNextM (k+1) (by (refine leQL_spec ?_);(try simp only [seval,go_sem]);first|((repeat' (with_reducible apply And.intro))<;>first|rfl);first|done|fail) (by (refine leQH_spec ?_);(try simp only [seval,go_sem]);first|done|fail) ?_ ?_<;>(try (omega))))
   all_goals (try exact ⟨by omega,hf⟩)
 ·rw [List.drop_eq_nil_of_le (by omega),pgAt] at hf
  rw [← hf]
  ((repeat' (first|(with_reducible refine isRet ?_;refine RetV (rs:=[.tmp 4]) (by with_unfolding_all rfl) rfl ?_<;>simp only [seval,go_sem]<;>(repeat' (with_reducible apply And.intro))<;>(try rfl))|(with_reducible (refine TVq (st:=[]) ?_))|simp only [seval,go_sem]|(with_reducible refine oV_st (by simp (disch:=omega) only [seval,go_sem,cnd,intV,shV,convV,strV];rfl) ?_)))<;>(try (fail)))
/-- A number's place: none, or one that has it. -/
theorem pgAt_split (n:Int) (l:List Pg):(pgAt n l 0 = -1)∨ ∃ (j:Nat) (p:Pg),l[j]? = some p∧j<l.length∧pgAt n l 0=(j:Int)∧pgGet l (pgAt n l 0)=p:=by
 rcases pgAt_cases n l 0 with ⟨h,_⟩|⟨j,p,h1,h2,h3,_⟩
 ·exact .inl h
 ·rw [Nat.zero_add] at h3
  exact .inr ⟨j,p,h1,(List.getElem?_eq_some_iff.1 h1).1,h3,by simp [pgGet,h3,h1]⟩
set_option maxRecDepth 100000 in set_option maxHeartbeats 3200000 in
theorem rdata_calls {c n:Int} {l:List Pg} (hl:l.length≤100000) (hd: ∀ p∈l,p.data.length≤1000000):ACalls Try.prog 21 [.agg [.sc (.int .i64 c), .sl 3 (l.map rowPg)], .sc (.int .i64 n)] (.tup [.sl 1 ((dataR ⟨c,l⟩ n).1.map rowW), .sc (.int .i64 (dataR ⟨c,l⟩ n).2)]) []:=by
 have hix:=index_calls (c:=c) (n:=n) hl
 rcases pgAt_split n l with h|⟨j,p,h1,h2,h3,h4⟩
 ·have e:dataR ⟨c,l⟩ n=([],8):=by simp [dataR,h]
  rw [e]
  rw [h] at hix
  refine of_tri [] [2,9,18] Try.func21 rfl call21 rfl (by decide) (by decide) rfl rfl Try.ntmps21 (by simp (disch:=omega) only [seval,go_sem,cnd,intV,shV,convV,strV,List.replicate,l_2,l_1];rfl) (by simp (disch:=omega) only [seval,go_sem,cnd,intV,shV,convV,strV,l_2,l_1];rfl) ?_
  ((repeat' (first|((with_reducible refine isTriD ?_);((with_reducible refine isCallD ?_);((with_reducible refine LVcall (st:=[]) ?_);simp only [seval,go_sem];(refine CallL.c (hix) ?_))))|(with_reducible refine isRet ?_;refine RetV (rs:=[.tmp 4,.tmp 5]) (by with_unfolding_all rfl) rfl ?_<;>simp only [seval,go_sem]<;>(repeat' (with_reducible apply And.intro))<;>(try rfl))|(with_reducible (refine TVq (st:=[]) ?_))|simp only [seval,go_sem]|(with_reducible refine oV_st (by simp (disch:=omega) only [seval,go_sem,cnd,intV,shV,convV,strV];rfl) ?_)))<;>(try (fail)))
 ·have e:dataR ⟨c,l⟩ n=(p.data,0):=by rw [dataR,if_neg (by rw [h3];omega),h4]
  rw [e]
  rw [h3] at hix
  have h1':=get_map rowPg h1
  have hdl:=hd p (List.mem_of_getElem? h1)
  refine of_tri [] [2,9,18] Try.func21 rfl call21 rfl (by decide) (by decide) rfl rfl Try.ntmps21 (by simp (disch:=omega) only [seval,go_sem,cnd,intV,shV,convV,strV,List.replicate,l_2,l_1];rfl) (by simp (disch:=omega) only [seval,go_sem,cnd,intV,shV,convV,strV,l_2,l_1];rfl) ?_
  ((repeat' (first|((with_reducible refine isTriD ?_);((with_reducible refine isCallD ?_);((with_reducible refine LVcall (st:=[]) ?_);simp only [seval,go_sem,h1',rowPg];(refine CallL.c (hix) ?_))))|(with_reducible refine isRet ?_;(refine RetOK.frz 18 (by simp only [seval,go_sem];rfl) (by simp only [seval,go_sem,h1',rowPg];rfl) ?_);(with_reducible refine isRet ?_;refine RetOK.q rfl rfl (by simp only [seval,go_sem];rfl) (by decide) (by simp only [seval,go_sem];rfl) (by simp only [seval,go_sem];rfl) rfl ?_<;>(try simp only [seval,go_sem,h1',rowPg])<;>(repeat' (with_reducible apply And.intro))<;>(try rfl)))|(with_reducible (refine TVq (st:=[]) ?_))|simp only [seval,go_sem,h1',rowPg]|(with_reducible refine oV_st (by simp (disch:=omega) only [seval,go_sem,cnd,intV,shV,convV,strV,h1',rowPg];rfl) ?_)))<;>(try (fail)))
  all_goals (try simp)
theorem wrS (n:Int):IntKind.i64.wrap n=wr n:=rfl
set_option maxRecDepth 100000 in set_option maxHeartbeats 6400000 in
theorem rhold_calls {c n:Int} {l:List Pg} (hl:l.length≤100000):ACalls Try.prog 19 [.agg [.sc (.int .i64 c),.sl 3 (l.map rowPg)],.sc (.int .i64 n)] (.tup [.agg [.sc (.int .i64 (holdR ⟨c,l⟩ n).1.cap),.sl 3 ((holdR ⟨c,l⟩ n).1.pages.map rowPg)],.sc (.int .i64 (holdR ⟨c,l⟩ n).2)]) []:=by
 have hix:=index_calls (c:=c) (n:=n) hl
 rcases pgAt_split n l with h|⟨j,p,h1,h2,h3,h4⟩
 ·have e:holdR ⟨c,l⟩ n=(⟨c,l⟩,8):=by simp [holdR,h]
  rw [e]
  rw [h] at hix
  refine of_tri [] [2,4,10,16] Try.func19 rfl call19 rfl (by decide) (by decide) rfl rfl Try.ntmps19 (by simp (disch:=omega) only [seval,go_sem,cnd,intV,shV,convV,strV,List.replicate,l_2,l_1];rfl) (by simp (disch:=omega) only [seval,go_sem,cnd,intV,shV,convV,strV,l_2,l_1];rfl) ?_
  ((repeat' (first|((with_reducible refine isTriD ?_);((with_reducible refine isCallD ?_);((with_reducible refine LVcall (st:=[]) ?_);simp only [seval,go_sem];(refine CallL.c (hix) ?_))))|(with_reducible refine isRet ?_;refine RetV (rs:=[.cell 4 45,.tmp 5]) (by with_unfolding_all rfl) rfl ?_<;>simp only [seval,go_sem]<;>(repeat' (with_reducible apply And.intro))<;>(try rfl))|(with_reducible (refine TVq (st:=[]) ?_))|simp only [seval,go_sem]|(with_reducible refine oV_st (by simp (disch:=omega) only [seval,go_sem,cnd,intV,shV,convV,strV];rfl) ?_)))<;>(try (fail)))
 ·have e:holdR ⟨c,l⟩ n=(⟨c,l.set j ⟨p.num,wr (p.refs+1),p.data⟩⟩,0):=by
   simp only [holdR]
   rw [if_neg (by rw [h3];omega),setRefs,h4,h3,Int.toNat_natCast]
  rw [e]
  rw [h3] at hix
  have h1':=get_map rowPg h1
  refine of_tri [] [2,4,10,16] Try.func19 rfl call19 rfl (by decide) (by decide) rfl rfl Try.ntmps19 (by simp (disch:=omega) only [seval,go_sem,cnd,intV,shV,convV,strV,List.replicate,l_2,l_1];rfl) (by simp (disch:=omega) only [seval,go_sem,cnd,intV,shV,convV,strV,l_2,l_1];rfl) ?_
  ((repeat' (first|((with_reducible refine isTriD ?_);((with_reducible refine isCallD ?_);((with_reducible refine LVcall (st:=[]) ?_);simp only [seval,go_sem,h1',rowPg,wrS];(refine CallL.c (hix) ?_))))|(with_reducible refine isRet ?_;(refine RetOK.frz 16 (by simp only [seval,go_sem];rfl) (by simp only [seval,go_sem,h1',rowPg,wrS];rfl) ?_);(with_reducible refine isRet ?_;refine RetOK.q rfl (by with_unfolding_all (show retD _ _ [.cell 4 45,.tmp 5]=_);simp only [seval,go_sem];rfl) (by simp only [seval,go_sem];rfl) (by decide) (by simp only [seval,go_sem];rfl) (by simp only [seval,go_sem];rfl) rfl ?_<;>(try simp only [seval,go_sem,h1',rowPg,wrS])<;>(repeat' (with_reducible apply And.intro))<;>(try rfl)))|(with_reducible (refine TVq (st:=[]) ?_))|simp only [seval,go_sem,h1',rowPg,wrS]|(with_reducible refine oV_st (by simp (disch:=omega) only [seval,go_sem,cnd,intV,shV,convV,strV,h1',rowPg,wrS];rfl) ?_)))<;>(try (fail)))
  all_goals (try (first|(simp [rowPg,List.map_set];done)|exact List.take_of_length_le (by simp)))
set_option maxRecDepth 100000 in set_option maxHeartbeats 6400000 in
theorem rrel_calls {c n:Int} {l:List Pg} (hl:l.length≤100000):ACalls Try.prog 20 [.agg [.sc (.int .i64 c),.sl 3 (l.map rowPg)],.sc (.int .i64 n)] (.tup [.agg [.sc (.int .i64 (releaseR ⟨c,l⟩ n).1.cap),.sl 3 ((releaseR ⟨c,l⟩ n).1.pages.map rowPg)],.sc (.bool (releaseR ⟨c,l⟩ n).2.1),.sc (.int .i64 (releaseR ⟨c,l⟩ n).2.2)]) []:=by
 have hix:=index_calls (c:=c) (n:=n) hl
 rcases pgAt_split n l with h|⟨j,p,h1,h2,h3,h4⟩
 ·have e:releaseR ⟨c,l⟩ n=(⟨c,l⟩,false,8):=by simp [releaseR,h]
  rw [e]
  rw [h] at hix
  refine of_tri [] [2,4,11,17,45] Try.func20 rfl call20 rfl (by decide) (by decide) rfl rfl Try.ntmps20 (by simp (disch:=omega) only [seval,go_sem,cnd,intV,shV,convV,strV,List.replicate,l_2,l_1];rfl) (by simp (disch:=omega) only [seval,go_sem,cnd,intV,shV,convV,strV,l_2,l_1];rfl) ?_
  ((repeat' (first|((with_reducible refine isTriD ?_);((with_reducible refine isCallD ?_);((with_reducible refine LVcall (st:=[]) ?_);simp only [seval,go_sem];(refine CallL.c (hix) ?_))))|(with_reducible refine isRet ?_;refine RetV (rs:=[.cell 4 45,.tmp 5,.tmp 6]) (by with_unfolding_all rfl) rfl ?_<;>simp only [seval,go_sem]<;>(repeat' (with_reducible apply And.intro))<;>(try rfl))|(with_reducible (refine TVq (st:=[]) ?_))|simp only [seval,go_sem]|(with_reducible refine oV_st (by simp (disch:=omega) only [seval,go_sem,cnd,intV,shV,convV,strV];rfl) ?_)))<;>(try (fail)))
 ·rw [h3] at hix
  have h1':=get_map rowPg h1
  have hsr: ∀ r,((l.map rowPg).set j [.sc (.int .i64 p.num), .sc (.int .i64 r), .sl 1 (p.data.map rowW)])[j]? = some [.sc (.int .i64 p.num), .sc (.int .i64 r), .sl 1 (p.data.map rowW)]:=fun r=>List.getElem?_set_self (by rw [List.length_map];exact h2)
  have hls: ∀ r,((l.map rowPg).set j [.sc (.int .i64 p.num), .sc (.int .i64 r), .sl 1 (p.data.map rowW)]).length=l.length:=fun r=>by simp
  have hls2:=hls (wr (p.refs-1))
  by_cases hw:0<wr (p.refs-1)
  ·have e:releaseR ⟨c,l⟩ n=(⟨c,l.set j ⟨p.num,wr (p.refs-1),p.data⟩⟩,false,0):=by
    simp only [releaseR]
    rw [if_neg (by rw [h3];omega),h4,if_pos hw,setRefs,h4,h3,Int.toNat_natCast]
   rw [e]
   refine of_tri [] [2,4,11,17,45] Try.func20 rfl call20 rfl (by decide) (by decide) rfl rfl Try.ntmps20 (by simp (disch:=omega) only [seval,go_sem,cnd,intV,shV,convV,strV,List.replicate,l_2,l_1];rfl) (by simp (disch:=omega) only [seval,go_sem,cnd,intV,shV,convV,strV,l_2,l_1];rfl) ?_
   (all_goals (try have hZ:=(And.intro h1' hsr));(repeat' (first|((with_reducible refine isTriD ?_);((with_reducible refine isCallD ?_);((with_reducible refine LVcall (st:=[]) ?_);simp only [seval,go_sem,rowPg,wrS,hZ];(refine CallL.c (hix) ?_))))|(with_reducible refine isRet ?_;(refine RetOK.frz 17 (by simp only [seval,go_sem];rfl) (by simp only [seval,go_sem,rowPg,wrS,hZ];rfl) ?_);(with_reducible refine isRet ?_;refine RetOK.q rfl (by with_unfolding_all (show retD _ _ [.cell 4 45,.tmp 5,.tmp 6]=_);simp only [seval,go_sem];rfl) (by simp only [seval,go_sem];rfl) (by decide) (by simp only [seval,go_sem];rfl) (by simp only [seval,go_sem];rfl) rfl ?_<;>(try simp only [seval,go_sem,rowPg,wrS,hZ])<;>(repeat' (with_reducible apply And.intro))<;>(try rfl)))|(with_reducible (refine TVq (st:=[]) ?_))|simp only [seval,go_sem,rowPg,wrS,hZ]|(with_reducible refine oV_st (by simp (disch:=omega) only [seval,go_sem,cnd,intV,shV,convV,strV,rowPg,wrS,hZ];rfl) ?_)))<;>(try (fail));all_goals (try clear hZ))
   all_goals (try (first|(simp [rowPg,List.map_set];done)|exact List.take_of_length_le (by simp)))
  ·have e:releaseR ⟨c,l⟩ n=(⟨c,delAt l (j:Int)⟩,true,0):=by
    simp only [releaseR]
    rw [if_neg (by rw [h3];omega),h4,if_neg hw,h3]
   rw [e]
   refine of_tri [] [2,4,11,17,45] Try.func20 rfl call20 rfl (by decide) (by decide) rfl rfl Try.ntmps20 (by simp (disch:=omega) only [seval,go_sem,cnd,intV,shV,convV,strV,List.replicate,l_2,l_1];rfl) (by simp (disch:=omega) only [seval,go_sem,cnd,intV,shV,convV,strV,l_2,l_1];rfl) ?_
   have ht1:List.take (l.length-(j+1)) (List.drop (j+1) ((l.map rowPg).set j [.sc (.int .i64 p.num), .sc (.int .i64 (wr (p.refs-1))), .sl 1 (p.data.map rowW)]))=(l.drop (j+1)).map rowPg:=by
    rw [List.drop_set_of_lt (by omega), ← List.map_drop]
    exact List.take_of_length_le (by simp)
   have ht2:List.take j ((l.map rowPg).set j [.sc (.int .i64 p.num), .sc (.int .i64 (wr (p.refs-1))), .sl 1 (p.data.map rowW)])=(l.take j).map rowPg:=by
    rw [List.take_set_of_le (by omega),List.map_take]
   have hln:((l.drop (j+1)).map rowPg).length=l.length-(j+1):=by simp
   have htk: ∀ X,List.take (j+(l.length-(j+1))) ((l.take j).map rowPg++(l.drop (j+1)).map rowPg++X)=(delAt l (j:Int)).map rowPg:=fun X=>by
    rw [List.take_append_of_le_length (by simp;omega),List.take_of_length_le (by simp;omega),delAt,Int.toNat_natCast,List.map_append]
   have hle: ∀ X,j+(l.length-(j+1))≤((l.take j).map rowPg++(l.drop (j+1)).map rowPg++X).length:=fun X=>by
    rw [List.length_append,List.length_append,List.length_map,List.length_map,List.length_take,List.length_drop];omega
   (all_goals (try have hZ:=(And.intro h1' (And.intro hsr (And.intro ht1 (And.intro ht2 (And.intro hln (And.intro htk hle)))))));(repeat' (first|((with_reducible refine isTriD ?_);first|((with_reducible refine isCallD ?_);((with_reducible refine LVcall (st:=[]) ?_);simp only [seval,go_sem,rowPg,wrS,hZ];(refine CallL.c (hix) ?_)))|((with_reducible first|refine TriD.step (by simp only [seval,go_sem,rowPg,wrS,hZ];rfl) ?_);refine LVs (st:=[]) ?_)|(with_reducible refine isAppend ?_;with_reducible refine TriD.appPre (by simp only [seval,go_sem,rowPg,wrS,hZ]) (by simp only [seval,go_sem,rowPg,wrS,hZ];rfl) (by simp only [seval,go_sem,rowPg,wrS,hZ];rfl) (by simp only [seval,go_sem,rowPg,wrS,hZ];rfl) rfl (by decide) (by decide) (by decide) (by simp only [seval,go_sem,rowPg,wrS,hZ];rfl) (by simp only [seval,go_sem,rowPg,wrS,hZ];rfl) (by simp (disch:=omega) only [seval,go_sem,cnd,intV,shV,convV,strV,rowPg,wrS,hZ];rfl) (by (try simp only [anyR_len,List.length_map,List.length_append,List.length_cons,List.length_nil,List.length_take,List.length_drop,List.length_replicate,splice,Nat.reduceMul]);omega) (by (try simp only [anyR_len,List.length_map,List.length_append,List.length_cons,List.length_nil,List.length_take,List.length_drop,List.length_replicate,splice,Nat.reduceMul]);omega) ?_;refine LVs (st:=[]) ?_))|(with_reducible refine isDrawnN 8 ?_;refine Tri.mixedP 8 mix 14 rfl (.f 0 <| .f 2 <| .f 3 <| .f 4 <| .f 5 <| .f 6 <| .f 7 <| .f 8 <| .a <| .b 1 (.a <| .b 9 (.a <| .b 10 (.a <| .b 11 (.f 12 <| .f 13 <| .d) .e) .e) .e) <| .b 9 (.a <| .b 1 (.a <| .b 10 (.a <| .b 11 (.f 12 <| .f 13 <| .d) .e) .e) .e) .e) (by kernel_rfl) ?_)|(with_reducible refine isAnyP ?_;first|refine AnyP.D ?_|refine AnyP.F (by simp only [seval,go_sem,l_7,l_6];rfl) (by first|(simp only [seval,go_sem,rowPg,wrS,hZ];first|done|fail)) (by first|(simp only [seval,go_sem,rowPg,wrS,hZ];with_reducible rfl)|(simp (disch:=omega) only [seval,go_sem,cnd,intV,shV,convV,strV,rowPg,wrS,hZ];with_reducible rfl)) ?_|refine AnyP.A ?_)|(with_reducible first|exact NextsP.E|refine NextsP.B (by simp only [seval,go_sem,l_7,l_6];rfl) ?_ ?_)|(with_reducible refine isRet ?_;(refine RetOK.frz 17 (by simp only [seval,go_sem];rfl) (by simp only [seval,go_sem,rowPg,wrS,hZ];rfl) ?_);(with_reducible refine isRet ?_;refine RetOK.q rfl (by with_unfolding_all (show retD _ _ [.cell 4 45,.tmp 5,.tmp 6]=_);simp only [seval,go_sem];rfl) (by simp only [seval,go_sem];rfl) (by decide) (by simp only [seval,go_sem];rfl) (by simp only [seval,go_sem];rfl) rfl ?_<;>(try simp only [seval,go_sem,rowPg,wrS,hZ])<;>(repeat' (with_reducible apply And.intro))<;>(try rfl)))|(with_reducible (refine TVq (st:=[]) ?_))|simp only [seval,go_sem,rowPg,wrS,hZ]|(with_reducible refine oV_st (by simp (disch:=omega) only [seval,go_sem,cnd,intV,shV,convV,strV,rowPg,wrS,hZ];rfl) ?_)))<;>(try (fail));all_goals (try clear hZ))
theorem mem_le (m:Nat): ∀ l:List Int,(∀ i:Nat,1≤i→i≤m→(i:Int)∈l)→m≤l.length:=by
 induction m with
 | zero=>intro _ _;exact Nat.zero_le _
 | succ m ih=>
   intro l h
   have h1:=ih (l.filter (fun x=>x != ((m+1:Nat):Int))) (fun i a b=>by
    rw [List.mem_filter]
    exact ⟨h i a (by omega),by simp;omega⟩)
   have h2:(l.filter (fun x=>x != ((m+1:Nat):Int))).length<l.length:=by
    rw [List.length_filter_lt_length_iff_exists]
    exact ⟨((m+1:Nat):Int),h (m+1) (by omega) (by omega),by simp⟩
   omega
theorem pgAt_mem {n:Int} {l:List Pg} (h: ¬ pgAt n l 0<0):n∈l.map (·.num):=by
 rcases pgAt_cases n l 0 with ⟨h1,_⟩|⟨j,p,h1,h2,_⟩
 ·omega
 ·exact List.mem_map.2 ⟨p,List.mem_of_getElem? h1,h2⟩
theorem freeGo_step {l:List Pg} {k:Nat} (hk:k≤l.length) (hf:freeGo l (l.length+1-k) (1+k)=freeN l):(pgAt (1+(k:Int)) l 0<0→freeN l=1+k)∧(¬ pgAt (1+(k:Int)) l 0<0→freeGo l (l.length+1-(k+1)) (1+((k+1:Nat):Int))=freeN l):=by
 rw [show l.length+1-k=(l.length-k)+1 by omega,freeGo] at hf
 refine ⟨fun h=>by rw [if_pos h] at hf;exact hf.symm,fun h=>?_⟩
 rw [if_neg h] at hf
 rw [show l.length+1-(k+1)=l.length-k by omega,show (1+((k+1:Nat):Int))=1+(k:Int)+1 by omega]
 exact hf
set_option maxRecDepth 100000 in set_option maxHeartbeats 12800000 in
theorem ralloc_calls {c:Int} {l:List Pg} {d:List Int} (hl:l.length≤100000) (hd:d.length≤1000000):ACalls Try.prog 18 [.agg [.sc (.int .i64 c),.sl 3 (l.map rowPg)],.sl 1 (d.map rowW)] (.tup [.agg [.sc (.int .i64 (allocR ⟨c,l⟩ d).1.cap),.sl 3 ((allocR ⟨c,l⟩ d).1.pages.map rowPg)],.sc (.int .i64 (allocR ⟨c,l⟩ d).2.1),.sc (.int .i64 (allocR ⟨c,l⟩ d).2.2)]) []:=by
 by_cases c1:1024<(d.length:Int)
 ·have e:allocR ⟨c,l⟩ d=(⟨c,l⟩,0,11):=by rw [allocR,if_pos c1]
  rw [e]
  refine of_tri [] [2,4,8,24,30,34,36,37] Try.func18 rfl call18 rfl (by decide) (by decide) rfl rfl Try.ntmps18 (by simp (disch:=omega) only [seval,go_sem,cnd,intV,shV,convV,strV,List.replicate,l_2,l_1];rfl) (by simp (disch:=omega) only [seval,go_sem,cnd,intV,shV,convV,strV,l_2,l_1];rfl) ?_
  ((repeat' (first|(with_reducible refine isRet ?_;refine RetV (rs:=[.cell 4 45,.tmp 5,.tmp 6]) (by with_unfolding_all rfl) rfl ?_<;>simp only [seval,go_sem]<;>(repeat' (with_reducible apply And.intro))<;>(try rfl))|(with_reducible (refine TVq (st:=[]) ?_))|simp only [seval,go_sem]|(with_reducible refine oV_st (by simp (disch:=omega) only [seval,go_sem,cnd,intV,shV,convV,strV];rfl) ?_)))<;>(try (fail)))
 by_cases c2:c≤(l.length:Int)
 ·have e:allocR ⟨c,l⟩ d=(⟨c,l⟩,0,14):=by rw [allocR,if_neg c1];exact if_pos c2
  rw [e]
  refine of_tri [] [2,4,8,24,30,34,36,37] Try.func18 rfl call18 rfl (by decide) (by decide) rfl rfl Try.ntmps18 (by simp (disch:=omega) only [seval,go_sem,cnd,intV,shV,convV,strV,List.replicate,l_2,l_1];rfl) (by simp (disch:=omega) only [seval,go_sem,cnd,intV,shV,convV,strV,l_2,l_1];rfl) ?_
  ((repeat' (first|(with_reducible refine isRet ?_;refine RetV (rs:=[.cell 4 45,.tmp 5,.tmp 6]) (by with_unfolding_all rfl) rfl ?_<;>simp only [seval,go_sem]<;>(repeat' (with_reducible apply And.intro))<;>(try rfl))|(with_reducible (refine TVq (st:=[]) ?_))|simp only [seval,go_sem]|(with_reducible refine oV_st (by simp (disch:=omega) only [seval,go_sem,cnd,intV,shV,convV,strV];rfl) ?_)))<;>(try (fail)))
 have e:allocR ⟨c,l⟩ d=(⟨c,insPg ⟨freeN l,1,d⟩ l⟩,freeN l,0):=by rw [allocR,if_neg c1];exact if_neg c2
 rw [e]
 simp only
 generalize hN:freeN l=N
 have hN':freeGo l (l.length+1) 1=N:=hN
 have hix:=fun m=>index_calls (c:=c) (n:=m) hl
 refine of_tri [] [2,4,8,24,30,34,36,37] Try.func18 rfl call18 rfl (by decide) (by decide) rfl rfl Try.ntmps18 (by simp (disch:=omega) only [seval,go_sem,cnd,intV,shV,convV,strV,List.replicate,l_2,l_1];rfl) (by simp (disch:=omega) only [seval,go_sem,cnd,intV,shV,convV,strV,l_2,l_1];rfl) ?_
 ((repeat' (first|(with_reducible (refine TVq (st:=[]) ?_))|simp only [seval,go_sem]|(with_reducible refine oV_st (by simp (disch:=omega) only [seval,go_sem,cnd,intV,shV,convV,strV];rfl) ?_)))<;>(try (fail)))
 all_goals (refine Tri.bx 2 (by simp only [seval,go_sem];rfl) (by simp only [seval,go_sem];first|done|rfl) (by simp only [seval,go_sem];rfl) ?_)
 all_goals (with_reducible refine Tri.loopU (fun (k:Nat)=>[(7,.sc (.int .i64 (1+k))),(22,.any),(23,.any),(24,.any),(25,.any),(26,.any),(27,.any)]) (fun (k:Nat)=>[(24,.dead)]) (fun (k:Nat)=>k≤l.length∧freeGo l (l.length+1-k) (1+k)=N∧ ∀ i:Nat,1≤i→i≤k→(i:Int)∈l.map (·.num)) (fun (k:Nat)=>l.length+1-k) (0) (⟨Nat.zero_le _,by simpa using hN',by omega⟩) (by intro _;simp (disch:=omega) only [seval,go_sem,cnd,intV,shV,convV,strV];rfl) (by intro _;simp (disch:=omega) only [seval,go_sem,cnd,intV,shV,convV,strV];rfl) (by (refine leQL_spec ?_);(try simp only [seval,go_sem]);first|done|fail) (by (refine leQH_spec ?_);(try simp only [seval,go_sem]);first|done|fail) (fun k hI=>?_))
 all_goals
  obtain ⟨hk,hf,hmem⟩:=hI
  obtain ⟨g1,g2⟩:=freeGo_step hk (hf.trans hN.symm)
  rw [hN] at g1 g2
  have hic:=hix (1+(k:Int))
  by_cases hp:pgAt (1+(k:Int)) l 0<0
  ·have hNk:=g1 hp
   generalize pgAt (1+(k:Int)) l 0=z at hic hp
   have hl1:(List.map rowPg l++[[D.sc (.int .i64 (1+(k:Int))),D.sc (.int .i64 1),D.sl 1 (d.map rowW)]]).length=l.length+1:=by simp
   have hen:(List.map rowPg l++[[D.sc (.int .i64 (1+(k:Int))),D.sc (.int .i64 1),D.sl 1 (d.map rowW)]])=(insAt l l.length ⟨1+k,1,d⟩).map rowPg:=by rw [insAt_end];simp [rowPg]
   ((repeat' (first|((with_reducible refine isTriD ?_);first|(with_reducible refine TriD.frz 30 (by simp only [seval,go_sem,hl1];rfl) (by simp only [seval,go_sem,hl1];rfl) ?_;refine LVs (st:=[]) ?_)|((with_reducible refine isCallD ?_);((with_reducible refine LVcall (st:=[]) ?_);simp only [seval,go_sem,hl1];(refine CallL.c (hic) ?_;simp only [seval,go_sem,hl1];(fail_if_success (with_reducible refine isResV ?_)))))|((with_reducible first|refine TriD.step (by simp only [seval,go_sem,hl1];rfl) ?_|refine TriD.step (by simp (disch:=omega) only [seval,go_sem,cnd,intV,shV,convV,strV,hl1];rfl) ?_);refine LVs (st:=[]) ?_))|(with_reducible refine isDrawnN 9 ?_;refine Tri.mixedP 9 mix 7 rfl (.f 0 <| .a <| .b 1 (.a <| .b 2 (.a <| .b 3 (.a <| .b 4 (.a <| .b 5 (.f 6 <| .d) .e) .e) .e) <| .b 3 (.a <| .b 2 (.a <| .b 4 (.a <| .b 5 (.f 6 <| .d) .e) .e) <| .b 4 (.a <| .b 2 (.a <| .b 5 (.f 6 <| .d) .e) .e) .e) .e) <| .b 3 (.a <| .b 1 (.a <| .b 2 (.a <| .b 4 (.a <| .b 5 (.f 6 <| .d) .e) .e) <| .b 4 (.a <| .b 2 (.a <| .b 5 (.f 6 <| .d) .e) .e) .e) <| .b 4 (.a <| .b 1 (.a <| .b 2 (.a <| .b 5 (.f 6 <| .d) .e) .e) .e) .e) .e) (by kernel_rfl) ?_)|(with_reducible refine isAnyP ?_;first|refine AnyP.D ?_|refine AnyP.F (by simp only [seval,go_sem,l_7,l_6];rfl) (by first|(simp only [seval,go_sem,hl1];first|done|fail)) (by first|(simp only [seval,go_sem,hl1];with_reducible rfl)) ?_|refine AnyP.A ?_)|(with_reducible first|exact NextsP.E|refine NextsP.B (by simp only [seval,go_sem,l_7,l_6];rfl) ?_ ?_)|(with_reducible (refine TVq (st:=[]) ?_))|simp only [seval,go_sem,hl1]|(with_reducible refine oV_st (by simp (disch:=omega) only [seval,go_sem,cnd,intV,shV,convV,strV,hl1];rfl) ?_)))<;>(try (fail)))
   all_goals (with_reducible refine Tri.loopU (fun (j2:Nat)=>[(10,.sc (.int .i64 j2)),(9,.slo 37 3 0 (l.length+1)),(41,.any),(42,.any),(43,.any),(44,.any),(45,.any),(46,.any),(47,.any),(48,.any),(49,.any),(50,.any),(51,.any),(52,.any),(53,.any),(54,.any),(55,.any),(56,.any),(57,.any),(58,.any),(59,.any),(60,.any),(61,.any),(62,.any),(63,.any),(64,.any),(65,.any),(66,.any),(67,.any),(68,.any),(69,.any),(70,.any),(71,.any),(72,.any),(73,.any),(74,.any)]) (fun (j2:Nat)=>[(37,.row 3 ((insAt l j2 ⟨1+k,1,d⟩).map rowPg))]) (fun (j2:Nat)=>j2≤l.length∧stopAt (fun i=>decide (1+(k:Int)<(pgGet l i).num)) j2=stopAt (fun i=>decide (1+(k:Int)<(pgGet l i).num)) l.length) (fun (j2:Nat)=>j2) (l.length) (⟨Nat.le_refl _,rfl⟩) (by intro _;simp (disch:=omega) only [seval,go_sem,cnd,intV,shV,convV,strV];rfl) (by intro _;simp (disch:=omega) only [seval,go_sem,cnd,intV,shV,convV,strV];rfl) (by (refine leQL_spec ?_);(try simp only [seval,go_sem,hen]);first|((repeat' (with_reducible apply And.intro))<;>first|omega);first|done|fail) (by (refine leQH_spec ?_);(try simp only [seval,go_sem,hen]);first|done|fail) (fun j2 hI=>?_))
   all_goals
    obtain ⟨hj2,hst⟩:=hI
    have hins:stopAt (fun i=>decide (1+(k:Int)<(pgGet l i).num)) l.length=j2→insPg ⟨N,1,d⟩ l=insAt l j2 ⟨1+k,1,d⟩:=fun h=>by rw [hNk,insPg,h]
    have hli:(insAt l j2 (⟨1+k,1,d⟩:Pg)).length=l.length+1:=insAt_len hj2
    have hll:((insAt l j2 (⟨1+k,1,d⟩:Pg)).map rowPg).length=l.length+1:=by rw [List.length_map];exact hli
    have htk:((insAt l j2 (⟨1+k,1,d⟩:Pg)).map rowPg).take (l.length+1)=(insAt l j2 (⟨1+k,1,d⟩:Pg)).map rowPg:=List.take_of_length_le (by rw [hll];exact Nat.le_refl _)
    rcases j2 with _|j2
    ·rw [hins (by rw [← hst];rfl),hNk]
     (all_goals (try have hZ:=(And.intro hll htk));(repeat' (first|(with_reducible refine ListD.nil ?_)|((with_reducible refine isListD ?_);(with_reducible first|refine ListD.step (by simp only [seval,go_sem,hZ];rfl) ?_|refine ListD.step (by simp (disch:=omega) only [seval,go_sem,cnd,intV,shV,convV,strV,hZ];rfl) ?_))|(with_reducible refine isDrawn ?_;refine Tri.drawnD mix (by kernel_rfl) (by simp only [l_3,l_4];rfl) ?_)|(with_reducible refine isRet ?_;(refine RetOK.frz 37 (by simp only [seval,go_sem];rfl) (by simp only [seval,go_sem,hZ];rfl) ?_);(with_reducible refine isRet ?_;refine RetOK.q rfl (by with_unfolding_all (show retD _ _ [.cell 4 45,.tmp 5,.tmp 6]=_);simp only [seval,go_sem];rfl) (by simp only [seval,go_sem];rfl) (by decide) (by simp only [seval,go_sem];rfl) (by simp only [seval,go_sem];rfl) rfl ?_<;>(try simp only [seval,go_sem,hZ])<;>(repeat' (with_reducible apply And.intro))<;>(try rfl)))|(with_reducible (refine TVq (st:=[]) ?_))|simp only [seval,go_sem,hZ]))<;>(try (fail));all_goals (try clear hZ))
    ·obtain ⟨y,hy⟩:=get_lt (show j2<l.length by omega)
     have g1:=get_map rowPg (insAt_at (x:=(⟨1+k,1,d⟩:Pg)) hj2)
     have g2:=get_map rowPg ((insAt_pre (x:=(⟨1+k,1,d⟩:Pg)) hj2).trans hy)
     have hsw:=congrArg (List.map rowPg) (insAt_swap (x:=(⟨1+k,1,d⟩:Pg)) hy)
     simp only [List.map_set] at hsw
     have ey:pgGet l (j2:Int)=y:=by simp [pgGet,hy]
     rw [stopAt] at hst
     rw [ey] at hst
     have e1:((j2+1:Nat):Int)-1=j2:=by omega
     have g3:((List.map rowPg (insAt l (j2+1) (⟨1+k,1,d⟩:Pg))).set (j2+1) (rowPg y))[j2]? = some (rowPg y):=by rw [List.getElem?_set_ne (by omega)];exact g2
     simp only [rowPg] at g3
     simp only [rowPg] at hsw
     generalize hR:insAt l (j2+1) (⟨1+k,1,d⟩:Pg)=RR at *
     by_cases hb:1+(k:Int)<y.num
     ·rw [if_pos (decide_eq_true hb)] at hst
      ((repeat' (first|((with_reducible refine isTriD ?_);((with_reducible first|refine TriD.step (by simp only [seval,go_sem,g1,g2,g3,rowPg,e1];rfl) ?_);refine LVs (st:=[]) ?_))|(with_reducible refine ListD.nil ?_)|((with_reducible refine isListD ?_);(with_reducible first|refine ListD.step (by simp only [seval,go_sem,g1,g2,g3,rowPg,e1];rfl) ?_|refine ListD.step (by simp (disch:=omega) only [seval,go_sem,cnd,intV,shV,convV,strV,g1,g2,g3,rowPg,e1];rfl) ?_))|(with_reducible refine isDrawnN 13 ?_;refine Tri.mixedP 13 mix 18 rfl (.f 0 <| .f 1 <| .f 2 <| .f 3 <| .f 4 <| .f 5 <| .f 6 <| .f 7 <| .f 8 <| .f 10 <| .f 11 <| .f 12 <| .a <| .b 9 (.a <| .b 13 (.f 14 <| .a <| .b 15 (.f 16 <| .a <| .b 17 (.d) .e) .e) .e) <| .b 13 (.a <| .b 9 (.f 14 <| .a <| .b 15 (.f 16 <| .a <| .b 17 (.d) .e) .e) .e) .e) (by kernel_rfl) ?_)|(with_reducible refine isAnyP ?_;first|refine AnyP.D ?_|refine AnyP.F (by simp only [seval,go_sem,l_7,l_6];rfl) (by first|(simp only [seval,go_sem,g1,g2,g3,rowPg,e1];first|done|fail)) (by first|(simp only [seval,go_sem,g1,g2,g3,rowPg,e1];with_reducible rfl)|(simp (disch:=omega) only [seval,go_sem,cnd,intV,shV,convV,strV,g1,g2,g3,rowPg,e1];with_reducible rfl)) ?_|refine AnyP.A ?_)|(with_reducible first|exact NextsP.E|refine NextsP.B (by simp only [seval,go_sem,l_7,l_6];rfl) ?_ ?_)|(with_reducible refine isDrawn ?_;refine Tri.drawnD mix (by kernel_rfl) (by simp only [l_3,l_4];rfl) ?_)|(with_reducible (refine TVq (st:=[]) ?_))|simp only [seval,go_sem,g1,g2,g3,rowPg,e1]|(with_reducible refine oV_st (by simp (disch:=omega) only [seval,go_sem,cnd,intV,shV,convV,strV,g1,g2,g3,rowPg,e1];rfl) ?_)))<;>(try (fail)))
      all_goals (try (refine isNextM (j2) (by (refine leQL_spec ?_);(try simp only [seval,go_sem,hsw]);first|done|fail) (by (refine leQH_spec ?_);(try simp only [seval,go_sem,hsw]);first|done|fail) ?_ ?_<;>(try (omega))))
      all_goals (try exact ⟨by omega,hst⟩)
     ·rw [if_neg (by simp [hb])] at hst
      rw [hins hst.symm,hNk]
      (all_goals (try have hZ:=(And.intro hll htk));(repeat' (first|(with_reducible refine ListD.nil ?_)|((with_reducible refine isListD ?_);(with_reducible first|refine ListD.step (by simp only [seval,go_sem,g1,g2,rowPg,e1,hZ];rfl) ?_|refine ListD.step (by simp (disch:=omega) only [seval,go_sem,cnd,intV,shV,convV,strV,g1,g2,rowPg,e1,hZ];rfl) ?_))|(with_reducible refine isDrawn ?_;refine Tri.drawnD mix (by kernel_rfl) (by simp only [l_3,l_4];rfl) ?_)|(with_reducible refine isRet ?_;(refine RetOK.frz 37 (by simp only [seval,go_sem];rfl) (by simp only [seval,go_sem,g1,g2,rowPg,e1,hZ];rfl) ?_);(with_reducible refine isRet ?_;refine RetOK.q rfl (by with_unfolding_all (show retD _ _ [.cell 4 45,.tmp 5,.tmp 6]=_);simp only [seval,go_sem];rfl) (by simp only [seval,go_sem];rfl) (by decide) (by simp only [seval,go_sem];rfl) (by simp only [seval,go_sem];rfl) rfl ?_<;>(try simp only [seval,go_sem,g1,g2,rowPg,e1,hZ])<;>(repeat' (with_reducible apply And.intro))<;>(try rfl)))|(with_reducible (refine TVq (st:=[]) ?_))|simp only [seval,go_sem,g1,g2,rowPg,e1,hZ]))<;>(try (fail));all_goals (try clear hZ))
  ·have h3:=g2 hp
   have hm:=pgAt_mem hp
   have hk2:k+1≤l.length:=by
    have hm2: ∀ i:Nat,1≤i→i≤k+1→(i:Int)∈l.map (·.num):=fun i a b=>by
     by_cases e:i=k+1
     ·subst e;rw [show ((k+1:Nat):Int)=1+(k:Int) by omega];exact hm
     ·exact hmem i a (by omega)
    have:=mem_le (k+1) _ hm2
    rwa [List.length_map] at this
   generalize pgAt (1+(k:Int)) l 0=z at hic hp
   ((repeat' (first|((with_reducible refine isTriD ?_);((with_reducible refine isCallD ?_);((with_reducible refine LVcall (st:=[]) ?_);simp only [seval,go_sem];(refine CallL.c (hic) ?_))))|(with_reducible (refine TVq (st:=[]) ?_))|simp only [seval,go_sem]|(with_reducible refine oV_st (by simp (disch:=omega) only [seval,go_sem,cnd,intV,shV,convV,strV];rfl) ?_)))<;>(try (fail)))
   all_goals (try (refine isNextM (k+1) (by (refine leQL_spec ?_);(try simp only [seval,go_sem]);first|((repeat' (with_reducible apply And.intro))<;>first|rfl);first|done|fail) (by (refine leQH_spec ?_);(try simp only [seval,go_sem]);first|done|fail) ?_ ?_<;>(try (omega))))
   all_goals (try exact ⟨hk2,h3,fun i a b=>by
     by_cases e:i=k+1
     ·subst e;rw [show ((k+1:Nat):Int)=1+(k:Int) by omega];exact hm
     ·exact hmem i a (by omega)⟩)
end Go.Proofs.Yteemiclhnfkekaa
