/- The reference's store: the version of a name; Pin, Unpin, Rename, Drop; the walks. -/
import Derived.Test.YtmgodadmafcliaaGreatZSrC
import Derived.Test.YtmgodadmafcliaaGreatZDiG
set_option linter.unusedSimpArgs false
set_option linter.unusedVariables false
namespace Go.Proofs.YtmgodadmafcliaaGreat
open Go.RowKit Go.Avm
theorem objAt_split (n:Int) (l:List Ob):(objAt n l 0 = -1)∨ ∃ (j:Nat) (o:Ob),l[j]? = some o∧j<l.length∧objAt n l 0=(j:Int)∧obGet l (objAt n l 0)=o:=by
 rcases objAt_cases n l 0 with ⟨h,_⟩|⟨j,p,h1,h2,h3,_⟩
 ·exact .inl h
 ·rw [Nat.zero_add] at h3
  exact .inr ⟨j,p,h1,(List.getElem?_eq_some_iff.1 h1).1,h3,by simp [obGet,h3,h1]⟩
theorem findN_split (c:Int): ∀ (l:List Ver) (i:Nat),(findN c l i=(0,false))∨ ∃ (k:Nat) (v:Ver),l[k]? = some v∧findN c l i=(((i+k:Nat):Int),true)
 | [],_=> .inl rfl
 | v::l,i=>by
   rw [findN]
   split
   ·exact .inr ⟨0,v,rfl,rfl⟩
   ·rcases findN_split c l (i+1) with h|⟨k,u,h1,h2⟩
    ·exact .inl h
    ·exact .inr ⟨k+1,u,by simpa using h1,by rw [h2,show i+1+k=i+(k+1) by omega]⟩
/-- How the version of a name is found. -/
theorem verR_split (s:Sr) (n:ByteArray) (c:Int):(verR s n c=(0,zeroV,false)∧((lookB n c s.binds).2=false∨((lookB n c s.binds).2=true∧(objAt (lookB n c s.binds).1 s.objs 0 = -1∨ ∃ (j:Nat) (o:Ob),s.objs[j]? = some o∧j<s.objs.length∧objAt (lookB n c s.binds).1 s.objs 0=(j:Int)∧findN c o.vers 0=(0,false)))))∨
  ∃ (j k:Nat) (o:Ob) (v:Ver),(lookB n c s.binds).2=true∧s.objs[j]? = some o∧j<s.objs.length∧objAt (lookB n c s.binds).1 s.objs 0=(j:Int)∧o.vers[k]? = some v∧k<o.vers.length∧findN c o.vers 0=((k:Int),true)∧verR s n c=((j:Int),v,true):=by
 unfold verR
 cases h1:(lookB n c s.binds).2 with
 | false=>exact .inl ⟨if_pos (.inl rfl), .inl rfl⟩
 | true=>
   rcases objAt_split (lookB n c s.binds).1 s.objs with h2|⟨j,o,q1,q2,q3,q4⟩
   ·exact .inl ⟨if_pos (.inr (by rw [h2];omega)), .inr ⟨rfl, .inl h2⟩⟩
   ·rw [if_neg (by rw [q3];simp),q4]
    rcases findN_split c o.vers 0 with h3|⟨k,v,h3,h4⟩
    ·exact .inl ⟨if_pos (by rw [h3]), .inr ⟨rfl, .inr ⟨j,o,q1,q2,q3,h3⟩⟩⟩
    ·rw [Nat.zero_add] at h4
     refine .inr ⟨j,k,o,v,rfl,q1,q2,q3,h3,(List.getElem?_eq_some_iff.1 h3).1,h4,?_⟩
     rw [if_neg (by rw [h4];simp),q3,h4]
     simp [verGet,h3]
set_option maxRecDepth 100000 in set_option maxHeartbeats 6400000 in
theorem rver_calls {a1 a2 a3 a4 a5 a6 a7 com last cap:Int} {os:List Ob} {bs:List Bd} {ps:List Pn} {pg:List Pg} {n:ByteArray} {c:Int} (hb:bs.length≤100000) (ho:os.length≤100000) (hv: ∀ o∈os,o.vers.length≤100000):ACalls Tryz.prog 46 [.agg [.sc (.int .i64 a1),.sc (.int .i64 a2),.sc (.int .i64 a3),.sc (.int .i64 a4),.sc (.int .i64 a5),.sc (.int .i64 a6),.sc (.int .i64 a7),.sc (.int .i64 com),.sc (.int .i64 last),.sl 2 (os.map rowOb),.sl 4 (bs.map rowBd),.sl 2 (ps.map rowP),.sc (.int .i64 cap),.sl 3 (pg.map rowPg)],.sc (.string n),.sc (.int .i64 c)] (.tup [.sc (.int .i64 (verR ⟨⟨a1,a2,a3,a4,a5,a6,a7⟩,com,last,os,bs,ps,⟨cap,pg⟩⟩ n c).1),.agg (rowV (verR ⟨⟨a1,a2,a3,a4,a5,a6,a7⟩,com,last,os,bs,ps,⟨cap,pg⟩⟩ n c).2.1),.sc (.bool (verR ⟨⟨a1,a2,a3,a4,a5,a6,a7⟩,com,last,os,bs,ps,⟨cap,pg⟩⟩ n c).2.2)]) []:=by
 have hlc:=rlook_calls (l:=bs) (n:=n) (c:=c) hb
 have hoc:=robj_calls (l:=os) (n:=(lookB n c bs).1) ho
 rcases verR_split ⟨⟨a1,a2,a3,a4,a5,a6,a7⟩,com,last,os,bs,ps,⟨cap,pg⟩⟩ n c with ⟨e,h⟩|⟨j,k,o,v,h1,q1,q2,q3,q4,q5,q6,e⟩
 ·rw [e]
  simp only at h
  simp only [rowV,zeroV,l_4]
  generalize lookB n c bs=L at *
  obtain ⟨Li,Lb⟩:=L
  simp only at h hoc hlc
  rcases h with h|⟨h,h2|⟨j,o,q1,q2,q3,q4⟩⟩
  ·subst h
   refine of_tri [] [3,7,19,25,41] Tryz.func46 rfl call46 rfl (by decide) (by decide) rfl rfl Tryz.ntmps46 (by simp (disch:=omega) only [seval,go_sem,cnd,intV,shV,convV,strV,List.replicate,l_2,l_1];rfl) (by simp (disch:=omega) only [seval,go_sem,cnd,intV,shV,convV,strV,l_2,l_1];rfl) ?_
   ((repeat' (first|((with_reducible refine isTriD ?_);((with_reducible refine isCallD ?_);((with_reducible refine LVcall (st:=[]) ?_);simp only [seval,go_sem];first|(refine CallL.c (hlc) ?_)|(refine CallL.c (hoc) ?_))))|(with_reducible refine isRet ?_;refine RetV (rs:=[.tmp 6,.cell 7 56,.tmp 8]) (by with_unfolding_all rfl) rfl ?_<;>simp only [seval,go_sem]<;>(repeat' (with_reducible apply And.intro))<;>(try rfl))|(with_reducible (refine TVq (st:=[]) ?_))|simp only [seval,go_sem]))<;>(try (fail)))
  ·subst h
   rw [h2] at hoc
   refine of_tri [] [3,7,19,25,41] Tryz.func46 rfl call46 rfl (by decide) (by decide) rfl rfl Tryz.ntmps46 (by simp (disch:=omega) only [seval,go_sem,cnd,intV,shV,convV,strV,List.replicate,l_2,l_1];rfl) (by simp (disch:=omega) only [seval,go_sem,cnd,intV,shV,convV,strV,l_2,l_1];rfl) ?_
   ((repeat' (first|((with_reducible refine isTriD ?_);((with_reducible refine isCallD ?_);((with_reducible refine LVcall (st:=[]) ?_);simp only [seval,go_sem];first|(refine CallL.c (hlc) ?_)|(refine CallL.c (hoc) ?_))))|(with_reducible refine isRet ?_;refine RetV (rs:=[.tmp 6,.cell 7 56,.tmp 8]) (by with_unfolding_all rfl) rfl ?_<;>simp only [seval,go_sem]<;>(repeat' (with_reducible apply And.intro))<;>(try rfl))|(with_reducible (refine TVq (st:=[]) ?_))|simp only [seval,go_sem]|(with_reducible refine oV_st (by simp (disch:=omega) only [seval,go_sem,cnd,intV,shV,convV,strV];rfl) ?_)))<;>(try (fail)))
  ·subst h
   rw [q3] at hoc
   have q1':=get_map rowOb q1
   have hfc:=rfind_calls (vs:=o.vers) (c:=c) (hv o (List.mem_of_getElem? q1))
   rw [q4] at hfc
   refine of_tri [] [3,7,19,25,41] Tryz.func46 rfl call46 rfl (by decide) (by decide) rfl rfl Tryz.ntmps46 (by simp (disch:=omega) only [seval,go_sem,cnd,intV,shV,convV,strV,List.replicate,l_2,l_1];rfl) (by simp (disch:=omega) only [seval,go_sem,cnd,intV,shV,convV,strV,l_2,l_1];rfl) ?_
   ((repeat' (first|((with_reducible refine isTriD ?_);((with_reducible refine isCallD ?_);((with_reducible refine LVcall (st:=[]) ?_);simp only [seval,go_sem,q1',rowOb];first|(refine CallL.c (hlc) ?_)|(refine CallL.c (hoc) ?_)|(refine CallL.c (hfc) ?_))))|(with_reducible refine isRet ?_;refine RetV (rs:=[.tmp 6,.cell 7 56,.tmp 8]) (by with_unfolding_all rfl) rfl ?_<;>simp only [seval,go_sem]<;>(repeat' (with_reducible apply And.intro))<;>(try rfl))|(with_reducible (refine TVq (st:=[]) ?_))|simp only [seval,go_sem,q1',rowOb]|(with_reducible refine oV_st (by simp (disch:=omega) only [seval,go_sem,cnd,intV,shV,convV,strV,q1',rowOb];rfl) ?_)))<;>(try (fail)))
 ·rw [e]
  simp only at h1 q1 q2 q3
  simp only [rowV]
  generalize lookB n c bs=L at *
  obtain ⟨Li,Lb⟩:=L
  simp only at h1 hoc hlc q3
  subst h1
  rw [q3] at hoc
  have q1':=get_map rowOb q1
  have q4':=get_map rowV q4
  have hfc:=rfind_calls (vs:=o.vers) (c:=c) (hv o (List.mem_of_getElem? q1))
  rw [q6] at hfc
  refine of_tri [] [3,7,19,25,41] Tryz.func46 rfl call46 rfl (by decide) (by decide) rfl rfl Tryz.ntmps46 (by simp (disch:=omega) only [seval,go_sem,cnd,intV,shV,convV,strV,List.replicate,l_2,l_1];rfl) (by simp (disch:=omega) only [seval,go_sem,cnd,intV,shV,convV,strV,l_2,l_1];rfl) ?_
  ((repeat' (first|((with_reducible refine isTriD ?_);first|((with_reducible refine isCallD ?_);((with_reducible refine LVcall (st:=[]) ?_);simp only [seval,go_sem,q1',q4',rowOb,rowV];first|(refine CallL.c (hlc) ?_)|(refine CallL.c (hoc) ?_)|(refine CallL.c (hfc) ?_)))|((with_reducible first|refine TriD.step (by simp only [seval,go_sem,q1',q4',rowOb,rowV];rfl) ?_);refine LVs (st:=[]) ?_))|(with_reducible refine isDrawnN 8 ?_;refine Tri.mixedP 8 mix 13 rfl (.f 0 <| .f 1 <| .f 3 <| .f 7 <| .f 10 <| .a <| .b 2 (.f 4 <| .f 5 <| .a <| .b 6 (.f 8 <| .a <| .b 9 (.a <| .b 11 (.f 12 <| .d) .e) .e) .e) .e) (by kernel_rfl) ?_)|(with_reducible refine isAnyP ?_;first|refine AnyP.D ?_|refine AnyP.F (by simp only [seval,go_sem,l_7,l_6];rfl) (by first|(simp only [seval,go_sem,q1',q4',rowOb,rowV];done)) (by first|(simp only [seval,go_sem,q1',q4',rowOb,rowV];with_reducible rfl)|(simp (disch:=omega) only [seval,go_sem,cnd,intV,shV,convV,strV,q1',q4',rowOb,rowV];with_reducible rfl)) ?_|refine AnyP.A ?_)|(with_reducible first|exact NextsP.E|refine NextsP.B (by simp only [seval,go_sem,l_7,l_6];rfl) ?_ ?_)|(with_reducible refine isRet ?_;refine RetV (rs:=[.tmp 6,.cell 7 56,.tmp 8]) (by with_unfolding_all rfl) rfl ?_<;>simp only [seval,go_sem]<;>(repeat' (with_reducible apply And.intro))<;>(try rfl))|(with_reducible (refine TVq (st:=[]) ?_))|simp only [seval,go_sem,q1',q4',rowOb,rowV]|(with_reducible refine oV_st (by simp (disch:=omega) only [seval,go_sem,cnd,intV,shV,convV,strV,q1',q4',rowOb,rowV];rfl) ?_)))<;>(try (fail)))
set_option maxRecDepth 100000 in set_option maxHeartbeats 6400000 in
theorem rpin_calls {a1 a2 a3 a4 a5 a6 a7 com last cap:Int} {os:List Ob} {bs:List Bd} {ps:List Pn} {pg:List Pg} {c:Int} (hl:ps.length≤100000):ACalls Tryz.prog 26 [.agg [.sc (.int .i64 a1),.sc (.int .i64 a2),.sc (.int .i64 a3),.sc (.int .i64 a4),.sc (.int .i64 a5),.sc (.int .i64 a6),.sc (.int .i64 a7),.sc (.int .i64 com),.sc (.int .i64 last),.sl 2 (os.map rowOb),.sl 4 (bs.map rowBd),.sl 2 (ps.map rowP),.sc (.int .i64 cap),.sl 3 (pg.map rowPg)],.sc (.int .i64 c)] (.tup [.agg (dSr (pinR ⟨⟨a1,a2,a3,a4,a5,a6,a7⟩,com,last,os,bs,ps,⟨cap,pg⟩⟩ c).1),.sc (.int .i64 (pinR ⟨⟨a1,a2,a3,a4,a5,a6,a7⟩,com,last,os,bs,ps,⟨cap,pg⟩⟩ c).2)]) []:=by
 have hvc:=rvis_calls (a1:=a1) (a2:=a2) (a3:=a3) (a4:=a4) (a5:=a5) (a6:=a6) (a7:=a7) (com:=com) (last:=last) (cap:=cap) (os:=os) (bs:=bs) (ps:=ps) (pg:=pg) (c:=c) hl
 have htc:=rtotal_calls (l:=ps) hl
 have hac:=raddp_val (l:=ps) (c:=c) hl
 unfold pinR
 generalize visE ⟨⟨a1,a2,a3,a4,a5,a6,a7⟩,com,last,os,bs,ps,⟨cap,pg⟩⟩ c=E at *
 by_cases h1:E≠0
 ·rw [if_pos h1]
  simp only [dSr]
  refine of_tri [] [2,4,9,16,26] Tryz.func26 rfl call26 rfl (by decide) (by decide) rfl rfl Tryz.ntmps26 (by simp (disch:=omega) only [seval,go_sem,cnd,intV,shV,convV,strV,List.replicate,l_2,l_1];rfl) (by simp (disch:=omega) only [seval,go_sem,cnd,intV,shV,convV,strV,l_2,l_1];rfl) ?_
  ((repeat' (first|((with_reducible refine isTriD ?_);((with_reducible refine isCallD ?_);((with_reducible refine LVcall (st:=[]) ?_);simp only [seval,go_sem];(refine CallL.c (hvc) ?_))))|(with_reducible refine isRet ?_;refine RetV (rs:=[.cell 4 35,.tmp 5]) (by with_unfolding_all rfl) rfl ?_<;>simp only [seval,go_sem]<;>(repeat' (with_reducible apply And.intro))<;>(try rfl))|(with_reducible (refine TVq (st:=[]) ?_))|simp only [seval,go_sem]|(with_reducible refine oV_st (by simp (disch:=omega) only [seval,go_sem,cnd,intV,shV,convV,strV];rfl) ?_)))<;>(try (fail)))
 ·rw [if_neg h1]
  have h1':E=0:=by simpa using h1
  subst h1'
  simp only
  by_cases h2:a5≤totalP ps 0
  ·rw [if_pos h2]
   simp only [dSr]
   refine of_tri [] [2,4,9,16,26] Tryz.func26 rfl call26 rfl (by decide) (by decide) rfl rfl Tryz.ntmps26 (by simp (disch:=omega) only [seval,go_sem,cnd,intV,shV,convV,strV,List.replicate,l_2,l_1];rfl) (by simp (disch:=omega) only [seval,go_sem,cnd,intV,shV,convV,strV,l_2,l_1];rfl) ?_
   ((repeat' (first|((with_reducible refine isTriD ?_);((with_reducible refine isCallD ?_);((with_reducible refine LVcall (st:=[]) ?_);simp only [seval,go_sem];(refine CallL.c (hvc) ?_))))|(with_reducible refine ListD.nil ?_)|((with_reducible refine isListD ?_);first|(with_reducible refine ListD.step (by simp only [seval,go_sem];rfl) ?_)|((with_reducible refine isCallV ?_);((with_reducible (refine ListD.dE (by simp only [seval,go_sem];rfl) (by simp only [seval,go_sem];rfl) ?_));refine CallW.c (htc) (by simp only [seval,go_sem];rfl) ?_))|(with_reducible refine ListD.step (by simp (disch:=omega) only [seval,go_sem,cnd,intV,shV,convV,strV];rfl) ?_))|(with_reducible refine isDrawn ?_;refine Tri.drawnD mix (by kernel_rfl) (by simp only [l_3,l_4];rfl) ?_)|(with_reducible refine isRet ?_;refine RetV (rs:=[.cell 4 35,.tmp 5]) (by with_unfolding_all rfl) rfl ?_<;>simp only [seval,go_sem]<;>(repeat' (with_reducible apply And.intro))<;>(try rfl))|(with_reducible (refine TVq (st:=[]) ?_))|simp only [seval,go_sem]|(with_reducible refine oV_st (by simp (disch:=omega) only [seval,go_sem,cnd,intV,shV,convV,strV];rfl) ?_)))<;>(try (fail)))
  ·rw [if_neg h2]
   simp only [dSr]
   refine of_tri [] [2,4,9,16,26] Tryz.func26 rfl call26 rfl (by decide) (by decide) rfl rfl Tryz.ntmps26 (by simp (disch:=omega) only [seval,go_sem,cnd,intV,shV,convV,strV,List.replicate,l_2,l_1];rfl) (by simp (disch:=omega) only [seval,go_sem,cnd,intV,shV,convV,strV,l_2,l_1];rfl) ?_
   ((repeat' (first|((with_reducible refine isTriD ?_);((with_reducible refine isCallD ?_);((with_reducible refine LVcall (st:=[]) ?_);simp only [seval,go_sem];first|(refine CallL.c (hvc) ?_)|(refine CallL.c (hac) ?_))))|(with_reducible refine ListD.nil ?_)|((with_reducible refine isListD ?_);first|(with_reducible refine ListD.step (by simp only [seval,go_sem];rfl) ?_)|((with_reducible refine isCallV ?_);((with_reducible (refine ListD.dE (by simp only [seval,go_sem];rfl) (by simp only [seval,go_sem];rfl) ?_));refine CallW.c (htc) (by simp only [seval,go_sem];rfl) ?_))|(with_reducible refine ListD.step (by simp (disch:=omega) only [seval,go_sem,cnd,intV,shV,convV,strV];rfl) ?_))|(with_reducible refine isDrawn ?_;refine Tri.drawnD mix (by kernel_rfl) (by simp only [l_3,l_4];rfl) ?_)|(with_reducible refine isRet ?_;refine RetV (rs:=[.cell 4 35,.tmp 5]) (by with_unfolding_all rfl) rfl ?_<;>simp only [seval,go_sem]<;>(repeat' (with_reducible apply And.intro))<;>(try rfl))|(with_reducible (refine TVq (st:=[]) ?_))|simp only [seval,go_sem]|(with_reducible refine oV_st (by simp (disch:=omega) only [seval,go_sem,cnd,intV,shV,convV,strV];rfl) ?_)))<;>(try (fail)))
set_option maxRecDepth 100000 in set_option maxHeartbeats 6400000 in
theorem runpin_calls {a1 a2 a3 a4 a5 a6 a7 com last cap:Int} {os:List Ob} {bs:List Bd} {ps:List Pn} {pg:List Pg} {c:Int} (hl:ps.length≤100000):ACalls Tryz.prog 27 [.agg [.sc (.int .i64 a1),.sc (.int .i64 a2),.sc (.int .i64 a3),.sc (.int .i64 a4),.sc (.int .i64 a5),.sc (.int .i64 a6),.sc (.int .i64 a7),.sc (.int .i64 com),.sc (.int .i64 last),.sl 2 (os.map rowOb),.sl 4 (bs.map rowBd),.sl 2 (ps.map rowP),.sc (.int .i64 cap),.sl 3 (pg.map rowPg)],.sc (.int .i64 c)] (.tup [.agg (dSr (unpinR ⟨⟨a1,a2,a3,a4,a5,a6,a7⟩,com,last,os,bs,ps,⟨cap,pg⟩⟩ c).1),.sc (.int .i64 (unpinR ⟨⟨a1,a2,a3,a4,a5,a6,a7⟩,com,last,os,bs,ps,⟨cap,pg⟩⟩ c).2)]) []:=by
 have hpc:=rpinned_calls (a1:=a1) (a2:=a2) (a3:=a3) (a4:=a4) (a5:=a5) (a6:=a6) (a7:=a7) (com:=com) (last:=last) (cap:=cap) (os:=os) (bs:=bs) (ps:=ps) (pg:=pg) (c:=c) hl
 have hrc:=rremp_val (l:=ps) (c:=c) hl
 unfold unpinR
 simp only
 cases h1:pinnedR ps c with
 | false=>
   rw [if_pos rfl]
   rw [h1] at hpc
   simp only [dSr]
   refine of_tri [] [2,4,8,15] Tryz.func27 rfl call27 rfl (by decide) (by decide) rfl rfl Tryz.ntmps27 (by simp (disch:=omega) only [seval,go_sem,cnd,intV,shV,convV,strV,List.replicate,l_2,l_1];rfl) (by simp (disch:=omega) only [seval,go_sem,cnd,intV,shV,convV,strV,l_2,l_1];rfl) ?_
   ((repeat' (first|((with_reducible refine isTriD ?_);((with_reducible refine isCallD ?_);((with_reducible refine LVcall (st:=[]) ?_);simp only [seval,go_sem];(refine CallL.c (hpc) ?_))))|(with_reducible refine isRet ?_;refine RetV (rs:=[.cell 4 35,.tmp 5]) (by with_unfolding_all rfl) rfl ?_<;>simp only [seval,go_sem]<;>(repeat' (with_reducible apply And.intro))<;>(try rfl))|(with_reducible (refine TVq (st:=[]) ?_))|simp only [seval,go_sem]))<;>(try (fail)))
 | true=>
   rw [if_neg (by decide)]
   rw [h1] at hpc
   simp only [dSr]
   refine of_tri [] [2,4,8,15] Tryz.func27 rfl call27 rfl (by decide) (by decide) rfl rfl Tryz.ntmps27 (by simp (disch:=omega) only [seval,go_sem,cnd,intV,shV,convV,strV,List.replicate,l_2,l_1];rfl) (by simp (disch:=omega) only [seval,go_sem,cnd,intV,shV,convV,strV,l_2,l_1];rfl) ?_
   ((repeat' (first|((with_reducible refine isTriD ?_);((with_reducible refine isCallD ?_);((with_reducible refine LVcall (st:=[]) ?_);simp only [seval,go_sem];first|(refine CallL.c (hpc) ?_)|(refine CallL.c (hrc) ?_))))|(with_reducible refine isRet ?_;refine RetV (rs:=[.cell 4 35,.tmp 5]) (by with_unfolding_all rfl) rfl ?_<;>simp only [seval,go_sem]<;>(repeat' (with_reducible apply And.intro))<;>(try rfl))|(with_reducible (refine TVq (st:=[]) ?_))|simp only [seval,go_sem]))<;>(try (fail)))
set_option maxRecDepth 100000 in set_option maxHeartbeats 6400000 in
theorem rren_calls {a1 a2 a3 a4 a5 a6 a7 com last cap:Int} {os:List Ob} {bs:List Bd} {ps:List Pn} {pg:List Pg} {n m:ByteArray} (hl:bs.length≤100000) (h0:0≤com) (h9:com≤1000000000):ACalls Tryz.prog 25 [.agg [.sc (.int .i64 a1),.sc (.int .i64 a2),.sc (.int .i64 a3),.sc (.int .i64 a4),.sc (.int .i64 a5),.sc (.int .i64 a6),.sc (.int .i64 a7),.sc (.int .i64 com),.sc (.int .i64 last),.sl 2 (os.map rowOb),.sl 4 (bs.map rowBd),.sl 2 (ps.map rowP),.sc (.int .i64 cap),.sl 3 (pg.map rowPg)],.sc (.string n),.sc (.string m)] (.tup [.agg (dSr (renameR ⟨⟨a1,a2,a3,a4,a5,a6,a7⟩,com,last,os,bs,ps,⟨cap,pg⟩⟩ n m).1),.sc (.int .i64 (renameR ⟨⟨a1,a2,a3,a4,a5,a6,a7⟩,com,last,os,bs,ps,⟨cap,pg⟩⟩ n m).2.1),.sc (.int .i64 (renameR ⟨⟨a1,a2,a3,a4,a5,a6,a7⟩,com,last,os,bs,ps,⟨cap,pg⟩⟩ n m).2.2)]) []:=by
 have hnc:=risname_calls (s:=m)
 have hb1:=rbound_calls (a1:=a1) (a2:=a2) (a3:=a3) (a4:=a4) (a5:=a5) (a6:=a6) (a7:=a7) (com:=com) (last:=last) (cap:=cap) (os:=os) (bs:=bs) (ps:=ps) (pg:=pg) (n:=n) hl
 have hb2:=rbound_calls (a1:=a1) (a2:=a2) (a3:=a3) (a4:=a4) (a5:=a5) (a6:=a6) (a7:=a7) (com:=com) (last:=last) (cap:=cap) (os:=os) (bs:=bs) (ps:=ps) (pg:=pg) (n:=m) hl
 have hrc:=rrename2_calls (l:=bs) (n:=n) (m:=m) (c:=com+1) hl
 unfold renameR boundR
 simp only
 cases c1:nameOk m with
 | false=>
   rw [if_pos rfl]
   rw [c1] at hnc
   simp only [dSr]
   refine of_tri [] [3,6,11,17,23,44] Tryz.func25 rfl call25 rfl (by decide) (by decide) rfl rfl Tryz.ntmps25 (by simp (disch:=omega) only [seval,go_sem,cnd,intV,shV,convV,strV,List.replicate,l_2,l_1];rfl) (by simp (disch:=omega) only [seval,go_sem,cnd,intV,shV,convV,strV,l_2,l_1];rfl) ?_
   ((repeat' (first|((with_reducible refine isTriD ?_);((with_reducible refine isCallD ?_);((with_reducible refine LVcall (st:=[]) ?_);simp only [seval,go_sem];(refine CallL.c (hnc) ?_))))|(with_reducible refine isRet ?_;refine RetV (rs:=[.cell 6 35,.tmp 7,.tmp 8]) (by with_unfolding_all rfl) rfl ?_<;>simp only [seval,go_sem]<;>(repeat' (with_reducible apply And.intro))<;>(try rfl))|(with_reducible (refine TVq (st:=[]) ?_))|simp only [seval,go_sem]))<;>(try (fail)))
 | true=>
   rw [if_neg (by decide)]
   rw [c1] at hnc
   cases c2:(lookB n com bs).2 with
   | false=>
     rw [if_pos rfl]
     rw [c2] at hb1
     simp only [dSr]
     refine of_tri [] [3,6,11,17,23,44] Tryz.func25 rfl call25 rfl (by decide) (by decide) rfl rfl Tryz.ntmps25 (by simp (disch:=omega) only [seval,go_sem,cnd,intV,shV,convV,strV,List.replicate,l_2,l_1];rfl) (by simp (disch:=omega) only [seval,go_sem,cnd,intV,shV,convV,strV,l_2,l_1];rfl) ?_
     ((repeat' (first|((with_reducible refine isTriD ?_);((with_reducible refine isCallD ?_);((with_reducible refine LVcall (st:=[]) ?_);simp only [seval,go_sem];first|(refine CallL.c (hnc) ?_)|(refine CallL.c (hb1) ?_))))|(with_reducible refine isRet ?_;refine RetV (rs:=[.cell 6 35,.tmp 7,.tmp 8]) (by with_unfolding_all rfl) rfl ?_<;>simp only [seval,go_sem]<;>(repeat' (with_reducible apply And.intro))<;>(try rfl))|(with_reducible (refine TVq (st:=[]) ?_))|simp only [seval,go_sem]))<;>(try (fail)))
   | true=>
     rw [if_neg (by decide)]
     rw [c2] at hb1
     cases c3:(lookB m com bs).2 with
     | true=>
       rw [if_pos rfl]
       rw [c3] at hb2
       simp only [dSr]
       refine of_tri [] [3,6,11,17,23,44] Tryz.func25 rfl call25 rfl (by decide) (by decide) rfl rfl Tryz.ntmps25 (by simp (disch:=omega) only [seval,go_sem,cnd,intV,shV,convV,strV,List.replicate,l_2,l_1];rfl) (by simp (disch:=omega) only [seval,go_sem,cnd,intV,shV,convV,strV,l_2,l_1];rfl) ?_
       ((repeat' (first|((with_reducible refine isTriD ?_);((with_reducible refine isCallD ?_);((with_reducible refine LVcall (st:=[]) ?_);simp only [seval,go_sem];first|(refine CallL.c (hnc) ?_)|(refine CallL.c (hb1) ?_)|(refine CallL.c (hb2) ?_))))|(with_reducible refine isRet ?_;refine RetV (rs:=[.cell 6 35,.tmp 7,.tmp 8]) (by with_unfolding_all rfl) rfl ?_<;>simp only [seval,go_sem]<;>(repeat' (with_reducible apply And.intro))<;>(try rfl))|(with_reducible (refine TVq (st:=[]) ?_))|simp only [seval,go_sem]))<;>(try (fail)))
     | false=>
       rw [if_neg (by decide)]
       rw [c3] at hb2
       by_cases c4:a6≤com
       ·rw [if_pos c4]
        simp only [dSr]
        refine of_tri [] [3,6,11,17,23,44] Tryz.func25 rfl call25 rfl (by decide) (by decide) rfl rfl Tryz.ntmps25 (by simp (disch:=omega) only [seval,go_sem,cnd,intV,shV,convV,strV,List.replicate,l_2,l_1];rfl) (by simp (disch:=omega) only [seval,go_sem,cnd,intV,shV,convV,strV,l_2,l_1];rfl) ?_
        ((repeat' (first|((with_reducible refine isTriD ?_);((with_reducible refine isCallD ?_);((with_reducible refine LVcall (st:=[]) ?_);simp only [seval,go_sem];first|(refine CallL.c (hnc) ?_)|(refine CallL.c (hb1) ?_)|(refine CallL.c (hb2) ?_))))|(with_reducible refine isRet ?_;refine RetV (rs:=[.cell 6 35,.tmp 7,.tmp 8]) (by with_unfolding_all rfl) rfl ?_<;>simp only [seval,go_sem]<;>(repeat' (with_reducible apply And.intro))<;>(try rfl))|(with_reducible (refine TVq (st:=[]) ?_))|simp only [seval,go_sem]|(with_reducible refine oV_st (by simp (disch:=omega) only [seval,go_sem,cnd,intV,shV,convV,strV];rfl) ?_)))<;>(try (fail)))
       ·rw [if_neg c4]
        simp only [dSr]
        refine of_tri [] [3,6,11,17,23,44] Tryz.func25 rfl call25 rfl (by decide) (by decide) rfl rfl Tryz.ntmps25 (by simp (disch:=omega) only [seval,go_sem,cnd,intV,shV,convV,strV,List.replicate,l_2,l_1];rfl) (by simp (disch:=omega) only [seval,go_sem,cnd,intV,shV,convV,strV,l_2,l_1];rfl) ?_
        ((repeat' (first|((with_reducible refine isTriD ?_);first|((with_reducible refine isCallD ?_);((with_reducible refine LVcall (st:=[]) ?_);simp only [seval,go_sem];first|(refine CallL.c (hnc) ?_)|(refine CallL.c (hb1) ?_)|(refine CallL.c (hb2) ?_)|(refine CallL.c (hrc) ?_)))|((with_reducible first|refine TriD.step (by simp only [seval,go_sem];rfl) ?_);refine LVs (st:=[]) ?_))|(with_reducible refine isDrawnN 11 ?_;refine Tri.mixedP 11 mix 6 rfl (.f 1 <| .a <| .b 0 (.a <| .b 2 (.a <| .b 3 (.f 4 <| .f 5 <| .d) .e) <| .b 3 (.a <| .b 2 (.f 4 <| .f 5 <| .d) .e) .e) <| .b 2 (.a <| .b 0 (.a <| .b 3 (.f 4 <| .f 5 <| .d) .e) .e) .e) (by kernel_rfl) ?_)|(with_reducible refine isAnyP ?_;first|refine AnyP.D ?_|refine AnyP.F (by simp only [seval,go_sem,l_7,l_6];rfl) (by first|(simp only [seval,go_sem];done)) (by first|(simp only [seval,go_sem];with_reducible rfl)) ?_|refine AnyP.A ?_)|(with_reducible first|exact NextsP.E|refine NextsP.B (by simp only [seval,go_sem,l_7,l_6];rfl) ?_ ?_)|(with_reducible refine isRet ?_;refine RetV (rs:=[.cell 6 35,.tmp 7,.tmp 8]) (by with_unfolding_all rfl) rfl ?_<;>simp only [seval,go_sem]<;>(repeat' (with_reducible apply And.intro))<;>(try rfl))|(with_reducible (refine TVq (st:=[]) ?_))|simp only [seval,go_sem]|(with_reducible refine oV_st (by simp (disch:=omega) only [seval,go_sem,cnd,intV,shV,convV,strV];rfl) ?_)))<;>(try (fail)))
end Go.Proofs.YtmgodadmafcliaaGreat
/- Directory: the walk of List of the reference. -/
set_option linter.unusedSimpArgs false
set_option linter.unusedVariables false
namespace Go.Proofs.YtmgodadmafcliaaGreat
open Go.RowKit Go.Avm
theorem insN_len (n:ByteArray): ∀ l:List ByteArray,(insN n l).length≤l.length+1
 | []=>Nat.le_refl _
 | y::l=>by
   have:=insN_len n l
   unfold insN
   split
   ·simp only [List.length_cons];omega
   ·split<;>simp only [List.length_cons]<;>omega
set_option maxRecDepth 100000 in set_option maxHeartbeats 6400000 in
theorem rlist_calls {l:List Bd} {c:Int} (hl:l.length≤100000):ACalls Tryz.prog 42 [.sl 4 (l.map rowBd), .sc (.int .i64 c)] (.sl 1 ((listR c l []).map rowN)) []:=by
 refine of_tri [] [25,64,70,71,75] Tryz.func42 rfl call42 rfl (by decide) (by decide) rfl rfl Tryz.ntmps42 (by simp (disch:=omega) only [seval,go_sem,cnd,intV,shV,convV,strV,List.replicate,l_2,l_1];rfl) (by simp (disch:=omega) only [seval,go_sem,cnd,intV,shV,convV,strV,l_2,l_1];rfl) ?_
 ((repeat' (first|(with_reducible (first|refine Tri.seq ?_|refine Tri.block ?_|refine TriD.nil ?_|refine thenQ_n ?_|refine Tri.regionD (by simp only [l_3,l_4];rfl) ?_))|((with_reducible refine isTriD ?_);(with_reducible refine TriD.step (by simp only [seval,go_sem];rfl) ?_))))<;>(try (fail)))
 (with_reducible refine Tri.loopV (fun (t:Nat×List ByteArray)=>[(6,.sc (.int .i64 t.1)),(5,.sl 1 (t.2.map rowN)),(7,.any),(8,.any),(9,.any),(10,.any),(11,.any),(12,.any),(13,.any),(14,.any),(15,.any),(16,.any),(17,.any),(18,.any),(19,.any),(20,.any),(21,.any),(22,.any),(23,.any),(24,.any),(25,.any),(26,.any),(27,.any),(28,.any),(29,.any),(30,.any),(31,.any),(32,.any),(33,.any),(34,.any),(35,.any),(36,.any),(37,.any),(38,.any),(39,.any),(40,.any),(41,.any),(42,.any),(43,.any),(44,.any),(45,.any),(46,.any),(47,.any),(48,.any),(49,.any),(50,.any),(51,.any),(52,.any),(53,.any),(54,.any),(55,.any),(56,.any),(57,.any),(58,.any),(59,.any),(60,.any),(61,.any),(62,.any),(63,.any),(64,.any),(65,.any),(66,.any),(67,.any),(68,.any),(69,.any),(70,.any),(71,.any),(72,.any),(73,.any),(74,.any),(75,.any)]) (fun (t:Nat×List ByteArray)=>[(25,.dead),(64,.dead),(70,.dead),(71,.dead),(75,.dead)]) (fun (t:Nat×List ByteArray)=>t.1≤l.length∧t.2.length≤t.1∧listR c (l.drop t.1) t.2=listR c l []) (fun (t:Nat×List ByteArray)=>l.length-t.1) ((0,[])) (⟨Nat.zero_le _,by simp,rfl⟩) (by intro _;simp (disch:=omega) only [seval,go_sem,cnd,intV,shV,convV,strV];rfl) (by intro _;simp (disch:=omega) only [seval,go_sem,cnd,intV,shV,convV,strV];rfl) (by (refine leQL_spec ?_);(try simp only [seval,go_sem]);done) (by (refine leQH_spec ?_);(try simp only [seval,go_sem]);done) (fun t hI=>?_))
 obtain ⟨i,ns⟩:=t
 obtain ⟨hk,hnl,hf⟩:=hI
 simp only at hk hnl hf
 by_cases hlt:i<l.length
 ·obtain ⟨b,hb⟩:=get_lt hlt
  have hb':=get_map rowBd hb
  rw [drop_get hb,listR] at hf
  cases hh:holdsB b.frm b.to c with
  | false=>
    rw [if_neg (by simp [hh])] at hf
    (all_goals (try have hZ:=(And.intro hb' hh));(repeat' (first|(with_reducible (first|refine Tri.seq ?_|refine Tri.block ?_|refine Tri.skip ?_|refine Tri.exit ?_|refine TriD.nil ?_|refine ListD.nil ?_|refine thenQ_n ?_|refine thenQ_e ?_|refine inBlockQ_e ?_|refine loopQ_n ?_|refine Tri.regionD (by simp only [l_3,l_4];rfl) ?_))|((with_reducible refine isTriD ?_);(with_reducible first|refine TriD.step (by simp only [seval,go_sem,rowBd,hZ];rfl) ?_|refine TriD.step (by simp (disch:=omega) only [seval,go_sem,cnd,intV,shV,convV,strV,rowBd,hZ];rfl) ?_))|((with_reducible refine isListD ?_);first|(with_reducible refine ListD.step (by simp only [seval,go_sem,rowBd,hZ];rfl) ?_)|((with_reducible refine isCallV ?_);((with_reducible (refine ListD.dE (by simp only [seval,go_sem,rowBd,hZ];rfl) (by simp only [seval,go_sem,rowBd,hZ];rfl) ?_));refine CallW.c (rholds_calls) (by simp only [seval,go_sem,rowBd,hZ];rfl) ?_))|(with_reducible refine ListD.step (by simp (disch:=omega) only [seval,go_sem,cnd,intV,shV,convV,strV,rowBd,hZ];rfl) ?_))|(with_reducible refine isCond ?_;with_reducible refine Tri.cond (by simp only [seval,go_sem,rowBd,hZ];rfl) (cvI ?_) (cvI ?_))|(with_reducible refine isCv ?_;intro hc;(try simp only [bls,reduceCtorEq] at hc);(try (exfalso;omega)))|(with_reducible refine isDrawn ?_;refine Tri.drawnD mix (by kernel_rfl) (by simp only [l_3,l_4];rfl) ?_)))<;>(try (fail));all_goals (try clear hZ))
    all_goals (try ((refine isNextV ((i+1,ns)) (Imp.les (by (refine leQL_spec ?_);(try simp only [seval,go_sem]);first|((repeat' (with_reducible apply And.intro))<;>first|rfl);done) (by (refine leQH_spec ?_);(try simp only [seval,go_sem]);done)) ?_ ?_)<;>(try (omega))))
    all_goals (try (exact ⟨by simp only;omega,by simp only;omega,hf⟩))
  | true=>
    rw [if_pos hh] at hf
    (all_goals (try have hZ:=(And.intro hb' hh));(repeat' (first|(with_reducible (first|refine Tri.seq ?_|refine Tri.block ?_|refine Tri.skip ?_|refine TriD.nil ?_|refine ListD.nil ?_|refine thenQ_n ?_|refine Tri.regionD (by simp only [l_3,l_4];rfl) ?_))|((with_reducible refine isTriD ?_);(with_reducible first|refine TriD.step (by simp only [seval,go_sem,rowBd,hZ];rfl) ?_|refine TriD.step (by simp (disch:=omega) only [seval,go_sem,cnd,intV,shV,convV,strV,rowBd,hZ];rfl) ?_))|((with_reducible refine isListD ?_);first|(with_reducible refine ListD.step (by simp only [seval,go_sem,rowBd,hZ];rfl) ?_)|((with_reducible refine isCallV ?_);((with_reducible (refine ListD.dE (by simp only [seval,go_sem,rowBd,hZ];rfl) (by simp only [seval,go_sem,rowBd,hZ];rfl) ?_));refine CallW.c (rholds_calls) (by simp only [seval,go_sem,rowBd,hZ];rfl) ?_))|(with_reducible refine ListD.step (by simp (disch:=omega) only [seval,go_sem,cnd,intV,shV,convV,strV,rowBd,hZ];rfl) ?_))|(with_reducible refine isCond ?_;with_reducible refine Tri.cond (by simp only [seval,go_sem,rowBd,hZ];rfl) (cvI ?_) (cvI ?_))|(with_reducible refine isCv ?_;intro hc;(try simp only [bls,reduceCtorEq] at hc);(try (exfalso;omega)))|(with_reducible refine isDrawn ?_;refine Tri.drawnD mix (by kernel_rfl) (by simp only [l_3,l_4];rfl) ?_)))<;>(try (fail));all_goals (try clear hZ))
    (with_reducible refine Tri.loopU (fun (j:Nat)=>[(7,.sc (.int .i64 j)),(27,.any),(28,.any),(29,.any),(30,.any),(31,.any),(32,.any),(33,.any),(34,.any),(35,.any),(36,.any),(37,.any),(38,.any),(39,.any),(40,.any),(41,.any),(42,.any),(43,.any),(44,.any)]) (fun (j:Nat)=>[]) (fun (j:Nat)=>j≤ns.length∧insN b.name ns=ns.take j++insN b.name (ns.drop j)) (fun (j:Nat)=>ns.length-j) (0) (⟨Nat.zero_le _,rfl⟩) (by intro _;simp (disch:=omega) only [seval,go_sem,cnd,intV,shV,convV,strV];rfl) (by intro _;simp (disch:=omega) only [seval,go_sem,cnd,intV,shV,convV,strV];rfl) (by (refine leQL_spec ?_);(try simp only [seval,go_sem]);done) (by (refine leQH_spec ?_);(try simp only [seval,go_sem]);done) (fun j hI=>?_))
    obtain ⟨hj,hg⟩:=hI
    have htl:((ns.map rowN).take j).length=j:=by rw [List.length_take,List.length_map];omega
    have hdl:((ns.map rowN).drop j).length=ns.length-j:=by rw [List.length_drop,List.length_map]
    have h71:(((ns.map rowN).take j)++[[D.sc (.string b.name)]]).length=j+1:=by rw [List.length_append,htl];rfl
    have hE:(((ns.map rowN).take j)++[[D.sc (.string b.name)]]++(ns.map rowN).drop j)=(ns.take j++b.name::ns.drop j).map rowN:=by simp [rowN]
    have h75:((ns.take j++b.name::ns.drop j).map rowN).length=ns.length+1:=by rw [← hE,List.length_append,h71,hdl];omega
    have htk:((ns.take j++b.name::ns.drop j).map rowN).take (ns.length+1)=(ns.take j++b.name::ns.drop j).map rowN:=List.take_of_length_le (by rw [h75];exact Nat.le_refl _)
    by_cases hjl:j<ns.length
    ·obtain ⟨y,hy⟩:=get_lt hjl
     have hy':=get_map rowN hy
     rw [drop_get hy,insN,ltN,eqN] at hg
     cases c1:Op.bytesLess y.toList b.name.toList with
     | true=>
       rw [c1,if_pos rfl] at hg
       (all_goals (try have hZ:=(And.intro hb' hy'));(repeat' (first|(with_reducible (first|refine Tri.seq ?_|refine Tri.block ?_|refine Tri.skip ?_|refine TriD.nil ?_|refine ListD.nil ?_|refine thenQ_n ?_|refine inBlockQ_n ?_|refine loopQ_n ?_|refine Tri.regionD (by simp only [l_3,l_4];rfl) ?_))|((with_reducible refine isTriD ?_);(with_reducible first|refine TriD.step (by simp only [seval,go_sem,rowBd,rowN,c1,hZ];rfl) ?_|refine TriD.step (by simp (disch:=omega) only [seval,go_sem,cnd,intV,shV,convV,strV,rowBd,rowN,c1,hZ];rfl) ?_))|((with_reducible refine isListD ?_);(with_reducible first|refine ListD.step (by simp only [seval,go_sem,rowBd,rowN,c1,hZ];rfl) ?_|refine ListD.step (by simp (disch:=omega) only [seval,go_sem,cnd,intV,shV,convV,strV,rowBd,rowN,c1,hZ];rfl) ?_))|(with_reducible refine isCond ?_;with_reducible refine Tri.cond (by simp only [seval,go_sem,rowBd,rowN,c1,hZ];rfl) (cvI ?_) (cvI ?_))|(with_reducible refine isCv ?_;intro hc;(try simp only [bls,reduceCtorEq] at hc);(try (exfalso;omega)))|(with_reducible refine isDrawn ?_;refine Tri.drawnD mix (by kernel_rfl) (by simp only [l_3,l_4];rfl) ?_)))<;>(try (fail));all_goals (try clear hZ))
       all_goals (try (refine isNext (j+1) (by (refine leQL_spec ?_);(try simp only [seval,go_sem]);first|((repeat' (with_reducible apply And.intro))<;>first|rfl);done) (by (refine leQH_spec ?_);(try simp only [seval,go_sem]);done) ?_ ?_<;>(try (omega))))
       all_goals (try (exact ⟨by omega,by rw [hg,List.take_add_one,hy];simp⟩))
     | false=>
       rw [c1,if_neg (by decide)] at hg
       cases c2:(y.toList==b.name.toList) with
       | true=>
         rw [c2,if_pos rfl, ← drop_get hy,List.take_append_drop] at hg
         rw [hg] at hf
         (all_goals (try have hZ:=(And.intro hb' hy'));(repeat' (first|(with_reducible (first|refine Tri.seq ?_|refine Tri.exit ?_|refine TriD.nil ?_|refine ListD.nil ?_|refine thenQ_n ?_|refine thenQ_e ?_|refine inBlockQ_e ?_|refine loopQ_n ?_|refine loopQ_e ?_|refine Tri.regionD (by simp only [l_3,l_4];rfl) ?_))|((with_reducible refine isTriD ?_);(with_reducible first|refine TriD.step (by simp only [seval,go_sem,rowBd,rowN,c1,c2,hZ];rfl) ?_|refine TriD.step (by simp (disch:=omega) only [seval,go_sem,cnd,intV,shV,convV,strV,rowBd,rowN,c1,c2,hZ];rfl) ?_))|((with_reducible refine isListD ?_);(with_reducible first|refine ListD.step (by simp only [seval,go_sem,rowBd,rowN,c1,c2,hZ];rfl) ?_|refine ListD.step (by simp (disch:=omega) only [seval,go_sem,cnd,intV,shV,convV,strV,rowBd,rowN,c1,c2,hZ];rfl) ?_))|(with_reducible refine isCond ?_;with_reducible refine Tri.cond (by simp only [seval,go_sem,rowBd,rowN,c1,c2,hZ];rfl) (cvI ?_) (cvI ?_))|(with_reducible refine isCv ?_;intro hc;(try simp only [bls,reduceCtorEq] at hc);(try (exfalso;omega)))|(with_reducible refine isDrawn ?_;refine Tri.drawnD mix (by kernel_rfl) (by simp only [l_3,l_4];rfl) ?_)))<;>(try (fail));all_goals (try clear hZ))
         all_goals (try ((refine isNextV ((i+1,ns)) (Imp.les (by (refine leQL_spec ?_);(try simp only [seval,go_sem]);first|((repeat' (with_reducible apply And.intro))<;>first|rfl);done) (by (refine leQH_spec ?_);(try simp only [seval,go_sem]);done)) ?_ ?_)<;>(try (omega))))
         all_goals (try (exact ⟨by simp only;omega,by simp only;omega,hf⟩))
       | false=>
         rw [c2,if_neg (by decide), ← drop_get hy] at hg
         rw [hg] at hf
         (all_goals (try have hZ:=(And.intro hb' (And.intro hy' (And.intro htl (And.intro hdl (And.intro h71 (And.intro hE h75)))))));(repeat' (first|(with_reducible (first|refine Tri.seq ?_|refine Tri.skip ?_|refine Tri.exit ?_|refine TriD.nilP ?_|refine TriD.nil ?_|refine ListD.nil ?_|refine thenQ_n ?_|refine thenQ_e ?_|refine inBlockQ_n ?_|refine inBlockQ_e ?_|refine loopQ_n ?_|refine loopQ_e ?_|refine Tri.regionD (by simp only [l_3,l_4];rfl) ?_))|((with_reducible refine isTriD ?_);(with_reducible first|refine TriD.step (by simp only [seval,go_sem,rowBd,rowN,c1,c2,hZ];rfl) ?_|refine TriD.step (by simp (disch:=omega) only [seval,go_sem,cnd,intV,shV,convV,strV,rowBd,rowN,c1,c2,hZ];rfl) ?_))|((with_reducible refine isListD ?_);(with_reducible first|refine ListD.step (by simp only [seval,go_sem,rowBd,rowN,c1,c2,hZ];rfl) ?_|refine ListD.step (by simp (disch:=omega) only [seval,go_sem,cnd,intV,shV,convV,strV,rowBd,rowN,c1,c2,hZ];rfl) ?_))|(with_reducible refine isCond ?_;with_reducible refine Tri.cond (by simp only [seval,go_sem,rowBd,rowN,c1,c2,hZ];rfl) (cvI ?_) (cvI ?_))|(with_reducible refine isCv ?_;intro hc;(try simp only [bls,reduceCtorEq] at hc);(try (exfalso;omega)))|(with_reducible refine isDrawnN 10 ?_;refine Tri.mixedP 10 mix 16 rfl (.f 0 <| .f 1 <| .f 2 <| .f 4 <| .f 5 <| .f 6 <| .f 7 <| .f 11 <| .f 12 <| .f 13 <| .r 8 <| .a <| .b 3 (.a <| .b 9 (.a <| .b 10 (.a <| .b 14 (.f 15 <| .d) .e) .e) .e) <| .b 9 (.a <| .b 3 (.a <| .b 10 (.a <| .b 14 (.f 15 <| .d) .e) .e) .e) .e) (by kernel_rfl) ?_)|(with_reducible refine isAnyP ?_;first|refine AnyP.D ?_|refine AnyP.F (by simp only [seval,go_sem,l_7,l_6];rfl) (by first|(simp only [seval,go_sem,rowBd,rowN,c1,c2,hZ];done)) (by first|(simp only [seval,go_sem,rowBd,rowN,c1,c2,hZ];with_reducible rfl)|(simp (disch:=omega) only [seval,go_sem,cnd,intV,shV,convV,strV,rowBd,rowN,c1,c2,hZ];with_reducible rfl)) ?_|refine AnyP.R (by simp only [seval,go_sem,l_7,l_6];rfl) (by first|(refine .inl ?_;simp only [seval,go_sem,rowBd,rowN,c1,c2,hZ];done)) (by first|(simp only [seval,go_sem,rowBd,rowN,c1,c2,hZ];with_reducible rfl)) ?_|refine AnyP.A ?_)|(first|exact NextsP.E|refine NextsP.B (by simp only [seval,go_sem,l_7,l_6];rfl) ?_ ?_)|(with_reducible refine isDrawn ?_;refine Tri.drawnD mix (by kernel_rfl) (by simp only [l_3,l_4];rfl) ?_)))<;>(try (fail));all_goals (try clear hZ))
         all_goals (try ((refine isNextV ((i+1,ns.take j++b.name::ns.drop j)) (Imp.frzTo 75 (by simp only [seval,go_sem];rfl) (by simp only [seval,go_sem,h75,htk];rfl) (Imp.les (by (refine leQL_spec ?_);(try simp only [seval,go_sem,h75,htk]);first|((repeat' (with_reducible apply And.intro))<;>first|rfl);done) (by (refine leQH_spec ?_);(try simp only [seval,go_sem,h75,htk]);done))) ?_ ?_)<;>(try (omega))))
         all_goals (try (exact ⟨by simp only;omega,by simp only [List.length_append,List.length_take,List.length_cons,List.length_drop];omega,hf⟩))
    ·have hd:ns.drop j=[]:=List.drop_eq_nil_of_le (by omega)
     have ht:ns.take j=ns:=List.take_of_length_le (by omega)
     rw [hd,ht,insN] at hg
     rw [hg] at hf
     have e:j=ns.length:=by omega
     (all_goals (try have hZ:=(And.intro hb' (And.intro htl (And.intro hdl (And.intro h71 (And.intro hE h75))))));(repeat' (first|(with_reducible (first|refine Tri.seq ?_|refine Tri.skip ?_|refine Tri.exit ?_|refine TriD.nilP ?_|refine TriD.nil ?_|refine ListD.nil ?_|refine thenQ_n ?_|refine thenQ_e ?_|refine inBlockQ_n ?_|refine inBlockQ_e ?_|refine loopQ_n ?_|refine loopQ_e ?_|refine Tri.regionD (by simp only [l_3,l_4];rfl) ?_))|((with_reducible refine isTriD ?_);(with_reducible first|refine TriD.step (by simp only [seval,go_sem,rowBd,hZ];rfl) ?_|refine TriD.step (by simp (disch:=omega) only [seval,go_sem,cnd,intV,shV,convV,strV,rowBd,hZ];rfl) ?_))|((with_reducible refine isListD ?_);(with_reducible first|refine ListD.step (by simp only [seval,go_sem,rowBd,hZ];rfl) ?_|refine ListD.step (by simp (disch:=omega) only [seval,go_sem,cnd,intV,shV,convV,strV,rowBd,hZ];rfl) ?_))|(with_reducible refine isCond ?_;with_reducible refine Tri.cond (by simp only [seval,go_sem,rowBd,hZ];rfl) (cvI ?_) (cvI ?_))|(with_reducible refine isCv ?_;intro hc;(try simp only [bls,reduceCtorEq] at hc);(try (exfalso;omega)))|(with_reducible refine isDrawnN 10 ?_;refine Tri.mixedP 10 mix 16 rfl (.f 0 <| .f 1 <| .f 2 <| .f 4 <| .f 5 <| .f 6 <| .f 7 <| .f 11 <| .f 12 <| .f 13 <| .r 8 <| .a <| .b 3 (.a <| .b 9 (.a <| .b 10 (.a <| .b 14 (.f 15 <| .d) .e) .e) .e) <| .b 9 (.a <| .b 3 (.a <| .b 10 (.a <| .b 14 (.f 15 <| .d) .e) .e) .e) .e) (by kernel_rfl) ?_)|(with_reducible refine isAnyP ?_;first|refine AnyP.D ?_|refine AnyP.F (by simp only [seval,go_sem,l_7,l_6];rfl) (by first|(simp only [seval,go_sem,rowBd,hZ];done)) (by first|(simp only [seval,go_sem,rowBd,hZ];with_reducible rfl)|(simp (disch:=omega) only [seval,go_sem,cnd,intV,shV,convV,strV,rowBd,hZ];with_reducible rfl)) ?_|refine AnyP.R (by simp only [seval,go_sem,l_7,l_6];rfl) (by first|(refine .inl ?_;simp only [seval,go_sem,rowBd,hZ];done)) (by first|(simp only [seval,go_sem,rowBd,hZ];with_reducible rfl)) ?_|refine AnyP.A ?_)|(first|exact NextsP.E|refine NextsP.B (by simp only [seval,go_sem,l_7,l_6];rfl) ?_ ?_)|(with_reducible refine isDrawn ?_;refine Tri.drawnD mix (by kernel_rfl) (by simp only [l_3,l_4];rfl) ?_)))<;>(try (fail));all_goals (try clear hZ))
     all_goals (try ((refine isNextV ((i+1,ns.take j++b.name::ns.drop j)) (Imp.frzTo 75 (by simp only [seval,go_sem];rfl) (by simp only [seval,go_sem,h75,htk];rfl) (Imp.les (by (refine leQL_spec ?_);(try simp only [seval,go_sem,h75,htk]);first|((repeat' (with_reducible apply And.intro))<;>first|rfl);done) (by (refine leQH_spec ?_);(try simp only [seval,go_sem,h75,htk]);done))) ?_ ?_)<;>(try (omega))))
     all_goals (try (exact ⟨by simp only;omega,by simp only [List.length_append,List.length_take,List.length_cons,List.length_drop];omega,by rw [hd,ht];exact hf⟩))
 ·rw [List.drop_eq_nil_of_le (by omega),listR] at hf
  rw [← hf]
  ((repeat' (first|(with_reducible (first|refine Tri.seq ?_|refine Tri.exit ?_|refine Tri.ret ?_|refine TriD.nil ?_|refine thenQ_n ?_|refine thenQ_e ?_|refine inBlockQ_e ?_|refine loopQ_e ?_|refine Tri.regionD (by simp only [l_3,l_4];rfl) ?_))|((with_reducible refine isTriD ?_);(with_reducible first|refine TriD.step (by simp only [seval,go_sem];rfl) ?_|refine TriD.step (by simp (disch:=omega) only [seval,go_sem,cnd,intV,shV,convV,strV];rfl) ?_))|(with_reducible refine isCond ?_;with_reducible refine Tri.cond (by simp only [seval,go_sem];rfl) (cvI ?_) (cvI ?_))|(with_reducible refine isCv ?_;intro hc;(try simp only [bls,reduceCtorEq] at hc);(try (exfalso;omega)))|(with_reducible refine isRet ?_;refine RetOK.q rfl rfl (by simp only [seval,go_sem];rfl) (by decide) (by simp only [seval,go_sem];rfl) (by simp only [seval,go_sem];rfl) rfl ?_<;>(try simp only [seval,go_sem])<;>(repeat' (with_reducible apply And.intro))<;>(try rfl))))<;>(try (fail)))
end Go.Proofs.YtmgodadmafcliaaGreat
/- The reference's store: lengths (plain). -/
set_option linter.unusedSimpArgs false
set_option linter.unusedVariables false
namespace Go.Proofs.YtmgodadmafcliaaGreat
open Go.RowKit Go.Avm
theorem chunks_len (sz:Nat): ∀ (k:Nat) (l:List Int),(chunks sz k l).length≤k
 | 0,_=>Nat.le_refl _
 | k+1,l=>by
   rw [chunks]
   split
   ·exact Nat.zero_le _
   ·have:=chunks_len sz k (l.drop sz);simp only [List.length_cons];omega
theorem chunks_mem (sz:Nat): ∀ (k:Nat) (l:List Int), ∀ x∈chunks sz k l,x.length≤sz∧ ∀ z∈x,z∈l
 | 0,_=>fun x hx=>by simp [chunks] at hx
 | k+1,l=>fun x hx=>by
   rw [chunks] at hx
   split at hx
   ·simp at hx
   ·rcases List.mem_cons.1 hx with rfl|h
    ·exact ⟨by rw [List.length_take];omega,fun z hz=>List.mem_of_mem_take hz⟩
    ·have:=chunks_mem sz k (l.drop sz) x h
     exact ⟨this.1,fun z hz=>List.mem_of_mem_drop (this.2 z hz)⟩
theorem splitR_len {d:List Int} {sz:Int}:(splitR d sz).1.length≤d.length:=by
 unfold splitR;split
 ·exact Nat.zero_le _
 ·exact chunks_len _ _ _
theorem splitR_mem {d:List Int} {sz:Int}: ∀ x∈(splitR d sz).1,x.length≤1024∧ ∀ z∈x,z∈d:=by
 unfold splitR;split
 ·intro x hx;simp at hx
 ·intro x hx
  have:=chunks_mem _ _ _ x hx
  exact ⟨by have:=this.1;omega,this.2⟩
theorem allocR_len (a:Ar) (d:List Int):(allocR a d).1.pages.length≤a.pages.length+1:=by
 unfold allocR;split
 ·exact Nat.le_succ _
 ·split
  ·exact Nat.le_succ _
  ·exact Nat.le_of_eq (insAt_len (stopAt_le _ _))
theorem listR_len (c:Int): ∀ (l:List Bd) (a:List ByteArray),(listR c l a).length≤a.length+l.length
 | [],_=>Nat.le_refl _
 | b::l,a=>by
   rw [listR]
   split
   ·have h1:=listR_len c l (insN b.name a)
    have h2:=insN_len b.name a
    simp only [List.length_cons];omega
   ·have h1:=listR_len c l a
    simp only [List.length_cons];omega
end Go.Proofs.YtmgodadmafcliaaGreat
