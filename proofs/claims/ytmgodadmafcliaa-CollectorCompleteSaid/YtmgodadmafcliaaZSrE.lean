/- The reference's store: Drop; the walk. -/
import Derived.Test.YtmgodadmafcliaaZSrC
import Derived.Test.YtmgodadmafcliaaZCoB
import Derived.Test.YtmgodadmafcliaaZCoR
import Derived.Test.YtmgodadmafcliaaZSrA
set_option linter.unusedSimpArgs false
set_option linter.unusedVariables false
namespace Go.Proofs.Ytmgodadmafcliaa
open Go.RowKit Go.Avm
theorem setVers_at {l:List Ob} {j:Nat} {o:Ob} (h:l[j]? = some o) (v:List Ver):setVers l (j:Int) v=l.set j ⟨o.id,v⟩:=by
 simp [setVers,obGet,h]
theorem obGet_at {l:List Ob} {j:Nat} {o:Ob} (h:l[j]? = some o):obGet l (j:Int)=o:=by simp [obGet,h]
set_option maxRecDepth 100000 in set_option maxHeartbeats 6400000 in
theorem rdrop_calls {a1 a2 a3 a4 a5 a6 a7 com last cap:Int} {os:List Ob} {bs:List Bd} {ps:List Pn} {pg:List Pg} {n:ByteArray} (hb:bs.length≤100000) (ho:os.length≤100000) (hv: ∀ o∈os,o.vers.length≤100000) (hp: ∀ o∈os,∀ v∈o.vers,v.pages.length≤1000000) (h0:0≤com) (h9:com≤1000000000):ACalls Try.prog 69 [.agg [.sc (.int .i64 a1),.sc (.int .i64 a2),.sc (.int .i64 a3),.sc (.int .i64 a4),.sc (.int .i64 a5),.sc (.int .i64 a6),.sc (.int .i64 a7),.sc (.int .i64 com),.sc (.int .i64 last),.sl 2 (os.map rowOb),.sl 4 (bs.map rowBd),.sl 2 (ps.map rowP),.sc (.int .i64 cap),.sl 3 (pg.map rowPg)],.sc (.string n)] (.tup [.agg (dSr (dropR ⟨⟨a1,a2,a3,a4,a5,a6,a7⟩,com,last,os,bs,ps,⟨cap,pg⟩⟩ n).1),.sc (.int .i64 (dropR ⟨⟨a1,a2,a3,a4,a5,a6,a7⟩,com,last,os,bs,ps,⟨cap,pg⟩⟩ n).2.1),.sc (.int .i64 (dropR ⟨⟨a1,a2,a3,a4,a5,a6,a7⟩,com,last,os,bs,ps,⟨cap,pg⟩⟩ n).2.2)]) []:=by
 have hvc:=rver_calls (a1:=a1) (a2:=a2) (a3:=a3) (a4:=a4) (a5:=a5) (a6:=a6) (a7:=a7) (com:=com) (last:=last) (cap:=cap) (os:=os) (bs:=bs) (ps:=ps) (pg:=pg) (n:=n) (c:=com) hb ho hv
 unfold dropR
 simp only
 rcases verR_split ⟨⟨a1,a2,a3,a4,a5,a6,a7⟩,com,last,os,bs,ps,⟨cap,pg⟩⟩ n com with ⟨e,_⟩|⟨j,k,o,v,_,q1,q2,q3,q4,q5,q6,e⟩
 ·rw [e] at hvc ⊢
  simp only
  rw [if_pos trivial]
  simp only [rowV,zeroV,l_4] at hvc
  simp only [dSr]
  refine of_tri [] [2,4,8,15,35,49,60] Try.func69 rfl call69 rfl (by decide) (by decide) rfl rfl Try.ntmps69 (by simp (disch:=omega) only [seval,go_sem,cnd,intV,shV,convV,strV,List.replicate,l_2,l_1];rfl) (by simp (disch:=omega) only [seval,go_sem,cnd,intV,shV,convV,strV,l_2,l_1];rfl) ?_
  ((repeat' (first|((with_reducible refine isTriD ?_);((with_reducible refine isCallD ?_);((with_reducible refine LVcall (st:=[]) ?_);simp only [seval,go_sem];(refine CallL.c (hvc) ?_))))|(with_reducible refine isRet ?_;refine RetV (rs:=[.cell 4 32,.tmp 5,.tmp 6]) (by with_unfolding_all rfl) rfl ?_<;>simp only [seval,go_sem]<;>(repeat' (with_reducible apply And.intro))<;>(try rfl))|(with_reducible (refine TVq (st:=[]) ?_))|simp only [seval,go_sem]))<;>(try (fail)))
 ·rw [e] at hvc ⊢
  simp only
  rw [if_neg (by decide)]
  simp only [rowV] at hvc
  by_cases c1:a6≤com
  ·rw [if_pos c1]
   simp only [dSr]
   refine of_tri [] [2,4,8,15,35,49,60] Try.func69 rfl call69 rfl (by decide) (by decide) rfl rfl Try.ntmps69 (by simp (disch:=omega) only [seval,go_sem,cnd,intV,shV,convV,strV,List.replicate,l_2,l_1];rfl) (by simp (disch:=omega) only [seval,go_sem,cnd,intV,shV,convV,strV,l_2,l_1];rfl) ?_
   ((repeat' (first|((with_reducible refine isTriD ?_);((with_reducible refine isCallD ?_);((with_reducible refine LVcall (st:=[]) ?_);simp only [seval,go_sem];(refine CallL.c (hvc) ?_))))|(with_reducible refine isRet ?_;refine RetV (rs:=[.cell 4 32,.tmp 5,.tmp 6]) (by with_unfolding_all rfl) rfl ?_<;>simp only [seval,go_sem]<;>(repeat' (with_reducible apply And.intro))<;>(try rfl))|(with_reducible (refine TVq (st:=[]) ?_))|simp only [seval,go_sem]|(with_reducible refine oV_st (by simp (disch:=omega) only [seval,go_sem,cnd,intV,shV,convV,strV];rfl) ?_)))<;>(try (fail)))
  ·rw [if_neg c1]
   simp only at q1 q2
   simp only [obGet_at q1,setVers_at q1]
   have hm:=List.mem_of_getElem? q1
   have hcc:=rclose_val (vs:=o.vers) (c:=com+1) (hv o hm) (hp o hm)
   have huc:=runbind2_calls (l:=bs) (n:=n) (c:=com+1) hb
   generalize closeV o.vers (com+1)=CV at *
   generalize unbindB bs n (com+1)=UB at *
   have q1':=get_map rowOb q1
   simp only [dSr]
   refine of_tri [] [2,4,8,15,35,49,60] Try.func69 rfl call69 rfl (by decide) (by decide) rfl rfl Try.ntmps69 (by simp (disch:=omega) only [seval,go_sem,cnd,intV,shV,convV,strV,List.replicate,l_2,l_1];rfl) (by simp (disch:=omega) only [seval,go_sem,cnd,intV,shV,convV,strV,l_2,l_1];rfl) ?_
   ((repeat' (first|((with_reducible refine isTriD ?_);first|((with_reducible refine isCallD ?_);((with_reducible refine LVcall (st:=[]) ?_);simp only [seval,go_sem,q1',rowOb];first|(refine CallL.c (hvc) ?_)|(refine CallL.c (hcc) ?_)|(refine CallL.c (huc) ?_)))|((with_reducible first|refine TriD.step (by simp only [seval,go_sem,q1',rowOb];rfl) ?_);refine LVs (st:=[]) ?_))|(with_reducible refine isDrawnN 8 ?_;refine Tri.mixedP 8 mix 18 rfl (.f 0 <| .f 2 <| .f 3 <| .f 5 <| .f 9 <| .a <| .b 1 (.a <| .b 4 (.f 6 <| .f 7 <| .a <| .b 8 (.a <| .b 10 (.a <| .b 11 (.f 12 <| .f 13 <| .f 14 <| .f 15 <| .f 16 <| .a <| .b 17 (.d) .e) .e) .e) <| .b 10 (.a <| .b 8 (.a <| .b 11 (.f 12 <| .f 13 <| .f 14 <| .f 15 <| .f 16 <| .a <| .b 17 (.d) .e) .e) .e) .e) <| .b 10 (.a <| .b 4 (.f 6 <| .f 7 <| .a <| .b 8 (.a <| .b 11 (.f 12 <| .f 13 <| .f 14 <| .f 15 <| .f 16 <| .a <| .b 17 (.d) .e) .e) .e) .e) .e) <| .b 4 (.f 6 <| .f 7 <| .a <| .b 1 (.a <| .b 8 (.a <| .b 10 (.a <| .b 11 (.f 12 <| .f 13 <| .f 14 <| .f 15 <| .f 16 <| .a <| .b 17 (.d) .e) .e) .e) <| .b 10 (.a <| .b 8 (.a <| .b 11 (.f 12 <| .f 13 <| .f 14 <| .f 15 <| .f 16 <| .a <| .b 17 (.d) .e) .e) .e) .e) <| .b 8 (.a <| .b 1 (.a <| .b 10 (.a <| .b 11 (.f 12 <| .f 13 <| .f 14 <| .f 15 <| .f 16 <| .a <| .b 17 (.d) .e) .e) .e) <| .b 10 (.a <| .b 1 (.a <| .b 11 (.f 12 <| .f 13 <| .f 14 <| .f 15 <| .f 16 <| .a <| .b 17 (.d) .e) .e) <| .b 11 (.f 12 <| .f 13 <| .f 14 <| .a <| .b 1 (.f 15 <| .f 16 <| .a <| .b 17 (.d) .e) .e) .e) .e) <| .b 10 (.a <| .b 1 (.a <| .b 8 (.a <| .b 11 (.f 12 <| .f 13 <| .f 14 <| .f 15 <| .f 16 <| .a <| .b 17 (.d) .e) .e) .e) <| .b 8 (.a <| .b 1 (.a <| .b 11 (.f 12 <| .f 13 <| .f 14 <| .f 15 <| .f 16 <| .a <| .b 17 (.d) .e) .e) <| .b 11 (.f 12 <| .f 13 <| .f 14 <| .a <| .b 1 (.f 15 <| .f 16 <| .a <| .b 17 (.d) .e) .e) .e) .e) .e) <| .b 10 (.a <| .b 1 (.a <| .b 4 (.f 6 <| .f 7 <| .a <| .b 8 (.a <| .b 11 (.f 12 <| .f 13 <| .f 14 <| .f 15 <| .f 16 <| .a <| .b 17 (.d) .e) .e) .e) .e) <| .b 4 (.f 6 <| .f 7 <| .a <| .b 1 (.a <| .b 8 (.a <| .b 11 (.f 12 <| .f 13 <| .f 14 <| .f 15 <| .f 16 <| .a <| .b 17 (.d) .e) .e) .e) <| .b 8 (.a <| .b 1 (.a <| .b 11 (.f 12 <| .f 13 <| .f 14 <| .f 15 <| .f 16 <| .a <| .b 17 (.d) .e) .e) <| .b 11 (.f 12 <| .f 13 <| .f 14 <| .a <| .b 1 (.f 15 <| .f 16 <| .a <| .b 17 (.d) .e) .e) .e) .e) .e) .e) (by kernel_rfl) ?_)|(with_reducible refine isDrawnN 10 ?_;refine Tri.mixedP 10 mix 6 rfl (.f 1 <| .a <| .b 0 (.a <| .b 2 (.a <| .b 3 (.f 4 <| .f 5 <| .d) .e) <| .b 3 (.a <| .b 2 (.f 4 <| .f 5 <| .d) .e) .e) <| .b 2 (.a <| .b 0 (.a <| .b 3 (.f 4 <| .f 5 <| .d) .e) .e) .e) (by kernel_rfl) ?_)|(with_reducible refine isAnyP ?_;first|refine AnyP.D ?_|refine AnyP.F (by simp only [seval,go_sem,l_7,l_6];rfl) (by first|(simp only [seval,go_sem,q1',rowOb];done)) (by first|(simp only [seval,go_sem,q1',rowOb];with_reducible rfl)|(simp (disch:=omega) only [seval,go_sem,cnd,intV,shV,convV,strV,q1',rowOb];with_reducible rfl)) ?_|refine AnyP.A ?_)|(with_reducible first|exact NextsP.E|refine NextsP.B (by simp only [seval,go_sem,l_7,l_6];rfl) ?_ ?_)|(with_reducible refine isRet ?_;(refine RetOK.frz 35 (by simp only [seval,go_sem];rfl) (by simp only [seval,go_sem,q1',rowOb];rfl) ?_);(with_reducible refine isRet ?_;refine RetOK.q rfl (by with_unfolding_all (show retD _ _ [.cell 4 32,.tmp 5,.tmp 6]=_);simp only [seval,go_sem];rfl) (by simp only [seval,go_sem];rfl) (by decide) (by simp only [seval,go_sem];rfl) (by simp only [seval,go_sem];rfl) rfl ?_<;>(try simp only [seval,go_sem,q1',rowOb])<;>(repeat' (with_reducible apply And.intro))<;>(try rfl)))|(with_reducible (refine TVq (st:=[]) ?_))|simp only [seval,go_sem,q1',rowOb]|(with_reducible refine oV_st (by simp (disch:=omega) only [seval,go_sem,cnd,intV,shV,convV,strV,q1',rowOb];rfl) ?_)))<;>(try (fail)))
   all_goals (try (first|(simp [rowOb,List.map_set];done)|exact List.take_of_length_le (by simp)))
end Go.Proofs.Ytmgodadmafcliaa
/- Collector: the walk of the reference's Remove; the law's known. -/
set_option linter.unusedSimpArgs false
set_option linter.unusedVariables false
namespace Go.Proofs.Ytmgodadmafcliaa
open Go.RowKit Go.Avm
theorem release_len (a:Ar) (n:Int):(releaseR a n).1.pages.length≤a.pages.length:=by
 unfold releaseR
 split
 ·exact Nat.le_refl _
 ·split
  ·simp [setRefs]
  ·simp only [delAt,List.length_append,List.length_take,List.length_drop];omega
theorem rels_step {a A:Ar} {l:List Int} {k:Nat} {z:Int} (hz:l[k]? = some z) (h:rels a (l.drop k)=A):rels (releaseR a z).1 (l.drop (k+1))=A:=by
 rw [drop_get hz,rels] at h;exact h
set_option maxRecDepth 100000 in set_option maxHeartbeats 12800000 in
theorem remove_calls {a1 a2 a3 a4 a5 a6 a7 com last cap:Int} {os:List Ob} {bs:List Bd} {ps:List Pn} {pg:List Pg} {id frm:Int} (ho:os.length≤100000) (hv: ∀ o∈os,o.vers.length≤100000) (hp: ∀ o∈os,∀ v∈o.vers,v.pages.length≤100000) (hpl:ps.length≤100000) (hg:pg.length≤100000):ACalls Try.prog 20 [.agg [.sc (.int .i64 a1),.sc (.int .i64 a2),.sc (.int .i64 a3),.sc (.int .i64 a4),.sc (.int .i64 a5),.sc (.int .i64 a6),.sc (.int .i64 a7),.sc (.int .i64 com),.sc (.int .i64 last),.sl 2 (os.map rowOb),.sl 4 (bs.map rowBd),.sl 2 (ps.map rowP),.sc (.int .i64 cap),.sl 3 (pg.map rowPg)],.sc (.int .i64 id),.sc (.int .i64 frm)] (.tup [.agg (dSr (removeR ⟨⟨a1,a2,a3,a4,a5,a6,a7⟩,com,last,os,bs,ps,⟨cap,pg⟩⟩ id frm).1),.sc (.int .i64 (removeR ⟨⟨a1,a2,a3,a4,a5,a6,a7⟩,com,last,os,bs,ps,⟨cap,pg⟩⟩ id frm).2)]) []:=by
 have hoc:=robj_calls (l:=os) (n:=id) ho
 unfold removeR
 simp only
 rcases objAt_split id os with h|⟨j,o,q1,q2,q3,q4⟩
 ·rw [h] at hoc ⊢
  rw [if_pos (by decide)]
  simp only [dSr]
  refine of_tri [] [3,6,10,16,28,46,64,71,91] Try.func20 rfl call20 rfl (by decide) (by decide) rfl rfl Try.ntmps20 (by simp (disch:=omega) only [seval,go_sem,cnd,intV,shV,convV,strV,List.replicate,l_2,l_1];rfl) (by simp (disch:=omega) only [seval,go_sem,cnd,intV,shV,convV,strV,l_2,l_1];rfl) ?_
  ((repeat' (first|((with_reducible refine isTriD ?_);((with_reducible refine isCallD ?_);((with_reducible refine LVcall (st:=[]) ?_);simp only [seval,go_sem];(refine CallL.c (hoc) ?_))))|(with_reducible refine isRet ?_;refine RetV (rs:=[.cell 6 32,.tmp 7]) (by with_unfolding_all rfl) rfl ?_<;>simp only [seval,go_sem]<;>(repeat' (with_reducible apply And.intro))<;>(try rfl))|(with_reducible (refine TVq (st:=[]) ?_))|simp only [seval,go_sem]|(with_reducible refine oV_st (by simp (disch:=omega) only [seval,go_sem,cnd,intV,shV,convV,strV];rfl) ?_)))<;>(try (fail)))
 ·rw [q3] at hoc ⊢
  rw [if_neg (by omega)]
  rw [q3] at q4
  rw [q4]
  have hm:=List.mem_of_getElem? q1
  have hrc:=rremove_val (vs:=o.vers) (c:=frm) (hv o hm)
  have q1':=get_map rowOb q1
  have hvm:(removeV o.vers frm).2.1.pages.length≤100000:=by
   unfold removeV
   split
   ·simp [zeroV]
   ·simp only
    cases e:o.vers[(idxV frm o.vers 0).toNat]? with
    | none=>simp [zeroV]
    | some v=>exact hp o hm v (List.mem_of_getElem? e)
  have hsv:=fun v=>setVers_at (v:=v) q1
  generalize removeV o.vers frm=RV at *
  obtain ⟨V,⟨vf,vt,vs,vp⟩,re⟩:=RV
  simp only [rowV] at hrc hvm ⊢
  by_cases c1:re=0
  ·subst c1
   rw [if_neg (by simp)]
   have hcc:=rcovers_calls (f:=vf) (t:=vt) hpl
   by_cases c2:vt=0∨coversP vf vt ps=true
   ·rw [if_pos c2]
    simp only [dSr]
    by_cases c3:vt=0
    ·subst c3
     refine of_tri [] [3,6,10,16,28,46,64,71,91] Try.func20 rfl call20 rfl (by decide) (by decide) rfl rfl Try.ntmps20 (by simp (disch:=omega) only [seval,go_sem,cnd,intV,shV,convV,strV,List.replicate,l_2,l_1];rfl) (by simp (disch:=omega) only [seval,go_sem,cnd,intV,shV,convV,strV,l_2,l_1];rfl) ?_
     ((repeat' (first|((with_reducible refine isTriD ?_);((with_reducible refine isCallD ?_);((with_reducible refine LVcall (st:=[]) ?_);simp only [seval,go_sem,q1',rowOb];first|(refine CallL.c (hoc) ?_)|(refine CallL.c (hrc) ?_))))|(with_reducible refine isRet ?_;refine RetV (rs:=[.cell 6 32,.tmp 7]) (by with_unfolding_all rfl) rfl ?_<;>simp only [seval,go_sem]<;>(repeat' (with_reducible apply And.intro))<;>(try rfl))|(with_reducible (refine TVq (st:=[]) ?_))|simp only [seval,go_sem,q1',rowOb]|(with_reducible refine oV_st (by simp (disch:=omega) only [seval,go_sem,cnd,intV,shV,convV,strV,q1',rowOb];rfl) ?_)))<;>(try (fail)))
    ·have c4:coversP vf vt ps=true:=by rcases c2 with h|h
                                       ·exact absurd h c3
                                       ·exact h
     rw [c4] at hcc
     refine of_tri [] [3,6,10,16,28,46,64,71,91] Try.func20 rfl call20 rfl (by decide) (by decide) rfl rfl Try.ntmps20 (by simp (disch:=omega) only [seval,go_sem,cnd,intV,shV,convV,strV,List.replicate,l_2,l_1];rfl) (by simp (disch:=omega) only [seval,go_sem,cnd,intV,shV,convV,strV,l_2,l_1];rfl) ?_
     ((repeat' (first|((with_reducible refine isTriD ?_);((with_reducible refine isCallD ?_);((with_reducible refine LVcall (st:=[]) ?_);simp only [seval,go_sem,q1',rowOb];first|(refine CallL.c (hoc) ?_)|(refine CallL.c (hrc) ?_)|(refine CallL.c (hcc) ?_))))|(with_reducible refine isRet ?_;refine RetV (rs:=[.cell 6 32,.tmp 7]) (by with_unfolding_all rfl) rfl ?_<;>simp only [seval,go_sem]<;>(repeat' (with_reducible apply And.intro))<;>(try rfl))|(with_reducible (refine TVq (st:=[]) ?_))|simp only [seval,go_sem,q1',rowOb]|(with_reducible refine oV_st (by simp (disch:=omega) only [seval,go_sem,cnd,intV,shV,convV,strV,q1',rowOb];rfl) ?_)))<;>(try (fail)))
   ·rw [if_neg c2]
    simp only [not_or,Bool.not_eq_true] at c2
    obtain ⟨c3,c4⟩:=c2
    rw [c4] at hcc
    generalize hA:rels ⟨cap,pg⟩ vp=A
    simp only [dSr]
    refine of_tri [] [3,6,10,16,28,46,64,71,91] Try.func20 rfl call20 rfl (by decide) (by decide) rfl rfl Try.ntmps20 (by simp (disch:=omega) only [seval,go_sem,cnd,intV,shV,convV,strV,List.replicate,l_2,l_1];rfl) (by simp (disch:=omega) only [seval,go_sem,cnd,intV,shV,convV,strV,l_2,l_1];rfl) ?_
    ((repeat' (first|((with_reducible refine isTriD ?_);((with_reducible refine isCallD ?_);((with_reducible refine LVcall (st:=[]) ?_);simp only [seval,go_sem,q1',rowOb];first|(refine CallL.c (hoc) ?_)|(refine CallL.c (hrc) ?_)|(refine CallL.c (hcc) ?_))))|(with_reducible (refine TVq (st:=[]) ?_))|simp only [seval,go_sem,q1',rowOb]|(with_reducible refine oV_st (by simp (disch:=omega) only [seval,go_sem,cnd,intV,shV,convV,strV,q1',rowOb];rfl) ?_)))<;>(try (fail)))
    all_goals (refine Tri.bx 10 (by simp only [seval,go_sem];rfl) (by simp only [seval,go_sem];first|done|rfl) (by simp only [seval,go_sem];rfl) ?_)
    all_goals (with_reducible refine Tri.loopU (fun (t:Nat×Ar)=>[(12,.sc (.int .i64 t.1)),(49,.any),(50,.any),(51,.any),(52,.any),(53,.any),(54,.any),(55,.any),(56,.any),(57,.any),(58,.any),(59,.any),(60,.any),(61,.any),(62,.any),(63,.any),(64,.any),(65,.any),(66,.any),(67,.any),(68,.any)]) (fun (t:Nat×Ar)=>[(3,.box [.sc (.int .i64 a1),.sc (.int .i64 a2),.sc (.int .i64 a3),.sc (.int .i64 a4),.sc (.int .i64 a5),.sc (.int .i64 a6),.sc (.int .i64 a7),.sc (.int .i64 com),.sc (.int .i64 last),.sl 2 (os.map rowOb),.sl 4 (bs.map rowBd),.sl 2 (ps.map rowP),.sc (.int .i64 t.2.cap),.sl 3 (t.2.pages.map rowPg)]),(64,.dead)]) (fun (t:Nat×Ar)=>t.1≤vp.length∧t.2.pages.length≤100000∧rels t.2 (vp.drop t.1)=A) (fun (t:Nat×Ar)=>vp.length-t.1) ((0,⟨cap,pg⟩)) (⟨Nat.zero_le _,hg,by simpa using hA⟩) (by intro _;simp (disch:=omega) only [seval,go_sem,cnd,intV,shV,convV,strV];rfl) (by intro _;simp (disch:=omega) only [seval,go_sem,cnd,intV,shV,convV,strV];rfl) (by (refine leQL_spec ?_);(try simp only [seval,go_sem]);done) (by (refine leQH_spec ?_);(try simp only [seval,go_sem]);done) (fun t hI=>?_))
    all_goals
     obtain ⟨k,⟨cap2,pg2⟩⟩:=t
     obtain ⟨hk,hgl,hf⟩:=hI
     simp only at hk hgl hf
     by_cases hlt:k<vp.length
     ·obtain ⟨z,hz⟩:=get_lt hlt
      have hz':=get_map rowI hz
      have hf2:=rels_step hz hf
      have hrel:=rrel_calls (c:=cap2) (n:=z) hgl
      have hln:=release_len ⟨cap2,pg2⟩ z
      generalize releaseR ⟨cap2,pg2⟩ z=RR at *
      obtain ⟨⟨cap3,pg3⟩,rb,re⟩:=RR
      simp only at hrel hf2 hln
      ((repeat' (first|((with_reducible refine isTriD ?_);first|((with_reducible refine isCallD ?_);((with_reducible refine LVcall (st:=[]) ?_);simp only [seval,go_sem,hz',rowI];(refine CallL.c (hrel) ?_)))|((with_reducible first|refine TriD.step (by simp only [seval,go_sem,hz',rowI];rfl) ?_);refine LVs (st:=[]) ?_))|(with_reducible refine isDrawnN 12 ?_;(try (refine Tri.bx 10 (by simp only [seval,go_sem,hz',rowI];rfl) (by simp only [seval,go_sem,hz',rowI];fail) (by simp only [seval,go_sem,hz',rowI];rfl) ?_));refine Tri.mixedP 12 mix 14 rfl (.f 0 <| .f 2 <| .f 4 <| .r 3 <| .f 5 <| .r 6 <| .a <| .b 1 (.a <| .b 7 (.f 8 <| .f 9 <| .f 10 <| .f 11 <| .f 12 <| .a <| .b 13 (.d) .e) .e) .e) (by kernel_rfl) ?_)|(with_reducible refine isAnyP ?_;first|refine AnyP.D ?_|refine AnyP.F (by simp only [seval,go_sem,l_7,l_6];rfl) (by first|(simp only [seval,go_sem,hz',rowI];done)) (by first|(simp only [seval,go_sem,hz',rowI];with_reducible rfl)|(simp (disch:=omega) only [seval,go_sem,cnd,intV,shV,convV,strV,hz',rowI];with_reducible rfl)) ?_|refine AnyP.R (by simp only [seval,go_sem,l_7,l_6];rfl) (by first|(refine .inl ?_;simp only [seval,go_sem,hz',rowI];done)) (by first|(simp only [seval,go_sem,hz',rowI];with_reducible rfl)) ?_|refine AnyP.A ?_)|(with_reducible first|exact NextsP.E|refine NextsP.B (by simp only [seval,go_sem,l_7,l_6];rfl) ?_ ?_)|(with_reducible (refine TVq (st:=[]) ?_))|simp only [seval,go_sem,hz',rowI]|(with_reducible refine oV_st (by simp (disch:=omega) only [seval,go_sem,cnd,intV,shV,convV,strV,hz',rowI];rfl) ?_)))<;>(try (fail)))
      all_goals (try (refine isNextM ((k+1,⟨cap3,pg3⟩)) (by (refine leQL_spec ?_);(try simp only [seval,go_sem]);first|((repeat' (with_reducible apply And.intro))<;>first|rfl);done) (by (refine leQH_spec ?_);(try simp only [seval,go_sem]);done) ?_ ?_<;>(try (omega))))
      all_goals (try exact ⟨by simp only;omega,by simp only;omega,hf2⟩)
     ·rw [List.drop_eq_nil_of_le (by omega),rels] at hf
      subst hf
      have hls:((os.map rowOb).set j [.sc (.int .i64 o.id), .sl 4 (V.map rowV)]).length=os.length:=by simp
      by_cases hz:V.length=0
      ·rw [if_pos hz]
       have ht1:List.take (os.length-(j+1)) (List.drop (j+1) ((os.map rowOb).set j [.sc (.int .i64 o.id), .sl 4 (V.map rowV)]))=(os.drop (j+1)).map rowOb:=by
        rw [List.drop_set_of_lt (by omega), ← List.map_drop]
        exact List.take_of_length_le (by simp)
       have ht2:List.take j ((os.map rowOb).set j [.sc (.int .i64 o.id), .sl 4 (V.map rowV)])=(os.take j).map rowOb:=by
        rw [List.take_set_of_le (by omega),List.map_take]
       have hln:((os.drop (j+1)).map rowOb).length=os.length-(j+1):=by simp
       have htk: ∀ X,List.take (j+(os.length-(j+1))) ((os.take j).map rowOb++(os.drop (j+1)).map rowOb++X)=(delAt os (j:Int)).map rowOb:=fun X=>by
        rw [List.take_append_of_le_length (by simp;omega),List.take_of_length_le (by simp;omega),delAt,Int.toNat_natCast,List.map_append]
       have hle: ∀ X,j+(os.length-(j+1))≤((os.take j).map rowOb++(os.drop (j+1)).map rowOb++X).length:=fun X=>by
        rw [List.length_append,List.length_append,List.length_map,List.length_map,List.length_take,List.length_drop];omega
       (all_goals (try have hZ:=(And.intro hz (And.intro ht1 (And.intro ht2 (And.intro hln (And.intro htk hle))))));(repeat' (first|((with_reducible refine isTriD ?_);first|((with_reducible first|refine TriD.step (by simp only [seval,go_sem,q1',rowOb,hZ];rfl) ?_);refine LVs (st:=[]) ?_)|(with_reducible refine isAppend ?_;with_reducible refine TriD.appPre (by simp only [seval,go_sem,q1',rowOb,hZ]) (by simp only [seval,go_sem,q1',rowOb,hZ];rfl) (by simp only [seval,go_sem,q1',rowOb,hZ];rfl) (by simp only [seval,go_sem,q1',rowOb,hZ];rfl) rfl (by decide) (by decide) (by decide) (by simp only [seval,go_sem,q1',rowOb,hZ];rfl) (by simp only [seval,go_sem,q1',rowOb,hZ];rfl) (by simp (disch:=omega) only [seval,go_sem,cnd,intV,shV,convV,strV,q1',rowOb,hZ];rfl) (by (try simp only [anyR_len,List.length_map,List.length_append,List.length_cons,List.length_nil,List.length_take,List.length_drop,List.length_replicate,splice,Nat.reduceMul]);omega) (by (try simp only [anyR_len,List.length_map,List.length_append,List.length_cons,List.length_nil,List.length_take,List.length_drop,List.length_replicate,splice,Nat.reduceMul]);omega) ?_;refine LVs (st:=[]) ?_))|(with_reducible refine isDrawnN 16 ?_;(try (refine Tri.bx 10 (by simp only [seval,go_sem,q1',rowOb,hZ];rfl) (by simp only [seval,go_sem,q1',rowOb,hZ];fail) (by simp only [seval,go_sem,q1',rowOb,hZ];rfl) ?_));refine Tri.mixedP 16 mix 12 rfl (.f 0 <| .f 2 <| .f 4 <| .f 6 <| .f 7 <| .a <| .b 1 (.f 3 <| .a <| .b 5 (.f 8 <| .a <| .b 9 (.f 10 <| .a <| .b 11 (.d) .e) .e) .e) <| .b 5 (.f 8 <| .a <| .b 1 (.f 3 <| .a <| .b 9 (.f 10 <| .a <| .b 11 (.d) .e) .e) .e) .e) (by kernel_rfl) ?_)|(with_reducible refine isAnyP ?_;first|refine AnyP.D ?_|refine AnyP.F (by simp only [seval,go_sem,l_7,l_6];rfl) (by first|(simp only [seval,go_sem,q1',rowOb,hZ];done)) (by first|(simp only [seval,go_sem,q1',rowOb,hZ];with_reducible rfl)|(simp (disch:=omega) only [seval,go_sem,cnd,intV,shV,convV,strV,q1',rowOb,hZ];with_reducible rfl)) ?_|refine AnyP.A ?_)|(with_reducible first|exact NextsP.E|refine NextsP.B (by simp only [seval,go_sem,l_7,l_6];rfl) ?_ ?_)|(with_reducible refine isRet ?_;(refine RetOK.frz 71 (by simp only [seval,go_sem];rfl) (by simp only [seval,go_sem,q1',rowOb,hZ];rfl) ?_);(with_reducible refine isRet ?_;refine RetOK.q rfl (by with_unfolding_all (show retD _ _ [.cell 6 32,.tmp 7]=_);simp only [seval,go_sem];rfl) (by simp only [seval,go_sem];rfl) (by decide) (by simp only [seval,go_sem];rfl) (by simp only [seval,go_sem];rfl) rfl ?_<;>(try simp only [seval,go_sem,q1',rowOb,hZ])<;>(repeat' (with_reducible apply And.intro))<;>(try rfl)))|(with_reducible (refine TVq (st:=[]) ?_))|simp only [seval,go_sem,q1',rowOb,hZ]|(with_reducible refine oV_st (by simp (disch:=omega) only [seval,go_sem,cnd,intV,shV,convV,strV,q1',rowOb,hZ];rfl) ?_)))<;>(try (fail));all_goals (try clear hZ))
      ·rw [if_neg hz,hsv]
       ((repeat' (first|(with_reducible refine isRet ?_;(refine RetOK.frz 71 (by simp only [seval,go_sem];rfl) (by simp only [seval,go_sem,q1',rowOb];rfl) ?_);(with_reducible refine isRet ?_;refine RetOK.q rfl (by with_unfolding_all (show retD _ _ [.cell 6 32,.tmp 7]=_);simp only [seval,go_sem];rfl) (by simp only [seval,go_sem];rfl) (by decide) (by simp only [seval,go_sem];rfl) (by simp only [seval,go_sem];rfl) rfl ?_<;>(try simp only [seval,go_sem,q1',rowOb])<;>(repeat' (with_reducible apply And.intro))<;>(try rfl)))|(with_reducible (refine TVq (st:=[]) ?_))|simp only [seval,go_sem,q1',rowOb]|(with_reducible refine oV_st (by simp (disch:=omega) only [seval,go_sem,cnd,intV,shV,convV,strV,q1',rowOb];rfl) ?_)))<;>(try (fail)))
       all_goals (try (first|(simp [rowOb,List.map_set];done)|exact List.take_of_length_le (by simp)))
  ·rw [if_pos c1]
   simp only [dSr]
   refine of_tri [] [3,6,10,16,28,46,64,71,91] Try.func20 rfl call20 rfl (by decide) (by decide) rfl rfl Try.ntmps20 (by simp (disch:=omega) only [seval,go_sem,cnd,intV,shV,convV,strV,List.replicate,l_2,l_1];rfl) (by simp (disch:=omega) only [seval,go_sem,cnd,intV,shV,convV,strV,l_2,l_1];rfl) ?_
   ((repeat' (first|((with_reducible refine isTriD ?_);((with_reducible refine isCallD ?_);((with_reducible refine LVcall (st:=[]) ?_);simp only [seval,go_sem,q1',rowOb];first|(refine CallL.c (hoc) ?_)|(refine CallL.c (hrc) ?_))))|(with_reducible refine isRet ?_;refine RetV (rs:=[.cell 6 32,.tmp 7]) (by with_unfolding_all rfl) rfl ?_<;>simp only [seval,go_sem]<;>(repeat' (with_reducible apply And.intro))<;>(try rfl))|(with_reducible (refine TVq (st:=[]) ?_))|simp only [seval,go_sem,q1',rowOb]|(with_reducible refine oV_st (by simp (disch:=omega) only [seval,go_sem,cnd,intV,shV,convV,strV,q1',rowOb];rfl) ?_)))<;>(try (fail)))
theorem weak1 {f:FuncId} {r:D} {ds ds':List D} (h:ACalls Try.prog f [.agg ds] r []) (hw: ∀ (w:World) (st:Nat→Prop) (ρ:Nat→Option (Option Nat)) (vs:List Value),RL w st ρ ds' vs→RL w st ρ ds vs):ACalls Try.prog f [.agg ds'] r []:=by
 obtain ⟨h1,h2⟩:=h
 refine ⟨h1,fun w st ρ vs hst hin hargs=>h2 w st ρ vs hst hin ?_⟩
 simp only [RL] at hargs ⊢
 obtain ⟨a,l,rfl,ha,rfl⟩:=hargs
 simp only [R] at ha
 obtain ⟨cs,rfl,hc⟩:=ha
 exact ⟨_,_,rfl,by simp only [R];exact ⟨cs,rfl,hw w st ρ _ hc⟩,rfl⟩
theorem nilR1 {w:World} {st:Nat→Prop} {ρ:Nat→Option (Option Nat)} {k:Nat} {v:Value} (h:R w st ρ (.sc (.slice none 0 0)) v):R w st ρ (.sl k []) v:=by
 simp only [R] at h ⊢
 exact ⟨none,0,h,Nat.le_refl _,Nat.zero_le _, .inl trivial⟩
theorem dmk_weak (c:Int) (o:List (List D)) (w:World) (st:Nat→Prop) (ρ:Nat→Option (Option Nat)) (vs:List Value) (h:RL w st ρ [.sc (.int .i64 c),.sl 2 o,.sc (.slice none 0 0),.sc (.slice none 0 0),.sc (.slice none 0 0)] vs):RL w st ρ [.sc (.int .i64 c),.sl 2 o,.sl 4 [],.sl 2 [],.sl 3 []] vs:=by
 simp only [RL] at h ⊢
 obtain ⟨a,_,rfl,ha,b,_,rfl,hb,c,_,rfl,hc,d,_,rfl,hd,e,_,rfl,he,rfl⟩:=h
 exact ⟨a,_,rfl,ha,b,_,rfl,hb,c,_,rfl,nilR1 hc,d,_,rfl,nilR1 hd,e,_,rfl,nilR1 he,rfl⟩
def obsK:List Ob:=[⟨1,[⟨1,2,0,[4]⟩,⟨2,0,0,[7]⟩]⟩]
theorem kn_1:garbR [] (versR obsK [])=[⟨1,1⟩]:=by decide +kernel
theorem kn_2:reachR [] (versR obsK [])=[7]:=by decide +kernel
theorem kn_3: ∀ x∈versR obsK [],x.v.pages.length≤1000:=by decide +kernel
theorem kn_4:(obsK.flatMap vnsO).length≤19:=by decide +kernel
theorem kn_0:obsK.map rowOb=[[.sc (.int .i64 1), .sl 4 [[.sc (.int .i64 1), .sc (.int .i64 2), .sc (.int .i64 0), .sl 1 [[.sc (.int .i64 4)]]],[.sc (.int .i64 2), .sc (.int .i64 0), .sc (.int .i64 0), .sl 1 [[.sc (.int .i64 7)]]]]]]:=rfl
set_option maxRecDepth 100000 in set_option maxHeartbeats 6400000 in
theorem known20_calls:ACalls Try.prog 21 [] (.sc (.bool true)) []:=by
 have c1:=weak1 (garbage_calls (com:=2) (os:=obsK) (ps:=[]) (bd:=[]) (pg:=[]) (by decide) kn_4 (by decide)) (dmk_weak _ _)
 have c2:=weak1 (reach_calls (com:=2) (os:=obsK) (ps:=[]) (bd:=[]) (pg:=[]) (by decide) kn_4 (by decide) kn_3) (dmk_weak _ _)
 rw [kn_1,kn_0] at c1
 rw [kn_2,kn_0] at c2
 simp only [l_3,l_4,rowVc,rowI] at c1 c2
 refine of_tri [] [1,4,6,8,10,13,15] Try.func21 rfl call21 rfl (by decide) (by decide) rfl rfl Try.ntmps21 (by simp (disch:=omega) only [seval,go_sem,cnd,intV,shV,convV,strV,List.replicate,l_2,l_1];rfl) (by simp (disch:=omega) only [seval,go_sem,cnd,intV,shV,convV,strV,l_2,l_1];rfl) ?_
 ((repeat' (first|((with_reducible refine isTriD ?_);first|(with_reducible refine TriD.frz 4 (by simp only [seval,go_sem];rfl) (by simp only [seval,go_sem];rfl) ?_;refine LVs (st:=[24,29,35]) ?_)|(with_reducible refine TriD.frz 6 (by simp only [seval,go_sem];rfl) (by simp only [seval,go_sem];rfl) ?_;refine LVs (st:=[24,29,35]) ?_)|(with_reducible refine TriD.frz 8 (by simp only [seval,go_sem];rfl) (by simp only [seval,go_sem];rfl) ?_;refine LVs (st:=[24,29,35]) ?_)|(with_reducible refine TriD.frz 10 (by simp only [seval,go_sem];rfl) (by simp only [seval,go_sem];rfl) ?_;refine LVs (st:=[24,29,35]) ?_)|((with_reducible refine isCallD ?_);((with_reducible refine LVcall (st:=[24,29,35]) ?_);simp only [seval,go_sem];first|(refine CallL.c (c1) ?_;simp only [seval,go_sem];(fail_if_success (with_reducible refine isResV ?_)))|(refine CallL.c (c2) ?_;simp only [seval,go_sem];(fail_if_success (with_reducible refine isResV ?_)))))|((with_reducible first|refine TriD.step (by simp only [seval,go_sem];rfl) ?_|refine TriD.step (by simp (disch:=omega) only [seval,go_sem,cnd,intV,shV,convV,strV];rfl) ?_);refine LVs (st:=[24,29,35]) ?_))|(with_reducible refine isRet ?_;refine RetV (rs:=[.tmp 0]) (by with_unfolding_all rfl) rfl ?_<;>simp only [seval,go_sem]<;>(repeat' (with_reducible apply And.intro))<;>(try rfl))|(with_reducible (refine TVq (st:=[24,29,35]) ?_))|simp only [seval,go_sem]|(with_reducible refine oV_st (by simp (disch:=omega) only [seval,go_sem,cnd,intV,shV,convV,strV];rfl) ?_)))<;>(try (fail)))
end Go.Proofs.Ytmgodadmafcliaa
