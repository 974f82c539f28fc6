/- The reference's store: Drop; the walk. -/
import Derived.Test.YtmgodadmafcliaaGreatZSrD
import Derived.Test.YtmgodadmafcliaaGreatZCoS
import Derived.Test.YtmgodadmafcliaaGreatZSrH
import Derived.Test.YtmgodadmafcliaaGreatZDiG
set_option linter.unusedSimpArgs false
set_option linter.unusedVariables false
namespace Go.Proofs.YtmgodadmafcliaaGreat
open Go.RowKit Go.Avm
theorem setVers_at {l:List Ob} {j:Nat} {o:Ob} (h:l[j]? = some o) (v:List Ver):setVers l (j:Int) v=l.set j ⟨o.id,v⟩:=by
 simp [setVers,obGet,h]
theorem obGet_at {l:List Ob} {j:Nat} {o:Ob} (h:l[j]? = some o):obGet l (j:Int)=o:=by simp [obGet,h]
set_option maxRecDepth 100000 in set_option maxHeartbeats 6400000 in
theorem rdrop_calls {a1 a2 a3 a4 a5 a6 a7 com last cap:Int} {os:List Ob} {bs:List Bd} {ps:List Pn} {pg:List Pg} {n:ByteArray} (hb:bs.length≤100000) (ho:os.length≤100000) (hv: ∀ o∈os,o.vers.length≤100000) (hp: ∀ o∈os,∀ v∈o.vers,v.pages.length≤1000000) (h0:0≤com) (h9:com≤1000000000):ACalls Tryz.prog 24 [.agg [.sc (.int .i64 a1),.sc (.int .i64 a2),.sc (.int .i64 a3),.sc (.int .i64 a4),.sc (.int .i64 a5),.sc (.int .i64 a6),.sc (.int .i64 a7),.sc (.int .i64 com),.sc (.int .i64 last),.sl 2 (os.map rowOb),.sl 4 (bs.map rowBd),.sl 2 (ps.map rowP),.sc (.int .i64 cap),.sl 3 (pg.map rowPg)],.sc (.string n)] (.tup [.agg (dSr (dropR ⟨⟨a1,a2,a3,a4,a5,a6,a7⟩,com,last,os,bs,ps,⟨cap,pg⟩⟩ n).1),.sc (.int .i64 (dropR ⟨⟨a1,a2,a3,a4,a5,a6,a7⟩,com,last,os,bs,ps,⟨cap,pg⟩⟩ n).2.1),.sc (.int .i64 (dropR ⟨⟨a1,a2,a3,a4,a5,a6,a7⟩,com,last,os,bs,ps,⟨cap,pg⟩⟩ n).2.2)]) []:=by
 have hvc:=rver_calls (a1:=a1) (a2:=a2) (a3:=a3) (a4:=a4) (a5:=a5) (a6:=a6) (a7:=a7) (com:=com) (last:=last) (cap:=cap) (os:=os) (bs:=bs) (ps:=ps) (pg:=pg) (n:=n) (c:=com) hb ho hv
 unfold dropR
 simp only
 rcases verR_split ⟨⟨a1,a2,a3,a4,a5,a6,a7⟩,com,last,os,bs,ps,⟨cap,pg⟩⟩ n com with ⟨e,_⟩|⟨j,k,o,v,_,q1,q2,q3,q4,q5,q6,e⟩
 ·rw [e] at hvc ⊢
  simp only
  rw [if_pos trivial]
  simp only [rowV,zeroV,l_4] at hvc
  simp only [dSr]
  refine of_tri [] [2,4,8,15,35,49,60] Tryz.func24 rfl call24 rfl (by decide) (by decide) rfl rfl Tryz.ntmps24 (by simp (disch:=omega) only [seval,go_sem,cnd,intV,shV,convV,strV,List.replicate,l_2,l_1];rfl) (by simp (disch:=omega) only [seval,go_sem,cnd,intV,shV,convV,strV,l_2,l_1];rfl) ?_
  ((repeat' (first|((with_reducible refine isTriD ?_);((with_reducible refine isCallD ?_);((with_reducible refine LVcall (st:=[]) ?_);simp only [seval,go_sem];(refine CallL.c (hvc) ?_))))|(with_reducible refine isRet ?_;refine RetV (rs:=[.cell 4 35,.tmp 5,.tmp 6]) (by with_unfolding_all rfl) rfl ?_<;>simp only [seval,go_sem]<;>(repeat' (with_reducible apply And.intro))<;>(try rfl))|(with_reducible (refine TVq (st:=[]) ?_))|simp only [seval,go_sem]))<;>(try (fail)))
 ·rw [e] at hvc ⊢
  simp only
  rw [if_neg (by decide)]
  simp only [rowV] at hvc
  by_cases c1:a6≤com
  ·rw [if_pos c1]
   simp only [dSr]
   refine of_tri [] [2,4,8,15,35,49,60] Tryz.func24 rfl call24 rfl (by decide) (by decide) rfl rfl Tryz.ntmps24 (by simp (disch:=omega) only [seval,go_sem,cnd,intV,shV,convV,strV,List.replicate,l_2,l_1];rfl) (by simp (disch:=omega) only [seval,go_sem,cnd,intV,shV,convV,strV,l_2,l_1];rfl) ?_
   ((repeat' (first|((with_reducible refine isTriD ?_);((with_reducible refine isCallD ?_);((with_reducible refine LVcall (st:=[]) ?_);simp only [seval,go_sem];(refine CallL.c (hvc) ?_))))|(with_reducible refine isRet ?_;refine RetV (rs:=[.cell 4 35,.tmp 5,.tmp 6]) (by with_unfolding_all rfl) rfl ?_<;>simp only [seval,go_sem]<;>(repeat' (with_reducible apply And.intro))<;>(try rfl))|(with_reducible (refine TVq (st:=[]) ?_))|simp only [seval,go_sem]|(with_reducible refine oV_st (by simp (disch:=omega) only [seval,go_sem,cnd,intV,shV,convV,strV];rfl) ?_)))<;>(try (fail)))
  ·rw [if_neg c1]
   simp only at q1 q2
   simp only [obGet_at q1,setVers_at q1]
   have hm:=List.mem_of_getElem? q1
   have hcc:=rclose_val (vs:=o.vers) (c:=com+1) (hv o hm) (hp o hm)
   have huc:=runbind2_calls (l:=bs) (n:=n) (c:=com+1) hb
   generalize closeV o.vers (com+1)=CV at *
   generalize unbindB bs n (com+1)=UB at *
   have q1':=get_map rowOb q1
   simp only [dSr]
   refine of_tri [] [2,4,8,15,35,49,60] Tryz.func24 rfl call24 rfl (by decide) (by decide) rfl rfl Tryz.ntmps24 (by simp (disch:=omega) only [seval,go_sem,cnd,intV,shV,convV,strV,List.replicate,l_2,l_1];rfl) (by simp (disch:=omega) only [seval,go_sem,cnd,intV,shV,convV,strV,l_2,l_1];rfl) ?_
   ((repeat' (first|((with_reducible refine isTriD ?_);first|((with_reducible refine isCallD ?_);((with_reducible refine LVcall (st:=[]) ?_);simp only [seval,go_sem,q1',rowOb];first|(refine CallL.c (hvc) ?_)|(refine CallL.c (hcc) ?_)|(refine CallL.c (huc) ?_)))|((with_reducible first|refine TriD.step (by simp only [seval,go_sem,q1',rowOb];rfl) ?_);refine LVs (st:=[]) ?_))|(with_reducible refine isDrawnN 8 ?_;refine Tri.mixedP 8 mix 18 rfl (.f 0 <| .f 2 <| .f 3 <| .f 5 <| .f 9 <| .a <| .b 1 (.a <| .b 4 (.f 6 <| .f 7 <| .a <| .b 8 (.a <| .b 10 (.a <| .b 11 (.f 12 <| .f 13 <| .f 14 <| .f 15 <| .f 16 <| .a <| .b 17 (.d) .e) .e) .e) <| .b 10 (.a <| .b 8 (.a <| .b 11 (.f 12 <| .f 13 <| .f 14 <| .f 15 <| .f 16 <| .a <| .b 17 (.d) .e) .e) .e) .e) <| .b 10 (.a <| .b 4 (.f 6 <| .f 7 <| .a <| .b 8 (.a <| .b 11 (.f 12 <| .f 13 <| .f 14 <| .f 15 <| .f 16 <| .a <| .b 17 (.d) .e) .e) .e) .e) .e) <| .b 4 (.f 6 <| .f 7 <| .a <| .b 1 (.a <| .b 8 (.a <| .b 10 (.a <| .b 11 (.f 12 <| .f 13 <| .f 14 <| .f 15 <| .f 16 <| .a <| .b 17 (.d) .e) .e) .e) <| .b 10 (.a <| .b 8 (.a <| .b 11 (.f 12 <| .f 13 <| .f 14 <| .f 15 <| .f 16 <| .a <| .b 17 (.d) .e) .e) .e) .e) <| .b 8 (.a <| .b 1 (.a <| .b 10 (.a <| .b 11 (.f 12 <| .f 13 <| .f 14 <| .f 15 <| .f 16 <| .a <| .b 17 (.d) .e) .e) .e) <| .b 10 (.a <| .b 1 (.a <| .b 11 (.f 12 <| .f 13 <| .f 14 <| .f 15 <| .f 16 <| .a <| .b 17 (.d) .e) .e) <| .b 11 (.f 12 <| .f 13 <| .f 14 <| .a <| .b 1 (.f 15 <| .f 16 <| .a <| .b 17 (.d) .e) .e) .e) .e) <| .b 10 (.a <| .b 1 (.a <| .b 8 (.a <| .b 11 (.f 12 <| .f 13 <| .f 14 <| .f 15 <| .f 16 <| .a <| .b 17 (.d) .e) .e) .e) <| .b 8 (.a <| .b 1 (.a <| .b 11 (.f 12 <| .f 13 <| .f 14 <| .f 15 <| .f 16 <| .a <| .b 17 (.d) .e) .e) <| .b 11 (.f 12 <| .f 13 <| .f 14 <| .a <| .b 1 (.f 15 <| .f 16 <| .a <| .b 17 (.d) .e) .e) .e) .e) .e) <| .b 10 (.a <| .b 1 (.a <| .b 4 (.f 6 <| .f 7 <| .a <| .b 8 (.a <| .b 11 (.f 12 <| .f 13 <| .f 14 <| .f 15 <| .f 16 <| .a <| .b 17 (.d) .e) .e) .e) .e) <| .b 4 (.f 6 <| .f 7 <| .a <| .b 1 (.a <| .b 8 (.a <| .b 11 (.f 12 <| .f 13 <| .f 14 <| .f 15 <| .f 16 <| .a <| .b 17 (.d) .e) .e) .e) <| .b 8 (.a <| .b 1 (.a <| .b 11 (.f 12 <| .f 13 <| .f 14 <| .f 15 <| .f 16 <| .a <| .b 17 (.d) .e) .e) <| .b 11 (.f 12 <| .f 13 <| .f 14 <| .a <| .b 1 (.f 15 <| .f 16 <| .a <| .b 17 (.d) .e) .e) .e) .e) .e) .e) (by kernel_rfl) ?_)|(with_reducible refine isDrawnN 10 ?_;refine Tri.mixedP 10 mix 6 rfl (.f 1 <| .a <| .b 0 (.a <| .b 2 (.a <| .b 3 (.f 4 <| .f 5 <| .d) .e) <| .b 3 (.a <| .b 2 (.f 4 <| .f 5 <| .d) .e) .e) <| .b 2 (.a <| .b 0 (.a <| .b 3 (.f 4 <| .f 5 <| .d) .e) .e) .e) (by kernel_rfl) ?_)|(with_reducible refine isAnyP ?_;first|refine AnyP.D ?_|refine AnyP.F (by simp only [seval,go_sem,l_7,l_6];rfl) (by first|(simp only [seval,go_sem,q1',rowOb];done)) (by first|(simp only [seval,go_sem,q1',rowOb];with_reducible rfl)|(simp (disch:=omega) only [seval,go_sem,cnd,intV,shV,convV,strV,q1',rowOb];with_reducible rfl)) ?_|refine AnyP.A ?_)|(with_reducible first|exact NextsP.E|refine NextsP.B (by simp only [seval,go_sem,l_7,l_6];rfl) ?_ ?_)|(with_reducible refine isRet ?_;(refine RetOK.frz 35 (by simp only [seval,go_sem];rfl) (by simp only [seval,go_sem,q1',rowOb];rfl) ?_);(with_reducible refine isRet ?_;refine RetOK.q rfl (by with_unfolding_all (show retD _ _ [.cell 4 35,.tmp 5,.tmp 6]=_);simp only [seval,go_sem];rfl) (by simp only [seval,go_sem];rfl) (by decide) (by simp only [seval,go_sem];rfl) (by simp only [seval,go_sem];rfl) rfl ?_<;>(try simp only [seval,go_sem,q1',rowOb])<;>(repeat' (with_reducible apply And.intro))<;>(try rfl)))|(with_reducible (refine TVq (st:=[]) ?_))|simp only [seval,go_sem,q1',rowOb]|(with_reducible refine oV_st (by simp (disch:=omega) only [seval,go_sem,cnd,intV,shV,convV,strV,q1',rowOb];rfl) ?_)))<;>(try (fail)))
   all_goals (try (first|(simp [rowOb,List.map_set];done)|exact List.take_of_length_le (by simp)))
end Go.Proofs.YtmgodadmafcliaaGreat
/- Collector: the walk of the reference's Remove; the law's known. -/
set_option linter.unusedSimpArgs false
set_option linter.unusedVariables false
namespace Go.Proofs.YtmgodadmafcliaaGreat
open Go.RowKit Go.Avm
theorem weak1 {f:FuncId} {r:D} {ds ds':List D} (h:ACalls Tryz.prog f [.agg ds] r []) (hw: ∀ (w:World) (st:Nat→Prop) (ρ:Nat→Option (Option Nat)) (vs:List Value),RL w st ρ ds' vs→RL w st ρ ds vs):ACalls Tryz.prog f [.agg ds'] r []:=by
 obtain ⟨h1,h2⟩:=h
 refine ⟨h1,fun w st ρ vs hst hin hargs=>h2 w st ρ vs hst hin ?_⟩
 simp only [RL] at hargs ⊢
 obtain ⟨a,l,rfl,ha,rfl⟩:=hargs
 simp only [R] at ha
 obtain ⟨cs,rfl,hc⟩:=ha
 exact ⟨_,_,rfl,by simp only [R];exact ⟨cs,rfl,hw w st ρ _ hc⟩,rfl⟩
theorem nilR1 {w:World} {st:Nat→Prop} {ρ:Nat→Option (Option Nat)} {k:Nat} {v:Value} (h:R w st ρ (.sc (.slice none 0 0)) v):R w st ρ (.sl k []) v:=by
 simp only [R] at h ⊢
 exact ⟨none,0,h,Nat.le_refl _,Nat.zero_le _, .inl trivial⟩
theorem dmk_weak (c:Int) (o:List (List D)) (w:World) (st:Nat→Prop) (ρ:Nat→Option (Option Nat)) (vs:List Value) (h:RL w st ρ [.sc (.int .i64 c),.sl 2 o,.sc (.slice none 0 0),.sc (.slice none 0 0),.sc (.slice none 0 0)] vs):RL w st ρ [.sc (.int .i64 c),.sl 2 o,.sl 4 [],.sl 2 [],.sl 3 []] vs:=by
 simp only [RL] at h ⊢
 obtain ⟨a,_,rfl,ha,b,_,rfl,hb,c,_,rfl,hc,d,_,rfl,hd,e,_,rfl,he,rfl⟩:=h
 exact ⟨a,_,rfl,ha,b,_,rfl,hb,c,_,rfl,nilR1 hc,d,_,rfl,nilR1 hd,e,_,rfl,nilR1 he,rfl⟩
def obsK:List Ob:=[⟨1,[⟨1,2,0,[4]⟩,⟨2,0,0,[7]⟩]⟩]
theorem kn_1:garbR [] (versR obsK [])=[⟨1,1⟩]:=by decide +kernel
theorem kn_2:reachR [] (versR obsK [])=[7]:=by decide +kernel
theorem kn_3: ∀ x∈versR obsK [],x.v.pages.length≤1000:=by decide +kernel
theorem kn_4:(obsK.flatMap vnsO).length≤19:=by decide +kernel
theorem kn_0:obsK.map rowOb=[[.sc (.int .i64 1), .sl 4 [[.sc (.int .i64 1), .sc (.int .i64 2), .sc (.int .i64 0), .sl 1 [[.sc (.int .i64 4)]]],[.sc (.int .i64 2), .sc (.int .i64 0), .sc (.int .i64 0), .sl 1 [[.sc (.int .i64 7)]]]]]]:=rfl
set_option maxRecDepth 100000 in set_option maxHeartbeats 6400000 in
theorem known20_calls:ACalls Tryz.prog 7 [] (.sc (.bool true)) []:=by
 have c1:=weak1 (garbage_calls (com:=2) (os:=obsK) (ps:=[]) (bd:=[]) (pg:=[]) (by decide) kn_4 (by decide)) (dmk_weak _ _)
 have c2:=weak1 (reach_calls (com:=2) (os:=obsK) (ps:=[]) (bd:=[]) (pg:=[]) (by decide) kn_4 (by decide) kn_3) (dmk_weak _ _)
 rw [kn_1,kn_0] at c1
 rw [kn_2,kn_0] at c2
 simp only [l_3,l_4,rowVc,rowI] at c1 c2
 refine of_tri [] [1,4,6,8,10,13,15] Tryz.func7 rfl call7 rfl (by decide) (by decide) rfl rfl Tryz.ntmps7 (by simp (disch:=omega) only [seval,go_sem,cnd,intV,shV,convV,strV,List.replicate,l_2,l_1];rfl) (by simp (disch:=omega) only [seval,go_sem,cnd,intV,shV,convV,strV,l_2,l_1];rfl) ?_
 ((repeat' (first|((with_reducible refine isTriD ?_);first|(with_reducible refine TriD.frz 4 (by simp only [seval,go_sem];rfl) (by simp only [seval,go_sem];rfl) ?_;refine LVs (st:=[24,29,35]) ?_)|(with_reducible refine TriD.frz 6 (by simp only [seval,go_sem];rfl) (by simp only [seval,go_sem];rfl) ?_;refine LVs (st:=[24,29,35]) ?_)|(with_reducible refine TriD.frz 8 (by simp only [seval,go_sem];rfl) (by simp only [seval,go_sem];rfl) ?_;refine LVs (st:=[24,29,35]) ?_)|(with_reducible refine TriD.frz 10 (by simp only [seval,go_sem];rfl) (by simp only [seval,go_sem];rfl) ?_;refine LVs (st:=[24,29,35]) ?_)|((with_reducible refine isCallD ?_);((with_reducible refine LVcall (st:=[24,29,35]) ?_);simp only [seval,go_sem];first|(refine CallL.c (c1) ?_;simp only [seval,go_sem];(fail_if_success (with_reducible refine isResV ?_)))|(refine CallL.c (c2) ?_;simp only [seval,go_sem];(fail_if_success (with_reducible refine isResV ?_)))))|((with_reducible first|refine TriD.step (by simp only [seval,go_sem];rfl) ?_|refine TriD.step (by simp (disch:=omega) only [seval,go_sem,cnd,intV,shV,convV,strV];rfl) ?_);refine LVs (st:=[24,29,35]) ?_))|(with_reducible refine isRet ?_;refine RetV (rs:=[.tmp 0]) (by with_unfolding_all rfl) rfl ?_<;>simp only [seval,go_sem]<;>(repeat' (with_reducible apply And.intro))<;>(try rfl))|(with_reducible (refine TVq (st:=[24,29,35]) ?_))|simp only [seval,go_sem]|(with_reducible refine oV_st (by simp (disch:=omega) only [seval,go_sem,cnd,intV,shV,convV,strV];rfl) ?_)))<;>(try (fail)))
end Go.Proofs.YtmgodadmafcliaaGreat
/- The reference's store: Create; the walk. -/
set_option linter.unusedSimpArgs false
set_option linter.unusedVariables false
namespace Go.Proofs.YtmgodadmafcliaaGreat
open Go.RowKit Go.Avm
set_option maxRecDepth 100000 in set_option maxHeartbeats 12800000 in
theorem rcreate_go {a1 a2 a3 a4 a5 a6 a7 com last cap:Int} {os:List Ob} {bs:List Bd} {ps:List Pn} {pg:List Pg} {n:ByteArray} {d:List Int} {C:List (List Int)} {SE:Int} {LL:List ByteArray} (hb:bs.length≤100000) (ho:os.length≤100000) (hg:pg.length≤10000) (hd:d.length≤1000) (h0:0≤com) (h9:com≤1000000000) (h0':0≤last) (h9':last≤1000000000)
  (hnc:ACalls Tryz.prog 40 [.sc (.string n)] (.sc (.bool true)) [])
  (hbc:ACalls Tryz.prog 41 [.agg [.sc (.int .i64 a1),.sc (.int .i64 a2),.sc (.int .i64 a3),.sc (.int .i64 a4),.sc (.int .i64 a5),.sc (.int .i64 a6),.sc (.int .i64 a7),.sc (.int .i64 com),.sc (.int .i64 last),.sl 2 (os.map rowOb),.sl 4 (bs.map rowBd),.sl 2 (ps.map rowP),.sc (.int .i64 cap),.sl 3 (pg.map rowPg)],.sc (.string n)] (.sc (.bool false)) [])
  (hvc:ACalls Tryz.prog 43 [.agg [.sc (.int .i64 a1),.sc (.int .i64 a2),.sc (.int .i64 a3),.sc (.int .i64 a4),.sc (.int .i64 a5),.sc (.int .i64 a6),.sc (.int .i64 a7),.sc (.int .i64 com),.sc (.int .i64 last),.sl 2 (os.map rowOb),.sl 4 (bs.map rowBd),.sl 2 (ps.map rowP),.sc (.int .i64 cap),.sl 3 (pg.map rowPg)]] (.sc (.int .i64 (pg.length:Int))) [])
  (hlc:ACalls Tryz.prog 42 [.sl 4 (bs.map rowBd), .sc (.int .i64 com)] (.sl 1 (LL.map rowN)) [])
  (hsc:ACalls Tryz.prog 39 [.sl 1 (d.map rowW), .sc (.int .i64 a4)] (.tup [.sl 1 (C.map rowL), .sc (.int .i64 SE)]) [])
  (hCm: ∀ (x:List Int),x∈C→x.length≤1024∧ ∀ (z:Int),z∈x→z∈d) (hCC:C.length≤1000) (hLL:LL.length≤1000000)
  (c3: ¬ a2≤(LL.length:Int)) (c4: ¬ a6≤com) (c5: ¬ a3<(pg.length:Int)+(C.length:Int)):
  ACalls Tryz.prog 21 [.agg [.sc (.int .i64 a1),.sc (.int .i64 a2),.sc (.int .i64 a3),.sc (.int .i64 a4),.sc (.int .i64 a5),.sc (.int .i64 a6),.sc (.int .i64 a7),.sc (.int .i64 com),.sc (.int .i64 last),.sl 2 (os.map rowOb),.sl 4 (bs.map rowBd),.sl 2 (ps.map rowP),.sc (.int .i64 cap),.sl 3 (pg.map rowPg)],.sc (.string n),.sl 1 (d.map rowW)] (.tup [.agg (dSr ⟨⟨a1,a2,a3,a4,a5,a6,a7⟩,com+1,last+1,os++[⟨last+1,[⟨com+1,0,d.length,(allocs ⟨cap,pg⟩ C).2⟩]⟩],(bindB bs n (last+1) (com+1)).1,ps,(allocs ⟨cap,pg⟩ C).1⟩),.sc (.int .i64 (com+1)),.sc (.int .i64 0)]) []:=by
 have hLm:(LL.map rowN).length=LL.length:=List.length_map _
 have hCn:(C.map rowL).length=C.length:=List.length_map _
 have hbd:=rbind2_calls (l:=bs) (n:=n) (o:=last+1) (c:=com+1) hb
 generalize bindB bs n (last+1) (com+1)=BB at *
 generalize hAL:allocs ⟨cap,pg⟩ C=AL at *
 simp only [dSr]
 refine of_tri [] [3,6,11,13,21,26,37,44,60,96,104,105,110,114,116,117,127] Tryz.func21 rfl call21 rfl (by decide) (by decide) rfl rfl Tryz.ntmps21 (by simp (disch:=omega) only [seval,go_sem,cnd,intV,shV,convV,strV,List.replicate,l_2,l_1];rfl) (by simp (disch:=omega) only [seval,go_sem,cnd,intV,shV,convV,strV,l_2,l_1];rfl) ?_
 (all_goals (try have hZ:=(And.intro hLm hCn));(repeat' (first|((with_reducible refine isTriD ?_);((with_reducible refine isCallD ?_);((with_reducible refine LVcall (st:=[56,67]) ?_);simp only [seval,go_sem,hZ];first|(refine CallL.c (hsc) ?_)|(refine CallL.c (hnc) ?_)|(refine CallL.c (hbc) ?_))))|(with_reducible refine ListD.nil ?_)|((with_reducible refine isListD ?_);first|(with_reducible refine ListD.step (by simp only [seval,go_sem,hZ];rfl) ?_)|((with_reducible refine isCallV ?_);((with_reducible (refine ListD.dE (by simp only [seval,go_sem,hZ];rfl) (by simp only [seval,go_sem,hZ];rfl) ?_));first|refine CallW.c (hlc) (by simp only [seval,go_sem,hZ];rfl) ?_|refine CallW.c (hvc) (by simp only [seval,go_sem,hZ];rfl) ?_))|(with_reducible refine ListD.step (by simp (disch:=omega) only [seval,go_sem,cnd,intV,shV,convV,strV,hZ];rfl) ?_))|(with_reducible refine isDrawn ?_;refine Tri.drawnD mix (by kernel_rfl) (by simp only [l_3,l_4];rfl) ?_)|(with_reducible (refine TVq (st:=[56,67]) ?_))|simp only [seval,go_sem,hZ]|(with_reducible refine oV_st (by simp (disch:=omega) only [seval,go_sem,cnd,intV,shV,convV,strV,hZ];rfl) ?_)))<;>(try (fail));all_goals (try clear hZ))
 all_goals (refine Tri.virtB 11 3 105 1 (by simp only [seval,go_sem];rfl) (by simp only [seval,go_sem];done) (by decide) (by first|(simp only [seval,go_sem];done)) (by simp only [seval,go_sem];rfl) ?_)
 all_goals (with_reducible refine Tri.loopU (fun (t:Nat×Ar×List Int)=>[(12,.sc (.int .i64 t.1)),(13,.any),(14,.any),(15,.any),(83,.any),(84,.any),(85,.any),(86,.any),(87,.any),(88,.any),(89,.any),(90,.any),(91,.any),(92,.any),(93,.any),(94,.any),(95,.any),(96,.any),(97,.any),(98,.any),(99,.any),(100,.any),(101,.any),(102,.any),(103,.any),(104,.any),(105,.any),(106,.any),(107,.any)]) (fun (t:Nat×Ar×List Int)=>[(105,.row 1 (t.2.2.map rowI)),(11,.box [.sc (.int .i64 (com+1)),.sc (.int .i64 0),.sc (.int .i64 d.length),.slo 105 1 0 t.2.2.length]),(3,.box [.sc (.int .i64 a1),.sc (.int .i64 a2),.sc (.int .i64 a3),.sc (.int .i64 a4),.sc (.int .i64 a5),.sc (.int .i64 a6),.sc (.int .i64 a7),.sc (.int .i64 (com+1)),.sc (.int .i64 (last+1)),.sl 2 (os.map rowOb),.sl 4 (bs.map rowBd),.sl 2 (ps.map rowP),.sc (.int .i64 t.2.1.cap),.sl 3 (t.2.1.pages.map rowPg)]),(13,.dead),(96,.dead),(104,.dead)]) (fun (t:Nat×Ar×List Int)=>t.1≤C.length∧t.2.2.length=t.1∧t.2.1.pages.length≤pg.length+t.1∧(allocs t.2.1 (C.drop t.1)).1=AL.1∧t.2.2++(allocs t.2.1 (C.drop t.1)).2=AL.2) (fun (t:Nat×Ar×List Int)=>C.length-t.1) ((0,⟨cap,pg⟩,[])) (⟨Nat.zero_le _,rfl,Nat.le_refl _,by simp only [List.drop_zero,hAL],by simp only [List.drop_zero,hAL,List.nil_append]⟩) (by intro _;simp (disch:=omega) only [seval,go_sem,cnd,intV,shV,convV,strV];rfl) (by intro _;simp (disch:=omega) only [seval,go_sem,cnd,intV,shV,convV,strV];rfl) (by (refine leQL_spec ?_);(try simp only [seval,go_sem]);done) (by (refine leQH_spec ?_);(try simp only [seval,go_sem]);done) (fun t hI=>?_))
 all_goals
  obtain ⟨k,⟨A1,A2⟩,ns⟩:=t
  obtain ⟨hk,hnl,hpl,hf1,hf2⟩:=hI
  simp only at hk hnl hpl hf1 hf2
  have hll:(ns.map rowI).length=ns.length:=List.length_map _
  by_cases hlt:k<C.length
  ·obtain ⟨x,hx⟩:=get_lt hlt
   have hx':=get_map rowL hx
   rw [drop_get hx,allocs] at hf1 hf2
   have hac:=ralloc_calls (c:=A1) (l:=A2) (d:=x) (by omega) (by have:=(hCm x (List.mem_of_getElem? hx)).1;omega)
   have hal:=allocR_len ⟨A1,A2⟩ x
   simp only at hf1 hf2 hal
   generalize allocR ⟨A1,A2⟩ x=AR at *
   (all_goals (try have hZ:=(And.intro hx' (And.intro hll hCn)));(repeat' (first|((with_reducible refine isTriD ?_);first|((with_reducible refine isCallD ?_);((with_reducible refine LVcall (st:=[56,67]) ?_);simp only [seval,go_sem,rowL,hZ];(refine CallL.c (hac) ?_)))|((with_reducible first|refine TriD.step (by simp only [seval,go_sem,rowL,hZ];rfl) ?_|refine TriD.step (by simp (disch:=omega) only [seval,go_sem,cnd,intV,shV,convV,strV,rowL,hZ];rfl) ?_);refine LVs (st:=[56,67]) ?_))|(with_reducible refine isDrawnN 16 ?_;(try (refine Tri.bx 13 (by simp only [seval,go_sem,rowL,hZ];rfl) (by simp only [seval,go_sem,rowL,hZ];fail) (by simp only [seval,go_sem,rowL,hZ];rfl) ?_));refine Tri.mixedP 16 mix 15 rfl (.f 0 <| .f 2 <| .f 3 <| .f 4 <| .r 5 <| .a <| .b 1 (.a <| .b 6 (.f 7 <| .f 8 <| .f 9 <| .f 10 <| .a <| .b 11 (.a <| .b 12 (.f 13 <| .f 14 <| .d) .e) .e) <| .b 11 (.a <| .b 6 (.f 7 <| .f 8 <| .f 9 <| .f 10 <| .a <| .b 12 (.f 13 <| .f 14 <| .d) .e) .e) .e) <| .b 11 (.a <| .b 1 (.a <| .b 6 (.f 7 <| .f 8 <| .f 9 <| .f 10 <| .a <| .b 12 (.f 13 <| .f 14 <| .d) .e) .e) .e) .e) (by kernel_rfl) ?_)|(with_reducible refine isDrawnN 17 ?_;(try (refine Tri.bx 13 (by simp only [seval,go_sem,rowL,hZ];rfl) (by simp only [seval,go_sem,rowL,hZ];done) (by simp only [seval,go_sem,rowL,hZ];rfl) ?_));refine Tri.mixedP 17 mix 10 rfl (.f 1 <| .f 3 <| .r 0 <| .f 6 <| .a <| .b 2 (.a <| .b 4 (.a <| .b 5 (.a <| .b 7 (.f 8 <| .a <| .b 9 (.d) .e) .e) .e) .e) <| .b 4 (.a <| .b 2 (.a <| .b 5 (.a <| .b 7 (.f 8 <| .a <| .b 9 (.d) .e) .e) .e) .e) .e) (by kernel_rfl) ?_)|(with_reducible refine isAnyP ?_;first|refine AnyP.D ?_|refine AnyP.F (by simp only [seval,go_sem,l_7,l_6];rfl) (by first|(simp only [seval,go_sem,rowL,hZ];done)) (by first|(simp only [seval,go_sem,rowL,hZ];with_reducible rfl)|(simp (disch:=omega) only [seval,go_sem,cnd,intV,shV,convV,strV,rowL,hZ];with_reducible rfl)) ?_|refine AnyP.R (by simp only [seval,go_sem,l_7,l_6];rfl) (by first|(refine .inl ?_;simp only [seval,go_sem,rowL,hZ];done)) (by first|(simp only [seval,go_sem,rowL,hZ];with_reducible rfl)) ?_|refine AnyP.A ?_)|(with_reducible first|exact NextsP.E|refine NextsP.B (by simp only [seval,go_sem,l_7,l_6];rfl) ?_ ?_)|(with_reducible (refine TVq (st:=[56,67]) ?_))|simp only [seval,go_sem,rowL,hZ]|(with_reducible refine oV_st (by simp (disch:=omega) only [seval,go_sem,cnd,intV,shV,convV,strV,rowL,hZ];rfl) ?_)))<;>(try (fail));all_goals (try clear hZ))
   all_goals (try (refine isNextM ((k+1,AR.1,ns++[AR.2.1])) (by (refine leQL_spec ?_);(try simp only [seval,go_sem,rowI]);first|((repeat' (with_reducible apply And.intro))<;>first|rfl);done) (by (refine leQH_spec ?_);(try simp only [seval,go_sem,rowI]);first|((repeat' (with_reducible apply And.intro))<;>first|(simp [rowI];done));done) ?_ ?_<;>(try (omega))))
   all_goals (try exact ⟨by simp only;omega,by simp only [List.length_append,List.length_cons,List.length_nil];omega,by simp only;omega,hf1,by simp only [List.append_assoc,List.cons_append,List.nil_append];exact hf2⟩)
  ·rw [List.drop_eq_nil_of_le (by omega),allocs] at hf1 hf2
   simp only [List.append_nil] at hf1 hf2
   rw [← hf1, ← hf2]
   have htk:(ns.map rowI).take ns.length=ns.map rowI:=List.take_of_length_le (by rw [hll];exact Nat.le_refl _)
   (refine Tri.frz 105 (by simp only [seval,go_sem];rfl) (by simp only [seval,go_sem];rfl) ?_)
   (all_goals (try have hZ:=(And.intro hll (And.intro htk hCn)));(repeat' (first|((with_reducible refine isTriD ?_);first|((with_reducible refine isCallD ?_);((with_reducible refine LVcall (st:=[56,67]) ?_);simp only [seval,go_sem,List.length_map,hZ];(refine CallL.c (hbd) ?_;simp only [seval,go_sem,List.length_map,hZ];(fail_if_success (with_reducible refine isResV ?_)))))|((with_reducible first|refine TriD.step (by simp only [seval,go_sem,List.length_map,hZ];rfl) ?_|refine TriD.step (by simp (disch:=omega) only [seval,go_sem,cnd,intV,shV,convV,strV,List.length_map,hZ];rfl) ?_);refine LVs (st:=[56,67]) ?_))|(with_reducible refine isDrawnN 18 ?_;(try (refine Tri.bx 11 (by simp only [seval,go_sem,List.length_map,hZ];rfl) (by simp only [seval,go_sem,List.length_map,hZ];done) (by simp only [seval,go_sem,List.length_map,hZ];rfl) ?_));refine Tri.mixedP 18 mix 12 rfl (.f 0 <| .f 3 <| .r 5 <| .a <| .b 1 (.a <| .b 2 (.a <| .b 4 (.a <| .b 6 (.a <| .b 7 (.a <| .b 8 (.a <| .b 9 (.f 10 <| .a <| .b 11 (.d) .e) .e) .e) .e) .e) <| .b 6 (.a <| .b 4 (.a <| .b 7 (.a <| .b 8 (.a <| .b 9 (.f 10 <| .a <| .b 11 (.d) .e) .e) .e) .e) .e) .e) <| .b 4 (.a <| .b 2 (.a <| .b 6 (.a <| .b 7 (.a <| .b 8 (.a <| .b 9 (.f 10 <| .a <| .b 11 (.d) .e) .e) .e) .e) .e) <| .b 6 (.a <| .b 2 (.a <| .b 7 (.a <| .b 8 (.a <| .b 9 (.f 10 <| .a <| .b 11 (.d) .e) .e) .e) .e) <| .b 7 (.a <| .b 2 (.a <| .b 8 (.a <| .b 9 (.f 10 <| .a <| .b 11 (.d) .e) .e) .e) <| .b 8 (.a <| .b 2 (.a <| .b 9 (.f 10 <| .a <| .b 11 (.d) .e) .e) .e) .e) .e) .e) <| .b 6 (.a <| .b 2 (.a <| .b 4 (.a <| .b 7 (.a <| .b 8 (.a <| .b 9 (.f 10 <| .a <| .b 11 (.d) .e) .e) .e) .e) .e) <| .b 4 (.a <| .b 2 (.a <| .b 7 (.a <| .b 8 (.a <| .b 9 (.f 10 <| .a <| .b 11 (.d) .e) .e) .e) .e) <| .b 7 (.a <| .b 2 (.a <| .b 8 (.a <| .b 9 (.f 10 <| .a <| .b 11 (.d) .e) .e) .e) <| .b 8 (.a <| .b 2 (.a <| .b 9 (.f 10 <| .a <| .b 11 (.d) .e) .e) .e) .e) .e) .e) .e) <| .b 4 (.a <| .b 1 (.a <| .b 2 (.a <| .b 6 (.a <| .b 7 (.a <| .b 8 (.a <| .b 9 (.f 10 <| .a <| .b 11 (.d) .e) .e) .e) .e) .e) <| .b 6 (.a <| .b 2 (.a <| .b 7 (.a <| .b 8 (.a <| .b 9 (.f 10 <| .a <| .b 11 (.d) .e) .e) .e) .e) <| .b 7 (.a <| .b 2 (.a <| .b 8 (.a <| .b 9 (.f 10 <| .a <| .b 11 (.d) .e) .e) .e) <| .b 8 (.a <| .b 2 (.a <| .b 9 (.f 10 <| .a <| .b 11 (.d) .e) .e) .e) .e) .e) .e) <| .b 6 (.a <| .b 1 (.a <| .b 2 (.a <| .b 7 (.a <| .b 8 (.a <| .b 9 (.f 10 <| .a <| .b 11 (.d) .e) .e) .e) .e) <| .b 7 (.a <| .b 2 (.a <| .b 8 (.a <| .b 9 (.f 10 <| .a <| .b 11 (.d) .e) .e) .e) <| .b 8 (.a <| .b 2 (.a <| .b 9 (.f 10 <| .a <| .b 11 (.d) .e) .e) .e) .e) .e) <| .b 7 (.a <| .b 1 (.a <| .b 2 (.a <| .b 8 (.a <| .b 9 (.f 10 <| .a <| .b 11 (.d) .e) .e) .e) <| .b 8 (.a <| .b 2 (.a <| .b 9 (.f 10 <| .a <| .b 11 (.d) .e) .e) .e) .e) <| .b 8 (.a <| .b 1 (.a <| .b 2 (.a <| .b 9 (.f 10 <| .a <| .b 11 (.d) .e) .e) .e) .e) .e) .e) .e) <| .b 6 (.a <| .b 1 (.a <| .b 2 (.a <| .b 4 (.a <| .b 7 (.a <| .b 8 (.a <| .b 9 (.f 10 <| .a <| .b 11 (.d) .e) .e) .e) .e) .e) <| .b 4 (.a <| .b 2 (.a <| .b 7 (.a <| .b 8 (.a <| .b 9 (.f 10 <| .a <| .b 11 (.d) .e) .e) .e) .e) <| .b 7 (.a <| .b 2 (.a <| .b 8 (.a <| .b 9 (.f 10 <| .a <| .b 11 (.d) .e) .e) .e) <| .b 8 (.a <| .b 2 (.a <| .b 9 (.f 10 <| .a <| .b 11 (.d) .e) .e) .e) .e) .e) .e) <| .b 4 (.a <| .b 1 (.a <| .b 2 (.a <| .b 7 (.a <| .b 8 (.a <| .b 9 (.f 10 <| .a <| .b 11 (.d) .e) .e) .e) .e) <| .b 7 (.a <| .b 2 (.a <| .b 8 (.a <| .b 9 (.f 10 <| .a <| .b 11 (.d) .e) .e) .e) <| .b 8 (.a <| .b 2 (.a <| .b 9 (.f 10 <| .a <| .b 11 (.d) .e) .e) .e) .e) .e) <| .b 7 (.a <| .b 1 (.a <| .b 2 (.a <| .b 8 (.a <| .b 9 (.f 10 <| .a <| .b 11 (.d) .e) .e) .e) <| .b 8 (.a <| .b 2 (.a <| .b 9 (.f 10 <| .a <| .b 11 (.d) .e) .e) .e) .e) <| .b 8 (.a <| .b 1 (.a <| .b 2 (.a <| .b 9 (.f 10 <| .a <| .b 11 (.d) .e) .e) .e) .e) .e) .e) .e) .e) (by kernel_rfl) ?_)|(with_reducible refine isDrawnN 20 ?_;(try (refine Tri.bx 11 (by simp only [seval,go_sem,List.length_map,hZ];rfl) (by simp only [seval,go_sem,List.length_map,hZ];fail) (by simp only [seval,go_sem,List.length_map,hZ];rfl) ?_));refine Tri.mixedP 20 mix 6 rfl (.f 1 <| .a <| .b 0 (.a <| .b 2 (.a <| .b 3 (.f 4 <| .f 5 <| .d) .e) <| .b 3 (.a <| .b 2 (.f 4 <| .f 5 <| .d) .e) .e) <| .b 2 (.a <| .b 0 (.a <| .b 3 (.f 4 <| .f 5 <| .d) .e) .e) .e) (by kernel_rfl) ?_)|(with_reducible refine isAnyP ?_;first|refine anyP_frz 114 (by simp only [seval,go_sem,List.length_map,hZ];with_reducible rfl) (by simp only [seval,go_sem,List.length_map,hZ];with_reducible rfl) ?_|refine AnyP.D ?_|refine AnyP.F (by simp only [seval,go_sem,l_7,l_6];rfl) (by first|(simp only [seval,go_sem,List.length_map,hZ];done)) (by first|(simp only [seval,go_sem,List.length_map,hZ];with_reducible rfl)) ?_|refine AnyP.R (by simp only [seval,go_sem,l_7,l_6];rfl) (by first|(refine .inl ?_;simp only [seval,go_sem,List.length_map,hZ];done)) (by first|(simp only [seval,go_sem,List.length_map,hZ];with_reducible rfl)) ?_|refine AnyP.A ?_)|(with_reducible first|exact NextsP.E|refine NextsP.B (by simp only [seval,go_sem,l_7,l_6];rfl) ?_ ?_)|(with_reducible refine isRet ?_;(refine RetOK.frz 117 (by simp only [seval,go_sem];rfl) (by simp only [seval,go_sem,List.length_map,hZ];rfl) ?_);(with_reducible refine isRet ?_;refine RetOK.q rfl (by with_unfolding_all (show retD _ _ [.cell 6 35,.tmp 7,.tmp 8]=_);simp only [seval,go_sem];rfl) (by simp only [seval,go_sem];rfl) (by decide) (by simp only [seval,go_sem];rfl) (by simp only [seval,go_sem];rfl) rfl ?_<;>(try simp only [seval,go_sem,List.length_map,hZ])<;>(repeat' (with_reducible apply And.intro))<;>(try rfl)))|(with_reducible (refine TVq (st:=[56,67]) ?_))|simp only [seval,go_sem,List.length_map,hZ]|(with_reducible refine oV_st (by simp (disch:=omega) only [seval,go_sem,cnd,intV,shV,convV,strV,List.length_map,hZ];rfl) ?_)))<;>(try (fail));all_goals (try clear hZ))
   all_goals (try (first|(simp [rowOb,rowV];done)|exact List.take_of_length_le (by simp)))
set_option maxRecDepth 100000 in set_option maxHeartbeats 12800000 in
theorem rcreate_calls {a1 a2 a3 a4 a5 a6 a7 com last cap:Int} {os:List Ob} {bs:List Bd} {ps:List Pn} {pg:List Pg} {n:ByteArray} {d:List Int} (hb:bs.length≤100000) (ho:os.length≤100000) (hg:pg.length≤10000) (hd:d.length≤1000) (h4:1≤a4) (h4':a4≤1024) (h0:0≤com) (h9:com≤1000000000) (h0':0≤last) (h9':last≤1000000000):ACalls Tryz.prog 21 [.agg [.sc (.int .i64 a1),.sc (.int .i64 a2),.sc (.int .i64 a3),.sc (.int .i64 a4),.sc (.int .i64 a5),.sc (.int .i64 a6),.sc (.int .i64 a7),.sc (.int .i64 com),.sc (.int .i64 last),.sl 2 (os.map rowOb),.sl 4 (bs.map rowBd),.sl 2 (ps.map rowP),.sc (.int .i64 cap),.sl 3 (pg.map rowPg)],.sc (.string n),.sl 1 (d.map rowW)] (.tup [.agg (dSr (createR ⟨⟨a1,a2,a3,a4,a5,a6,a7⟩,com,last,os,bs,ps,⟨cap,pg⟩⟩ n d).1),.sc (.int .i64 (createR ⟨⟨a1,a2,a3,a4,a5,a6,a7⟩,com,last,os,bs,ps,⟨cap,pg⟩⟩ n d).2.1),.sc (.int .i64 (createR ⟨⟨a1,a2,a3,a4,a5,a6,a7⟩,com,last,os,bs,ps,⟨cap,pg⟩⟩ n d).2.2)]) []:=by
 have hsc:=rsplit_calls (b:=d) (sz:=a4) (by omega) h4 h4'
 have hnc:=risname_calls (s:=n)
 have hbc:=rbound_calls (a1:=a1) (a2:=a2) (a3:=a3) (a4:=a4) (a5:=a5) (a6:=a6) (a7:=a7) (com:=com) (last:=last) (cap:=cap) (os:=os) (bs:=bs) (ps:=ps) (pg:=pg) (n:=n) hb
 have hlc:=rlist_calls (l:=bs) (c:=com) hb
 have hvc:=rlive_calls (a1:=a1) (a2:=a2) (a3:=a3) (a4:=a4) (a5:=a5) (a6:=a6) (a7:=a7) (com:=com) (last:=last) (cap:=cap) (os:=os) (bs:=bs) (ps:=ps) (pg:=pg) (show pg.length≤100000 by omega)
 have hCl:=splitR_len (d:=d) (sz:=a4)
 have hCm:=splitR_mem (d:=d) (sz:=a4)
 unfold createR boundR
 simp only
 generalize splitR d a4=SP at *
 obtain ⟨C,SE⟩:=SP
 simp only at hCl hCm hsc
 have hCC:C.length≤1000:=by omega
 have hLn:(listR com bs []).length≤1000000:=by have:=listR_len com bs [];simp only [List.length_nil] at this;omega
 generalize hLL:listR com bs []=LL at *
 have hLm:(LL.map rowN).length=LL.length:=List.length_map _
 have hCn:(C.map rowL).length=C.length:=List.length_map _
 cases c1:nameOk n with
 | false=>
   rw [if_pos rfl]
   rw [c1] at hnc
   simp only [dSr]
   refine of_tri [] [3,6,11,13,21,26,37,44,60,96,104,105,110,114,116,117,127] Tryz.func21 rfl call21 rfl (by decide) (by decide) rfl rfl Tryz.ntmps21 (by simp (disch:=omega) only [seval,go_sem,cnd,intV,shV,convV,strV,List.replicate,l_2,l_1];rfl) (by simp (disch:=omega) only [seval,go_sem,cnd,intV,shV,convV,strV,l_2,l_1];rfl) ?_
   ((repeat' (first|((with_reducible refine isTriD ?_);((with_reducible refine isCallD ?_);((with_reducible refine LVcall (st:=[56,67]) ?_);simp only [seval,go_sem];first|(refine CallL.c (hsc) ?_)|(refine CallL.c (hnc) ?_))))|(with_reducible refine isRet ?_;refine RetV (rs:=[.cell 6 35,.tmp 7,.tmp 8]) (by with_unfolding_all rfl) rfl ?_<;>simp only [seval,go_sem]<;>(repeat' (with_reducible apply And.intro))<;>(try rfl))|(with_reducible (refine TVq (st:=[56,67]) ?_))|simp only [seval,go_sem]))<;>(try (fail)))
 | true=>
   rw [if_neg (by decide)]
   rw [c1] at hnc
   rw [if_neg (show ¬ 65536<(d.length:Int) by omega)]
   cases c2:(lookB n com bs).2 with
   | true=>
     rw [if_pos rfl]
     rw [c2] at hbc
     simp only [dSr]
     refine of_tri [] [3,6,11,13,21,26,37,44,60,96,104,105,110,114,116,117,127] Tryz.func21 rfl call21 rfl (by decide) (by decide) rfl rfl Tryz.ntmps21 (by simp (disch:=omega) only [seval,go_sem,cnd,intV,shV,convV,strV,List.replicate,l_2,l_1];rfl) (by simp (disch:=omega) only [seval,go_sem,cnd,intV,shV,convV,strV,l_2,l_1];rfl) ?_
     ((repeat' (first|((with_reducible refine isTriD ?_);((with_reducible refine isCallD ?_);((with_reducible refine LVcall (st:=[56,67]) ?_);simp only [seval,go_sem];first|(refine CallL.c (hsc) ?_)|(refine CallL.c (hnc) ?_)|(refine CallL.c (hbc) ?_))))|(with_reducible refine isRet ?_;refine RetV (rs:=[.cell 6 35,.tmp 7,.tmp 8]) (by with_unfolding_all rfl) rfl ?_<;>simp only [seval,go_sem]<;>(repeat' (with_reducible apply And.intro))<;>(try rfl))|(with_reducible (refine TVq (st:=[56,67]) ?_))|simp only [seval,go_sem]|(with_reducible refine oV_st (by simp (disch:=omega) only [seval,go_sem,cnd,intV,shV,convV,strV];rfl) ?_)))<;>(try (fail)))
   | false=>
     rw [if_neg (by decide)]
     rw [c2] at hbc
     by_cases c3:a2≤(LL.length:Int)
     ·rw [if_pos (.inl c3)]
      simp only [dSr]
      refine of_tri [] [3,6,11,13,21,26,37,44,60,96,104,105,110,114,116,117,127] Tryz.func21 rfl call21 rfl (by decide) (by decide) rfl rfl Tryz.ntmps21 (by simp (disch:=omega) only [seval,go_sem,cnd,intV,shV,convV,strV,List.replicate,l_2,l_1];rfl) (by simp (disch:=omega) only [seval,go_sem,cnd,intV,shV,convV,strV,l_2,l_1];rfl) ?_
      ((repeat' (first|((with_reducible refine isTriD ?_);((with_reducible refine isCallD ?_);((with_reducible refine LVcall (st:=[56,67]) ?_);simp only [seval,go_sem,hLm];first|(refine CallL.c (hsc) ?_)|(refine CallL.c (hnc) ?_)|(refine CallL.c (hbc) ?_))))|(with_reducible refine ListD.nil ?_)|((with_reducible refine isListD ?_);first|(with_reducible refine ListD.step (by simp only [seval,go_sem,hLm];rfl) ?_)|((with_reducible refine isCallV ?_);((with_reducible (refine ListD.dE (by simp only [seval,go_sem,hLm];rfl) (by simp only [seval,go_sem,hLm];rfl) ?_));refine CallW.c (hlc) (by simp only [seval,go_sem,hLm];rfl) ?_))|(with_reducible refine ListD.step (by simp (disch:=omega) only [seval,go_sem,cnd,intV,shV,convV,strV,hLm];rfl) ?_))|(with_reducible refine isDrawn ?_;refine Tri.drawnD mix (by kernel_rfl) (by simp only [l_3,l_4];rfl) ?_)|(with_reducible refine isRet ?_;refine RetV (rs:=[.cell 6 35,.tmp 7,.tmp 8]) (by with_unfolding_all rfl) rfl ?_<;>simp only [seval,go_sem]<;>(repeat' (with_reducible apply And.intro))<;>(try rfl))|(with_reducible (refine TVq (st:=[56,67]) ?_))|simp only [seval,go_sem,hLm]|(with_reducible refine oV_st (by simp (disch:=omega) only [seval,go_sem,cnd,intV,shV,convV,strV,hLm];rfl) ?_)))<;>(try (fail)))
     ·by_cases c4:a6≤com
      ·rw [if_pos (.inr (.inl c4))]
       simp only [dSr]
       refine of_tri [] [3,6,11,13,21,26,37,44,60,96,104,105,110,114,116,117,127] Tryz.func21 rfl call21 rfl (by decide) (by decide) rfl rfl Tryz.ntmps21 (by simp (disch:=omega) only [seval,go_sem,cnd,intV,shV,convV,strV,List.replicate,l_2,l_1];rfl) (by simp (disch:=omega) only [seval,go_sem,cnd,intV,shV,convV,strV,l_2,l_1];rfl) ?_
       ((repeat' (first|((with_reducible refine isTriD ?_);((with_reducible refine isCallD ?_);((with_reducible refine LVcall (st:=[56,67]) ?_);simp only [seval,go_sem,hLm];first|(refine CallL.c (hsc) ?_)|(refine CallL.c (hnc) ?_)|(refine CallL.c (hbc) ?_))))|(with_reducible refine ListD.nil ?_)|((with_reducible refine isListD ?_);first|(with_reducible refine ListD.step (by simp only [seval,go_sem,hLm];rfl) ?_)|((with_reducible refine isCallV ?_);((with_reducible (refine ListD.dE (by simp only [seval,go_sem,hLm];rfl) (by simp only [seval,go_sem,hLm];rfl) ?_));refine CallW.c (hlc) (by simp only [seval,go_sem,hLm];rfl) ?_))|(with_reducible refine ListD.step (by simp (disch:=omega) only [seval,go_sem,cnd,intV,shV,convV,strV,hLm];rfl) ?_))|(with_reducible refine isDrawn ?_;refine Tri.drawnD mix (by kernel_rfl) (by simp only [l_3,l_4];rfl) ?_)|(with_reducible refine isRet ?_;refine RetV (rs:=[.cell 6 35,.tmp 7,.tmp 8]) (by with_unfolding_all rfl) rfl ?_<;>simp only [seval,go_sem]<;>(repeat' (with_reducible apply And.intro))<;>(try rfl))|(with_reducible (refine TVq (st:=[56,67]) ?_))|simp only [seval,go_sem,hLm]|(with_reducible refine oV_st (by simp (disch:=omega) only [seval,go_sem,cnd,intV,shV,convV,strV,hLm];rfl) ?_)))<;>(try (fail)))
      ·by_cases c5:a3<(pg.length:Int)+(C.length:Int)
       ·rw [if_pos (.inr (.inr c5))]
        simp only [dSr]
        refine of_tri [] [3,6,11,13,21,26,37,44,60,96,104,105,110,114,116,117,127] Tryz.func21 rfl call21 rfl (by decide) (by decide) rfl rfl Tryz.ntmps21 (by simp (disch:=omega) only [seval,go_sem,cnd,intV,shV,convV,strV,List.replicate,l_2,l_1];rfl) (by simp (disch:=omega) only [seval,go_sem,cnd,intV,shV,convV,strV,l_2,l_1];rfl) ?_
        (all_goals (try have hZ:=(And.intro hLm hCn));(repeat' (first|((with_reducible refine isTriD ?_);((with_reducible refine isCallD ?_);((with_reducible refine LVcall (st:=[56,67]) ?_);simp only [seval,go_sem,hZ];first|(refine CallL.c (hsc) ?_)|(refine CallL.c (hnc) ?_)|(refine CallL.c (hbc) ?_))))|(with_reducible refine ListD.nil ?_)|((with_reducible refine isListD ?_);first|(with_reducible refine ListD.step (by simp only [seval,go_sem,hZ];rfl) ?_)|((with_reducible refine isCallV ?_);((with_reducible (refine ListD.dE (by simp only [seval,go_sem,hZ];rfl) (by simp only [seval,go_sem,hZ];rfl) ?_));first|refine CallW.c (hlc) (by simp only [seval,go_sem,hZ];rfl) ?_|refine CallW.c (hvc) (by simp only [seval,go_sem,hZ];rfl) ?_))|(with_reducible refine ListD.step (by simp (disch:=omega) only [seval,go_sem,cnd,intV,shV,convV,strV,hZ];rfl) ?_))|(with_reducible refine isDrawn ?_;refine Tri.drawnD mix (by kernel_rfl) (by simp only [l_3,l_4];rfl) ?_)|(with_reducible refine isRet ?_;refine RetV (rs:=[.cell 6 35,.tmp 7,.tmp 8]) (by with_unfolding_all rfl) rfl ?_<;>simp only [seval,go_sem]<;>(repeat' (with_reducible apply And.intro))<;>(try rfl))|(with_reducible (refine TVq (st:=[56,67]) ?_))|simp only [seval,go_sem,hZ]|(with_reducible refine oV_st (by simp (disch:=omega) only [seval,go_sem,cnd,intV,shV,convV,strV,hZ];rfl) ?_)))<;>(try (fail));all_goals (try clear hZ))
       ·rw [if_neg (not_or.2 ⟨c3,not_or.2 ⟨c4,c5⟩⟩)]
        exact rcreate_go hb ho hg hd h0 h9 h0' h9' hnc hbc hvc hlc hsc hCm hCC hLn c3 c4 c5
end Go.Proofs.YtmgodadmafcliaaGreat
