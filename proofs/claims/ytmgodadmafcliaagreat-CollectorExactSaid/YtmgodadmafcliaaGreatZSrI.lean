/- The laws' Change and Store: the walks. -/
import Derived.Test.YtmgodadmafcliaaGreatZSrE
import Derived.Test.YtmgodadmafcliaaGreatZSrG
import Derived.Test.YtmgodadmafcliaaGreatZSrH
set_option linter.unusedSimpArgs false
set_option linter.unusedVariables false
namespace Go.Proofs.YtmgodadmafcliaaGreat
open Go.RowKit Go.Avm
set_option maxRecDepth 100000 in set_option maxHeartbeats 6400000 in
theorem rchange_calls {a1 a2 a3 a4 a5 a6 a7 com last cap:Int} {os:List Ob} {bs:List Bd} {ps:List Pn} {pg:List Pg} {i:Nat} {m:Int} (hs:SrB i ⟨⟨a1,a2,a3,a4,a5,a6,a7⟩,com,last,os,bs,ps,⟨cap,pg⟩⟩) (hi:i≤100) (h0:0≤m) (h1:m≤1000000):ACalls Tryz.prog 11 [.agg [.sc (.int .i64 a1),.sc (.int .i64 a2),.sc (.int .i64 a3),.sc (.int .i64 a4),.sc (.int .i64 a5),.sc (.int .i64 a6),.sc (.int .i64 a7),.sc (.int .i64 com),.sc (.int .i64 last),.sl 2 (os.map rowOb),.sl 4 (bs.map rowBd),.sl 2 (ps.map rowP),.sc (.int .i64 cap),.sl 3 (pg.map rowPg)],.sc (.int .i64 m)] (.agg (dSr (changeR ⟨⟨a1,a2,a3,a4,a5,a6,a7⟩,com,last,os,bs,ps,⟨cap,pg⟩⟩ m))) []:=by
 have hnk:=nameK_calls (n:=m/8)
 have hbl:bs.length≤i:=hs.hb
 have hol:os.length≤i:=hs.ho
 have hov: ∀ o∈os,o.vers.length≤i∧ ∀ v∈o.vers,v.pages.length≤61∧v.size≤61:=hs.hv
 have hpl:ps.length≤i:=hs.hp
 have hgl:pg.length≤61*i:=hs.hg
 have hgd:PgOk pg:=hs.hd
 have hcm:0≤com∧com≤i:=hs.hc
 have hla:0≤last∧last≤i:=hs.hl
 have hpz:1≤a4∧a4≤1024:=hs.hz
 have hbk:=bytesk_calls (n:=m) h0 (by omega)
 have hbo:=bytesK_ok m
 have hm8:m%8=0∨m%8=1∨m%8=2∨m%8=3∨m%8=4∨m%8=5∨m%8=6∨m%8=7:=by omega
 have r01:m%8=0∨m%8=1→changeR ⟨⟨a1,a2,a3,a4,a5,a6,a7⟩,com,last,os,bs,ps,⟨cap,pg⟩⟩ m=(createR ⟨⟨a1,a2,a3,a4,a5,a6,a7⟩,com,last,os,bs,ps,⟨cap,pg⟩⟩ (nameK (m/8)) (bytesK m)).1:=fun h=>by unfold changeR;rw [if_pos h]
 have r23:m%8=2∨m%8=3→changeR ⟨⟨a1,a2,a3,a4,a5,a6,a7⟩,com,last,os,bs,ps,⟨cap,pg⟩⟩ m=(putR ⟨⟨a1,a2,a3,a4,a5,a6,a7⟩,com,last,os,bs,ps,⟨cap,pg⟩⟩ (nameK (m/8)) (bytesK m)).1:=fun h=>by unfold changeR;rw [if_neg (by omega),if_pos h]
 have hcc:=rcreate_calls (a1:=a1) (a2:=a2) (a3:=a3) (a4:=a4) (a5:=a5) (a6:=a6) (a7:=a7) (com:=com) (last:=last) (cap:=cap) (os:=os) (bs:=bs) (ps:=ps) (pg:=pg) (n:=nameK (m/8)) (d:=bytesK m) (by omega) (by omega) (by omega) (by omega) hpz.1 hpz.2 hcm.1 (by omega) hla.1 (by omega)
 have hpc:=rput_calls (a1:=a1) (a2:=a2) (a3:=a3) (a4:=a4) (a5:=a5) (a6:=a6) (a7:=a7) (com:=com) (last:=last) (cap:=cap) (os:=os) (bs:=bs) (ps:=ps) (pg:=pg) (n:=nameK (m/8)) (d:=bytesK m) (by omega) (by omega) (by omega) (by omega) hpz.1 hpz.2 hcm.1 (by omega) (fun o h=>⟨by have:=(hov o h).1;omega,fun v hv=>by have:=((hov o h).2 v hv).1;omega⟩) (fun p h=>⟨by have:=(hgd p h).1;omega,(hgd p h).2⟩) hbo.2
 generalize bytesK m=BK at *
 rcases hm8 with h|h|h|h|h|h|h|h
 ·rw [r01 (.inl h)]
  generalize createR ⟨⟨a1,a2,a3,a4,a5,a6,a7⟩,com,last,os,bs,ps,⟨cap,pg⟩⟩ (nameK (m/8)) BK=R at *
  simp only [dSr] at hcc ⊢
  refine of_tri [] [2,4,8,18,19,30,31,40,51,52,62,84] Tryz.func11 rfl call11 rfl (by decide) (by decide) rfl rfl Tryz.ntmps11 (by simp (disch:=omega) only [seval,go_sem,cnd,intV,shV,convV,strV,List.replicate,l_2,l_1];rfl) (by simp (disch:=omega) only [seval,go_sem,cnd,intV,shV,convV,strV,l_2,l_1];rfl) ?_
  ((repeat' (first|((with_reducible refine isTriD ?_);first|((with_reducible refine isCallD ?_);((with_reducible refine LVcall (st:=[]) ?_);simp only [seval,go_sem,h];first|(refine CallL.c (hnk) ?_)|(refine CallL.c (hbk) ?_)|(refine CallL.c (hcc) ?_)))|((with_reducible first|refine TriD.step (by simp only [seval,go_sem,h];rfl) ?_);refine LVs (st:=[]) ?_))|(with_reducible refine isDrawnN 5 ?_;refine Tri.mixedP 5 mix 10 rfl (.f 1 <| .f 2 <| .a <| .b 0 (.a <| .b 3 (.a <| .b 4 (.f 5 <| .f 6 <| .f 7 <| .f 8 <| .a <| .b 9 (.d) .e) .e) .e) <| .b 3 (.a <| .b 0 (.a <| .b 4 (.f 5 <| .f 6 <| .f 7 <| .f 8 <| .a <| .b 9 (.d) .e) .e) .e) .e) (by kernel_rfl) ?_)|(with_reducible refine isAnyP ?_;first|refine AnyP.D ?_|refine AnyP.F (by simp only [seval,go_sem,l_7,l_6];rfl) (by first|(simp only [seval,go_sem,h];done)) (by first|(simp only [seval,go_sem,h];with_reducible rfl)) ?_|refine AnyP.A ?_)|(with_reducible first|exact NextsP.E|refine NextsP.B (by simp only [seval,go_sem,l_7,l_6];rfl) ?_ ?_)|(with_reducible refine isRet ?_;refine RetV (rs:=[.cell 4 35]) (by with_unfolding_all rfl) rfl ?_<;>simp only [seval,go_sem]<;>(repeat' (with_reducible apply And.intro))<;>(try rfl))|(with_reducible (refine TVq (st:=[]) ?_))|simp only [seval,go_sem,h]|(with_reducible refine oV_st (by simp (disch:=omega) only [seval,go_sem,cnd,intV,shV,convV,strV,h];rfl) ?_)))<;>(try (fail)))
 ·rw [r01 (.inr h)]
  generalize createR ⟨⟨a1,a2,a3,a4,a5,a6,a7⟩,com,last,os,bs,ps,⟨cap,pg⟩⟩ (nameK (m/8)) BK=R at *
  simp only [dSr] at hcc ⊢
  refine of_tri [] [2,4,8,18,19,30,31,40,51,52,62,84] Tryz.func11 rfl call11 rfl (by decide) (by decide) rfl rfl Tryz.ntmps11 (by simp (disch:=omega) only [seval,go_sem,cnd,intV,shV,convV,strV,List.replicate,l_2,l_1];rfl) (by simp (disch:=omega) only [seval,go_sem,cnd,intV,shV,convV,strV,l_2,l_1];rfl) ?_
  ((repeat' (first|((with_reducible refine isTriD ?_);first|((with_reducible refine isCallD ?_);((with_reducible refine LVcall (st:=[]) ?_);simp only [seval,go_sem,h];first|(refine CallL.c (hnk) ?_)|(refine CallL.c (hbk) ?_)|(refine CallL.c (hcc) ?_)))|((with_reducible first|refine TriD.step (by simp only [seval,go_sem,h];rfl) ?_);refine LVs (st:=[]) ?_))|(with_reducible refine isDrawnN 5 ?_;refine Tri.mixedP 5 mix 10 rfl (.f 1 <| .f 2 <| .a <| .b 0 (.a <| .b 3 (.a <| .b 4 (.f 5 <| .f 6 <| .f 7 <| .f 8 <| .a <| .b 9 (.d) .e) .e) .e) <| .b 3 (.a <| .b 0 (.a <| .b 4 (.f 5 <| .f 6 <| .f 7 <| .f 8 <| .a <| .b 9 (.d) .e) .e) .e) .e) (by kernel_rfl) ?_)|(with_reducible refine isAnyP ?_;first|refine AnyP.D ?_|refine AnyP.F (by simp only [seval,go_sem,l_7,l_6];rfl) (by first|(simp only [seval,go_sem,h];done)) (by first|(simp only [seval,go_sem,h];with_reducible rfl)) ?_|refine AnyP.A ?_)|(with_reducible first|exact NextsP.E|refine NextsP.B (by simp only [seval,go_sem,l_7,l_6];rfl) ?_ ?_)|(with_reducible refine isRet ?_;refine RetV (rs:=[.cell 4 35]) (by with_unfolding_all rfl) rfl ?_<;>simp only [seval,go_sem]<;>(repeat' (with_reducible apply And.intro))<;>(try rfl))|(with_reducible (refine TVq (st:=[]) ?_))|simp only [seval,go_sem,h]|(with_reducible refine oV_st (by simp (disch:=omega) only [seval,go_sem,cnd,intV,shV,convV,strV,h];rfl) ?_)))<;>(try (fail)))
 ·rw [r23 (.inl h)]
  generalize putR ⟨⟨a1,a2,a3,a4,a5,a6,a7⟩,com,last,os,bs,ps,⟨cap,pg⟩⟩ (nameK (m/8)) BK=R at *
  simp only [dSr] at hpc ⊢
  refine of_tri [] [2,4,8,18,19,30,31,40,51,52,62,84] Tryz.func11 rfl call11 rfl (by decide) (by decide) rfl rfl Tryz.ntmps11 (by simp (disch:=omega) only [seval,go_sem,cnd,intV,shV,convV,strV,List.replicate,l_2,l_1];rfl) (by simp (disch:=omega) only [seval,go_sem,cnd,intV,shV,convV,strV,l_2,l_1];rfl) ?_
  ((repeat' (first|((with_reducible refine isTriD ?_);first|((with_reducible refine isCallD ?_);((with_reducible refine LVcall (st:=[]) ?_);simp only [seval,go_sem,h];first|(refine CallL.c (hnk) ?_)|(refine CallL.c (hbk) ?_)|(refine CallL.c (hpc) ?_)))|((with_reducible first|refine TriD.step (by simp only [seval,go_sem,h];rfl) ?_);refine LVs (st:=[]) ?_))|(with_reducible refine isDrawnN 8 ?_;refine Tri.mixedP 8 mix 10 rfl (.f 1 <| .f 2 <| .a <| .b 0 (.a <| .b 3 (.a <| .b 4 (.f 5 <| .f 6 <| .f 7 <| .f 8 <| .a <| .b 9 (.d) .e) .e) .e) <| .b 3 (.a <| .b 0 (.a <| .b 4 (.f 5 <| .f 6 <| .f 7 <| .f 8 <| .a <| .b 9 (.d) .e) .e) .e) .e) (by kernel_rfl) ?_)|(with_reducible refine isAnyP ?_;first|refine AnyP.D ?_|refine AnyP.F (by simp only [seval,go_sem,l_7,l_6];rfl) (by first|(simp only [seval,go_sem,h];done)) (by first|(simp only [seval,go_sem,h];with_reducible rfl)) ?_|refine AnyP.A ?_)|(with_reducible first|exact NextsP.E|refine NextsP.B (by simp only [seval,go_sem,l_7,l_6];rfl) ?_ ?_)|(with_reducible refine isRet ?_;refine RetV (rs:=[.cell 4 35]) (by with_unfolding_all rfl) rfl ?_<;>simp only [seval,go_sem]<;>(repeat' (with_reducible apply And.intro))<;>(try rfl))|(with_reducible (refine TVq (st:=[]) ?_))|simp only [seval,go_sem,h]|(with_reducible refine oV_st (by simp (disch:=omega) only [seval,go_sem,cnd,intV,shV,convV,strV,h];rfl) ?_)))<;>(try (fail)))
 ·rw [r23 (.inr h)]
  generalize putR ⟨⟨a1,a2,a3,a4,a5,a6,a7⟩,com,last,os,bs,ps,⟨cap,pg⟩⟩ (nameK (m/8)) BK=R at *
  simp only [dSr] at hpc ⊢
  refine of_tri [] [2,4,8,18,19,30,31,40,51,52,62,84] Tryz.func11 rfl call11 rfl (by decide) (by decide) rfl rfl Tryz.ntmps11 (by simp (disch:=omega) only [seval,go_sem,cnd,intV,shV,convV,strV,List.replicate,l_2,l_1];rfl) (by simp (disch:=omega) only [seval,go_sem,cnd,intV,shV,convV,strV,l_2,l_1];rfl) ?_
  ((repeat' (first|((with_reducible refine isTriD ?_);first|((with_reducible refine isCallD ?_);((with_reducible refine LVcall (st:=[]) ?_);simp only [seval,go_sem,h];first|(refine CallL.c (hnk) ?_)|(refine CallL.c (hbk) ?_)|(refine CallL.c (hpc) ?_)))|((with_reducible first|refine TriD.step (by simp only [seval,go_sem,h];rfl) ?_);refine LVs (st:=[]) ?_))|(with_reducible refine isDrawnN 8 ?_;refine Tri.mixedP 8 mix 10 rfl (.f 1 <| .f 2 <| .a <| .b 0 (.a <| .b 3 (.a <| .b 4 (.f 5 <| .f 6 <| .f 7 <| .f 8 <| .a <| .b 9 (.d) .e) .e) .e) <| .b 3 (.a <| .b 0 (.a <| .b 4 (.f 5 <| .f 6 <| .f 7 <| .f 8 <| .a <| .b 9 (.d) .e) .e) .e) .e) (by kernel_rfl) ?_)|(with_reducible refine isAnyP ?_;first|refine AnyP.D ?_|refine AnyP.F (by simp only [seval,go_sem,l_7,l_6];rfl) (by first|(simp only [seval,go_sem,h];done)) (by first|(simp only [seval,go_sem,h];with_reducible rfl)) ?_|refine AnyP.A ?_)|(with_reducible first|exact NextsP.E|refine NextsP.B (by simp only [seval,go_sem,l_7,l_6];rfl) ?_ ?_)|(with_reducible refine isRet ?_;refine RetV (rs:=[.cell 4 35]) (by with_unfolding_all rfl) rfl ?_<;>simp only [seval,go_sem]<;>(repeat' (with_reducible apply And.intro))<;>(try rfl))|(with_reducible (refine TVq (st:=[]) ?_))|simp only [seval,go_sem,h]|(with_reducible refine oV_st (by simp (disch:=omega) only [seval,go_sem,cnd,intV,shV,convV,strV,h];rfl) ?_)))<;>(try (fail)))
 ·have e:changeR ⟨⟨a1,a2,a3,a4,a5,a6,a7⟩,com,last,os,bs,ps,⟨cap,pg⟩⟩ m=(dropR ⟨⟨a1,a2,a3,a4,a5,a6,a7⟩,com,last,os,bs,ps,⟨cap,pg⟩⟩ (nameK (m/8))).1:=by unfold changeR;rw [if_neg (by omega),if_neg (by omega),if_pos h]
  have hdc:=rdrop_calls (a1:=a1) (a2:=a2) (a3:=a3) (a4:=a4) (a5:=a5) (a6:=a6) (a7:=a7) (com:=com) (last:=last) (cap:=cap) (os:=os) (bs:=bs) (ps:=ps) (pg:=pg) (n:=nameK (m/8)) (by omega) (by omega) (fun o h=>by have:=(hov o h).1;omega) (fun o h v hv=>by have:=((hov o h).2 v hv).1;omega) hcm.1 (by omega)
  rw [e]
  generalize dropR ⟨⟨a1,a2,a3,a4,a5,a6,a7⟩,com,last,os,bs,ps,⟨cap,pg⟩⟩ (nameK (m/8))=R at *
  simp only [dSr] at hdc ⊢
  refine of_tri [] [2,4,8,18,19,30,31,40,51,52,62,84] Tryz.func11 rfl call11 rfl (by decide) (by decide) rfl rfl Tryz.ntmps11 (by simp (disch:=omega) only [seval,go_sem,cnd,intV,shV,convV,strV,List.replicate,l_2,l_1];rfl) (by simp (disch:=omega) only [seval,go_sem,cnd,intV,shV,convV,strV,l_2,l_1];rfl) ?_
  ((repeat' (first|((with_reducible refine isTriD ?_);((with_reducible refine isCallD ?_);((with_reducible refine LVcall (st:=[]) ?_);simp only [seval,go_sem,h];first|(refine CallL.c (hnk) ?_)|(refine CallL.c (hdc) ?_))))|(with_reducible refine isRet ?_;refine RetV (rs:=[.cell 4 35]) (by with_unfolding_all rfl) rfl ?_<;>simp only [seval,go_sem]<;>(repeat' (with_reducible apply And.intro))<;>(try rfl))|(with_reducible (refine TVq (st:=[]) ?_))|simp only [seval,go_sem,h]|(with_reducible refine oV_st (by simp (disch:=omega) only [seval,go_sem,cnd,intV,shV,convV,strV,h];rfl) ?_)))<;>(try (fail)))
 ·have e:changeR ⟨⟨a1,a2,a3,a4,a5,a6,a7⟩,com,last,os,bs,ps,⟨cap,pg⟩⟩ m=(renameR ⟨⟨a1,a2,a3,a4,a5,a6,a7⟩,com,last,os,bs,ps,⟨cap,pg⟩⟩ (nameK (m/8)) (nameK (m/32))).1:=by unfold changeR;rw [if_neg (by omega),if_neg (by omega),if_neg (by omega),if_pos h]
  have hnk2:=nameK_calls (n:=m/32)
  have hdc:=rren_calls (a1:=a1) (a2:=a2) (a3:=a3) (a4:=a4) (a5:=a5) (a6:=a6) (a7:=a7) (com:=com) (last:=last) (cap:=cap) (os:=os) (bs:=bs) (ps:=ps) (pg:=pg) (n:=nameK (m/8)) (m:=nameK (m/32)) (by omega) hcm.1 (by omega)
  rw [e]
  generalize renameR ⟨⟨a1,a2,a3,a4,a5,a6,a7⟩,com,last,os,bs,ps,⟨cap,pg⟩⟩ (nameK (m/8)) (nameK (m/32))=R at *
  simp only [dSr] at hdc ⊢
  refine of_tri [] [2,4,8,18,19,30,31,40,51,52,62,84] Tryz.func11 rfl call11 rfl (by decide) (by decide) rfl rfl Tryz.ntmps11 (by simp (disch:=omega) only [seval,go_sem,cnd,intV,shV,convV,strV,List.replicate,l_2,l_1];rfl) (by simp (disch:=omega) only [seval,go_sem,cnd,intV,shV,convV,strV,l_2,l_1];rfl) ?_
  ((repeat' (first|((with_reducible refine isTriD ?_);first|((with_reducible refine isCallD ?_);((with_reducible refine LVcall (st:=[]) ?_);simp only [seval,go_sem,h];first|(refine CallL.c (hnk) ?_)|(refine CallL.c (hnk2) ?_)|(refine CallL.c (hdc) ?_)))|((with_reducible first|refine TriD.step (by simp only [seval,go_sem,h];rfl) ?_);refine LVs (st:=[]) ?_))|(with_reducible refine isDrawnN 12 ?_;refine Tri.mixedP 12 mix 11 rfl (.f 1 <| .f 2 <| .f 3 <| .a <| .b 0 (.a <| .b 4 (.a <| .b 5 (.f 6 <| .f 7 <| .f 8 <| .f 9 <| .a <| .b 10 (.d) .e) .e) .e) <| .b 4 (.a <| .b 0 (.a <| .b 5 (.f 6 <| .f 7 <| .f 8 <| .f 9 <| .a <| .b 10 (.d) .e) .e) .e) .e) (by kernel_rfl) ?_)|(with_reducible refine isAnyP ?_;first|refine AnyP.D ?_|refine AnyP.F (by simp only [seval,go_sem,l_7,l_6];rfl) (by first|(simp only [seval,go_sem,h];done)) (by first|(simp only [seval,go_sem,h];with_reducible rfl)|(simp (disch:=omega) only [seval,go_sem,cnd,intV,shV,convV,strV,h];with_reducible rfl)) ?_|refine AnyP.A ?_)|(with_reducible first|exact NextsP.E|refine NextsP.B (by simp only [seval,go_sem,l_7,l_6];rfl) ?_ ?_)|(with_reducible refine isRet ?_;refine RetV (rs:=[.cell 4 35]) (by with_unfolding_all rfl) rfl ?_<;>simp only [seval,go_sem]<;>(repeat' (with_reducible apply And.intro))<;>(try rfl))|(with_reducible (refine TVq (st:=[]) ?_))|simp only [seval,go_sem,h]|(with_reducible refine oV_st (by simp (disch:=omega) only [seval,go_sem,cnd,intV,shV,convV,strV,h];rfl) ?_)))<;>(try (fail)))
 ·have e:changeR ⟨⟨a1,a2,a3,a4,a5,a6,a7⟩,com,last,os,bs,ps,⟨cap,pg⟩⟩ m=(pinR ⟨⟨a1,a2,a3,a4,a5,a6,a7⟩,com,last,os,bs,ps,⟨cap,pg⟩⟩ com).1:=by unfold changeR;rw [if_neg (by omega),if_neg (by omega),if_neg (by omega),if_neg (by omega),if_pos h]
  have hdc:=rpin_calls (a1:=a1) (a2:=a2) (a3:=a3) (a4:=a4) (a5:=a5) (a6:=a6) (a7:=a7) (com:=com) (last:=last) (cap:=cap) (os:=os) (bs:=bs) (ps:=ps) (pg:=pg) (c:=com) (by omega)
  rw [e]
  generalize pinR ⟨⟨a1,a2,a3,a4,a5,a6,a7⟩,com,last,os,bs,ps,⟨cap,pg⟩⟩ com=R at *
  simp only [dSr] at hdc ⊢
  refine of_tri [] [2,4,8,18,19,30,31,40,51,52,62,84] Tryz.func11 rfl call11 rfl (by decide) (by decide) rfl rfl Tryz.ntmps11 (by simp (disch:=omega) only [seval,go_sem,cnd,intV,shV,convV,strV,List.replicate,l_2,l_1];rfl) (by simp (disch:=omega) only [seval,go_sem,cnd,intV,shV,convV,strV,l_2,l_1];rfl) ?_
  ((repeat' (first|((with_reducible refine isTriD ?_);((with_reducible refine isCallD ?_);((with_reducible refine LVcall (st:=[]) ?_);simp only [seval,go_sem,h];first|(refine CallL.c (hnk) ?_)|(refine CallL.c (hdc) ?_))))|(with_reducible refine isRet ?_;refine RetV (rs:=[.cell 4 35]) (by with_unfolding_all rfl) rfl ?_<;>simp only [seval,go_sem]<;>(repeat' (with_reducible apply And.intro))<;>(try rfl))|(with_reducible (refine TVq (st:=[]) ?_))|simp only [seval,go_sem,h]|(with_reducible refine oV_st (by simp (disch:=omega) only [seval,go_sem,cnd,intV,shV,convV,strV,h];rfl) ?_)))<;>(try (fail)))
 ·by_cases hp0:ps.length=0
  ·have e:changeR ⟨⟨a1,a2,a3,a4,a5,a6,a7⟩,com,last,os,bs,ps,⟨cap,pg⟩⟩ m=⟨⟨a1,a2,a3,a4,a5,a6,a7⟩,com,last,os,bs,ps,⟨cap,pg⟩⟩:=by unfold changeR;rw [if_neg (by omega),if_neg (by omega),if_neg (by omega),if_neg (by omega),if_neg (by omega),if_pos hp0]
   rw [e]
   simp only [dSr]
   refine of_tri [] [2,4,8,18,19,30,31,40,51,52,62,84] Tryz.func11 rfl call11 rfl (by decide) (by decide) rfl rfl Tryz.ntmps11 (by simp (disch:=omega) only [seval,go_sem,cnd,intV,shV,convV,strV,List.replicate,l_2,l_1];rfl) (by simp (disch:=omega) only [seval,go_sem,cnd,intV,shV,convV,strV,l_2,l_1];rfl) ?_
   ((repeat' (first|((with_reducible refine isTriD ?_);((with_reducible refine isCallD ?_);((with_reducible refine LVcall (st:=[]) ?_);simp only [seval,go_sem,h];(refine CallL.c (hnk) ?_))))|(with_reducible refine isRet ?_;refine RetV (rs:=[.cell 4 35]) (by with_unfolding_all rfl) rfl ?_<;>simp only [seval,go_sem]<;>(repeat' (with_reducible apply And.intro))<;>(try rfl))|(with_reducible (refine TVq (st:=[]) ?_))|simp only [seval,go_sem,h]|(with_reducible refine oV_st (by simp (disch:=omega) only [seval,go_sem,cnd,intV,shV,convV,strV,h];rfl) ?_)))<;>(try (fail)))
  ·have hlt:m/8%(ps.length:Int)<ps.length:=Int.emod_lt_of_pos _ (by omega)
   have hge:0≤m/8%(ps.length:Int):=Int.emod_nonneg _ (by omega)
   obtain ⟨z,hz⟩: ∃ z:Nat,m/8%(ps.length:Int)=(z:Int):=⟨(m/8%(ps.length:Int)).toNat,by omega⟩
   obtain ⟨q,hq⟩:=get_lt (show z<ps.length by omega)
   have hq':=get_map rowP hq
   have e:changeR ⟨⟨a1,a2,a3,a4,a5,a6,a7⟩,com,last,os,bs,ps,⟨cap,pg⟩⟩ m=(unpinR ⟨⟨a1,a2,a3,a4,a5,a6,a7⟩,com,last,os,bs,ps,⟨cap,pg⟩⟩ q.commit).1:=by
    unfold changeR
    rw [if_neg (by omega),if_neg (by omega),if_neg (by omega),if_neg (by omega),if_neg (by omega),if_neg hp0]
    simp only [hz,Int.toNat_natCast,hq,Option.map_some,Option.getD_some]
   have hdc:=runpin_calls (a1:=a1) (a2:=a2) (a3:=a3) (a4:=a4) (a5:=a5) (a6:=a6) (a7:=a7) (com:=com) (last:=last) (cap:=cap) (os:=os) (bs:=bs) (ps:=ps) (pg:=pg) (c:=q.commit) (by omega)
   rw [e]
   generalize unpinR ⟨⟨a1,a2,a3,a4,a5,a6,a7⟩,com,last,os,bs,ps,⟨cap,pg⟩⟩ q.commit=R at *
   simp only [dSr] at hdc ⊢
   refine of_tri [] [2,4,8,18,19,30,31,40,51,52,62,84] Tryz.func11 rfl call11 rfl (by decide) (by decide) rfl rfl Tryz.ntmps11 (by simp (disch:=omega) only [seval,go_sem,cnd,intV,shV,convV,strV,List.replicate,l_2,l_1];rfl) (by simp (disch:=omega) only [seval,go_sem,cnd,intV,shV,convV,strV,l_2,l_1];rfl) ?_
   (all_goals (try have hZ:=(And.intro h (And.intro hz hq')));(repeat' (first|((with_reducible refine isTriD ?_);first|((with_reducible refine isCallD ?_);((with_reducible refine LVcall (st:=[]) ?_);simp only [seval,go_sem,rowP,hZ];first|(refine CallL.c (hnk) ?_)|(refine CallL.c (hdc) ?_)))|((with_reducible first|refine TriD.step (by simp only [seval,go_sem,rowP,hZ];rfl) ?_);refine LVs (st:=[]) ?_))|(with_reducible refine isDrawnN 17 ?_;refine Tri.mixedP 17 mix 17 rfl (.f 1 <| .f 3 <| .f 4 <| .f 5 <| .a <| .b 0 (.a <| .b 2 (.a <| .b 6 (.f 7 <| .f 8 <| .f 9 <| .f 10 <| .a <| .b 11 (.a <| .b 12 (.f 13 <| .f 14 <| .f 15 <| .a <| .b 16 (.d) .e) .e) .e) .e) <| .b 6 (.f 7 <| .f 8 <| .a <| .b 2 (.f 9 <| .f 10 <| .a <| .b 11 (.a <| .b 12 (.f 13 <| .f 14 <| .f 15 <| .a <| .b 16 (.d) .e) .e) .e) .e) .e) <| .b 2 (.a <| .b 0 (.a <| .b 6 (.f 7 <| .f 8 <| .f 9 <| .f 10 <| .a <| .b 11 (.a <| .b 12 (.f 13 <| .f 14 <| .f 15 <| .a <| .b 16 (.d) .e) .e) .e) .e) <| .b 6 (.f 7 <| .f 8 <| .f 9 <| .f 10 <| .a <| .b 0 (.a <| .b 11 (.a <| .b 12 (.f 13 <| .f 14 <| .f 15 <| .a <| .b 16 (.d) .e) .e) .e) <| .b 11 (.a <| .b 0 (.a <| .b 12 (.f 13 <| .f 14 <| .f 15 <| .a <| .b 16 (.d) .e) .e) .e) .e) .e) <| .b 6 (.f 7 <| .f 8 <| .a <| .b 0 (.a <| .b 2 (.f 9 <| .f 10 <| .a <| .b 11 (.a <| .b 12 (.f 13 <| .f 14 <| .f 15 <| .a <| .b 16 (.d) .e) .e) .e) .e) <| .b 2 (.f 9 <| .f 10 <| .a <| .b 0 (.a <| .b 11 (.a <| .b 12 (.f 13 <| .f 14 <| .f 15 <| .a <| .b 16 (.d) .e) .e) .e) <| .b 11 (.a <| .b 0 (.a <| .b 12 (.f 13 <| .f 14 <| .f 15 <| .a <| .b 16 (.d) .e) .e) .e) .e) .e) .e) (by kernel_rfl) ?_)|(with_reducible refine isAnyP ?_;first|refine AnyP.D ?_|refine AnyP.F (by simp only [seval,go_sem,l_7,l_6];rfl) (by first|(simp only [seval,go_sem,rowP,hZ];done)) (by first|(simp only [seval,go_sem,rowP,hZ];with_reducible rfl)|(simp (disch:=omega) only [seval,go_sem,cnd,intV,shV,convV,strV,rowP,hZ];with_reducible rfl)) ?_|refine AnyP.A ?_)|(with_reducible first|exact NextsP.E|refine NextsP.B (by simp only [seval,go_sem,l_7,l_6];rfl) ?_ ?_)|(with_reducible refine isRet ?_;refine RetV (rs:=[.cell 4 35]) (by with_unfolding_all rfl) rfl ?_<;>simp only [seval,go_sem]<;>(repeat' (with_reducible apply And.intro))<;>(try rfl))|(with_reducible (refine TVq (st:=[]) ?_))|simp only [seval,go_sem,rowP,hZ]|(with_reducible refine oV_st (by simp (disch:=omega) only [seval,go_sem,cnd,intV,shV,convV,strV,rowP,hZ];rfl) ?_)))<;>(try (fail));all_goals (try clear hZ))
set_option maxRecDepth 100000 in set_option maxHeartbeats 6400000 in
theorem rstore_calls {l:List Int}:ACalls Tryz.prog 5 [.sl 1 (l.map rowI)] (.agg (dSr (storeR l))) []:=by
 have ha0:=at_calls (l:=l) (i:=0) (by omega)
 have hr0:=atK_rng l 0 (by omega)
 have hcf:=cfgk_calls (n:=atK l 0) hr0.1 (by omega)
 have hnw:ACalls Tryz.prog 8 [.agg (dCf (cfgK (atK l 0)))] (.tup [.agg (dSr (newR (cfgK (atK l 0))).1), .sc (.int .i64 (newR (cfgK (atK l 0))).2)]) []:=rnew19_calls
 have hn1:=newR_ok (atK l 0)
 generalize hR:storeR l=R
 unfold storeR at hR
 generalize newR (cfgK (atK l 0))=N0 at *
 generalize cfgK (atK l 0)=CK at *
 generalize atK l 0=K0 at *
 obtain ⟨S0,E0⟩:=N0
 simp only [dCf,dSr] at hcf hnw
 simp only at hn1 hR
 simp only [dSr]
 refine of_tri [] [2,3,8,9,10,26,27] Tryz.func5 rfl call5 rfl (by decide) (by decide) rfl rfl Tryz.ntmps5 (by simp (disch:=omega) only [seval,go_sem,cnd,intV,shV,convV,strV,List.replicate,l_2,l_1];rfl) (by simp (disch:=omega) only [seval,go_sem,cnd,intV,shV,convV,strV,l_2,l_1];rfl) ?_
 ((repeat' (first|((with_reducible refine isTriD ?_);((with_reducible refine isCallD ?_);((with_reducible refine LVcall (st:=[]) ?_);simp only [seval,go_sem];first|(refine CallL.c (ha0) ?_)|(refine CallL.c (hcf) ?_)|(refine CallL.c (hnw) ?_))))|(with_reducible (refine TVq (st:=[]) ?_))|simp only [seval,go_sem]))<;>(try (fail)))
 all_goals (with_reducible refine Tri.loopU (fun (t:Nat×Sr)=>[(5,.sc (.int .i64 t.1)),(13,.any),(14,.any),(15,.any),(16,.any),(17,.any),(18,.any),(19,.any),(20,.any),(21,.any),(22,.any),(23,.any),(24,.any),(25,.any),(26,.any),(27,.any)]) (fun (t:Nat×Sr)=>[(3,.box [.sc (.int .i64 t.2.c.ses),.sc (.int .i64 t.2.c.nam),.sc (.int .i64 t.2.c.pag),.sc (.int .i64 t.2.c.psz),.sc (.int .i64 t.2.c.pin),.sc (.int .i64 t.2.c.com),.sc (.int .i64 t.2.c.chk),.sc (.int .i64 t.2.commit),.sc (.int .i64 t.2.last),.sl 2 (t.2.objs.map rowOb),.sl 4 (t.2.binds.map rowBd),.sl 2 (t.2.pins.map rowP),.sc (.int .i64 t.2.ar.cap),.sl 3 (t.2.ar.pages.map rowPg)]),(26,.dead),(27,.dead)]) (fun (t:Nat×Sr)=>1≤t.1∧t.1≤13∧SrB t.1 t.2∧storeGo l (13-t.1) t.1 t.2=R) (fun (t:Nat×Sr)=>13-t.1) ((1,S0)) (⟨Nat.le_refl _,by simp,hn1,by with_unfolding_all exact hR⟩) (by intro _;simp (disch:=omega) only [seval,go_sem,cnd,intV,shV,convV,strV];rfl) (by intro _;simp (disch:=omega) only [seval,go_sem,cnd,intV,shV,convV,strV];rfl) (by (refine leQL_spec ?_);(try simp only [seval,go_sem]);done) (by (refine leQH_spec ?_);(try simp only [seval,go_sem]);done) (fun t hI=>?_))
 all_goals
  obtain ⟨i,⟨⟨a1,a2,a3,a4,a5,a6,a7⟩,com,last,os,bs,ps,⟨cap,pg⟩⟩⟩:=t
  obtain ⟨hi1,hi2,hsb,hf⟩:=hI
  simp only at hi1 hi2 hsb hf
  by_cases hc:i≤12∧i<l.length
  ·obtain ⟨hc1,hc2⟩:=hc
   rw [show 13-i=(13-(i+1))+1 by omega,storeGo,if_pos ⟨hc1,hc2⟩] at hf
   have hai:=at_calls (l:=l) (i:=i) (by omega)
   have hri:=atK_rng l i (by omega)
   have hch:=rchange_calls (m:=atK l i) hsb (by omega) hri.1 (by omega)
   have hok:=changeR_ok (n:=atK l i) hsb
   generalize atK l i=ak at *
   generalize changeR ⟨⟨a1,a2,a3,a4,a5,a6,a7⟩,com,last,os,bs,ps,⟨cap,pg⟩⟩ ak=R' at *
   simp only [dSr] at hch
   ((repeat' (first|((with_reducible refine isTriD ?_);first|((with_reducible refine isCallD ?_);((with_reducible refine LVcall (st:=[]) ?_);simp only [seval,go_sem];first|(refine CallL.c (hai) ?_)|(refine CallL.c (hch) ?_)))|((with_reducible first|refine TriD.step (by simp only [seval,go_sem];rfl) ?_);refine LVs (st:=[]) ?_))|(with_reducible refine isDrawnN 5 ?_;refine Tri.mixedP 5 mix 6 rfl (.f 1 <| .f 2 <| .a <| .b 0 (.a <| .b 3 (.a <| .b 4 (.a <| .b 5 (.d) .e) .e) .e) <| .b 3 (.a <| .b 0 (.a <| .b 4 (.a <| .b 5 (.d) .e) .e) .e) .e) (by kernel_rfl) ?_)|(with_reducible refine isAnyP ?_;first|refine AnyP.D ?_|refine AnyP.F (by simp only [seval,go_sem,l_7,l_6];rfl) (by first|(simp only [seval,go_sem];done)) (by first|(simp only [seval,go_sem];with_reducible rfl)) ?_|refine AnyP.A ?_)|(with_reducible first|exact NextsP.E|refine NextsP.B (by simp only [seval,go_sem,l_7,l_6];rfl) ?_ ?_)|(with_reducible (refine TVq (st:=[]) ?_))|simp only [seval,go_sem]|(with_reducible refine oV_st (by simp (disch:=omega) only [seval,go_sem,cnd,intV,shV,convV,strV];rfl) ?_)))<;>(try (fail)))
   all_goals (try (refine isNextM ((i+1,R')) (by (refine leQL_spec ?_);(try simp only [seval,go_sem]);first|((repeat' (with_reducible apply And.intro))<;>first|rfl);done) (by (refine leQH_spec ?_);(try simp only [seval,go_sem]);done) ?_ ?_<;>(try (omega))))
   all_goals (try exact ⟨by simp only;omega,by simp only;omega,hok,hf⟩)
  ·have hf2:R=⟨⟨a1,a2,a3,a4,a5,a6,a7⟩,com,last,os,bs,ps,⟨cap,pg⟩⟩:=by
    rw [← hf]
    by_cases h13:i=13
    ·rw [h13];rfl
    ·rw [show 13-i=(13-(i+1))+1 by omega,storeGo,if_neg hc]
   rw [hf2]
   simp only
   by_cases hc1:i≤12
   ·have hc2: ¬ i<l.length:=fun h=>hc ⟨hc1,h⟩
    ((repeat' (first|(with_reducible refine isRet ?_;refine RetV (rs:=[.cell 2 35]) (by with_unfolding_all rfl) rfl ?_<;>simp only [seval,go_sem]<;>(repeat' (with_reducible apply And.intro))<;>(try rfl))|(with_reducible (refine TVq (st:=[]) ?_))|simp only [seval,go_sem]|(with_reducible refine oV_st (by simp (disch:=omega) only [seval,go_sem,cnd,intV,shV,convV,strV];rfl) ?_)))<;>(try (fail)))
   ·((repeat' (first|(with_reducible refine isRet ?_;refine RetV (rs:=[.cell 2 35]) (by with_unfolding_all rfl) rfl ?_<;>simp only [seval,go_sem]<;>(repeat' (with_reducible apply And.intro))<;>(try rfl))|(with_reducible (refine TVq (st:=[]) ?_))|simp only [seval,go_sem]|(with_reducible refine oV_st (by simp (disch:=omega) only [seval,go_sem,cnd,intV,shV,convV,strV];rfl) ?_)))<;>(try (fail)))
end Go.Proofs.YtmgodadmafcliaaGreat
/- The reference's store: the walk of Dump. -/
set_option linter.unusedSimpArgs false
set_option linter.unusedVariables false
namespace Go.Proofs.YtmgodadmafcliaaGreat
open Go.RowKit Go.Avm
set_option maxRecDepth 100000 in set_option maxHeartbeats 3200000 in
theorem rdump_calls {a1 a2 a3 a4 a5 a6 a7 com last cap:Int} {os:List Ob} {bs:List Bd} {ps:List Pn} {pg:List Pg}:ACalls Tryz.prog 4 [.agg [.sc (.int .i64 a1),.sc (.int .i64 a2),.sc (.int .i64 a3),.sc (.int .i64 a4),.sc (.int .i64 a5),.sc (.int .i64 a6),.sc (.int .i64 a7),.sc (.int .i64 com),.sc (.int .i64 last),.sl 2 (os.map rowOb),.sl 4 (bs.map rowBd),.sl 2 (ps.map rowP),.sc (.int .i64 cap),.sl 3 (pg.map rowPg)]] (.agg (dDm (dumpR ⟨⟨a1,a2,a3,a4,a5,a6,a7⟩,com,last,os,bs,ps,⟨cap,pg⟩⟩))) []:=by
 simp only [dDm,dumpR]
 refine of_tri [] [1,2] Tryz.func4 rfl call4 rfl (by decide) (by decide) rfl rfl Tryz.ntmps4 (by simp (disch:=omega) only [seval,go_sem,cnd,intV,shV,convV,strV,List.replicate,l_2,l_1];rfl) (by simp (disch:=omega) only [seval,go_sem,cnd,intV,shV,convV,strV,l_2,l_1];rfl) ?_
 ((repeat' (first|(with_reducible refine isRet ?_;refine RetV (rs:=[.cell 2 28]) (by with_unfolding_all rfl) rfl ?_<;>simp only [seval,go_sem]<;>(repeat' (with_reducible apply And.intro))<;>(try rfl))|(with_reducible (refine TVq (st:=[]) ?_))|simp only [seval,go_sem]))<;>(try (fail)))
end Go.Proofs.YtmgodadmafcliaaGreat
/- CollectorPins: a further pin never makes a version garbage. -/
set_option linter.unusedSimpArgs false
set_option linter.unusedVariables false
namespace Go.Proofs.YtmgodadmafcliaaGreat
open Go.RowKit Go.Avm Go.ChangeShapes Go.WideShapes Go.ChangeAt
def endE (v:Vc):List Vn→Int
 | []=>0
 | y::l=>if y.id=v.obj∧y.v.from_=v.frm then y.v.to else endE v l
theorem ents_le {i:Nat} {s:Sr} (h:SrB i s): ∀ x∈entsS s,x.v.pages.length≤61:=fun x hx=>by
 obtain ⟨o,ho,hxo⟩:=List.mem_flatMap.1 hx
 obtain ⟨v,hv,rfl⟩:=List.mem_map.1 hxo
 exact ((h.hv o ho).2 v hv).1
theorem appendV_len (l:List Ver) (v:Ver):(appendV l v).1.length≤l.length+1:=by
 unfold appendV
 split
 ·exact Nat.zero_le _
 ·split
  ·exact Nat.zero_le _
  ·split
   ·simp
   ·split
    ·exact Nat.zero_le _
    ·split
     ·simp
     ·simp
theorem closeV_len (l:List Ver) (c:Int):(closeV l c).1.length≤l.length:=by
 unfold closeV
 split
 ·exact Nat.zero_le _
 ·split
  ·exact Nat.zero_le _
  ·split
   ·exact Nat.zero_le _
   ·split
    ·exact Nat.zero_le _
    ·simp
theorem set_ents {l:List Ob} {j:Int} {v:List Ver} {k:Nat} (h:v.length≤(obGet l j).vers.length+k):((setVers l j v).flatMap vnsO).length≤(l.flatMap vnsO).length+k:=by
 unfold setVers
 cases e:l[j.toNat]? with
 | none=>
   rw [List.set_eq_of_length_le (List.getElem?_eq_none_iff.1 e)];omega
 | some o=>
   have hg:obGet l j=o:=by simp [obGet,e]
   rw [hg] at h ⊢
   obtain ⟨A,B,hl,_,hs,_⟩:=set_split e
   rw [hs]
   conv=>rhs;rw [hl]
   simp only [List.flatMap_append,List.flatMap_cons,List.length_append,vnsO,List.length_map]
   omega
theorem change_ents (s:Sr) (n:Int):(entsS (changeR s n)).length≤(entsS s).length+1:=by
 unfold entsS changeR
 repeat' split
 ·unfold createR
  repeat' split
  all_goals try (simp only;omega)
  simp [vnsO]
 ·unfold putR
  repeat' split
  all_goals try (simp only;omega)
  exact set_ents (appendV_len _ _)
 ·unfold dropR
  repeat' split
  all_goals try (simp only;omega)
  exact Nat.le_trans (set_ents (k:=0) (closeV_len _ _)) (by omega)
 ·unfold renameR
  repeat' split
  all_goals (simp only;omega)
 ·unfold pinR
  repeat' split
  all_goals (simp only;omega)
 ·omega
 ·unfold unpinR
  repeat' split
  all_goals (simp only;omega)
theorem storeGo_ents (l:List Int) (k:Nat): ∀ (i:Nat) (s:Sr),(entsS (storeGo l k i s)).length≤(entsS s).length+k:=by
 induction k with
 | zero=>intro i s;exact Nat.le_refl _
 | succ k ih=>
   intro i s
   rw [storeGo]
   split
   ·have h1:=ih (i+1) (changeR s (atK l i))
    have h2:=change_ents s (atK l i)
    omega
   ·omega
theorem store_ents (l:List Int):(entsS (storeR l)).length≤12:=by
 have h:=storeGo_ents l 12 1 (newR (cfgK (atK l 0))).1
 have e:(entsS (newR (cfgK (atK l 0))).1).length=0:=by
  unfold newR
  split<;>rfl
 unfold storeR
 omega
/-- What the walks ask of a store's dump. -/
structure StOk (s:Sr):Prop where
 si:SrI s
 sb:SrB 13 s
 ec:(s.objs.flatMap vnsO).length≤12
 ev:versR s.objs []=entsS s
theorem store_ok (l:List Int):StOk (storeR l):=⟨storeI l,storeR_ok l,store_ents l,versR_ents (storeI l)⟩
theorem StOk.pages {s:Sr} (h:StOk s): ∀ x∈versR s.objs [],x.v.pages.length≤1000:=fun x hx=>by
 rw [h.ev] at hx
 have:=ents_le h.sb x hx;omega
theorem StOk.froms {s:Sr} (h:StOk s): ∀ x∈versR s.objs [], -9223372036854775808≤x.v.from_:=fun x hx=>by
 rw [h.ev] at hx
 obtain ⟨o,ho,hxo⟩:=List.mem_flatMap.1 hx
 obtain ⟨v,hv,rfl⟩:=List.mem_map.1 hxo
 have:=((h.si.ok o ho).range v hv).1
 simp only;omega
end Go.Proofs.YtmgodadmafcliaaGreat
