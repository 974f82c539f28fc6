/- The program's store walked: Pins, Pin, Unpin, Prune, Rename, Names. -/
import Derived.Test.YteemiclhnfkekaaGreatZStB
set_option linter.unusedSimpArgs false
set_option linter.unusedVariables false
set_option maxRecDepth 100000
set_option maxHeartbeats 6400000
namespace Go.Proofs.YteemiclhnfkekaaGreat
open Go.RowKit Go.eB Go.Proofs.Tryz
theorem Ei {a1 a2 a3 a4 a5 a6 a7 com last cap:Int} {os:List Ob} {bs:List Bd} {ps:List Pn} {pg:List Pg} (hp:ps.length<=100000):aF prog 24 (iT 1 2 3 a1 a2 a3 a4 a5 a6 a7 com last cap os bs ps pg) [.ref 0 0] (i6 (iL ps 0)) (iT 1 2 3 a1 a2 a3 a4 a5 a6 a7 com last cap os bs ps pg):=by
 refine bR [1000,1001,1002,1003] [7] [.tmp 2] func24 (by kernel_rfl) ntmps24 rfl rfl rfl (by first|simp only[seval,go_sem,lH]) (by simp(disch:=omega)only[seval,go_sem,cI,List.replicate,l_2,l_1];rfl) ?_;((repeat'(first|simp only[seval,go_sem]|((with_reducible refine bJ ?_);refine aq.c (D5 ?_) ?_)|(with_reducible refine aD (st:=[]) ?_)|(with_reducible refine aV (st:=[]) ?_)))<;>(try((with_reducible assumption))))
theorem Gl {a1 a2 a3 a4 a5 a6 a7 com last cap:Int} {os:List Ob} {bs:List Bd} {ps:List Pn} {pg:List Pg} {c:Int} (hp:ps.length<=100000):aF prog 12 (iT 1 2 3 a1 a2 a3 a4 a5 a6 a7 com last cap os bs ps pg) [.ref 0 0,i6 c] (i6 (ja ⟨⟨a1,a2,a3,a4,a5,a6,a7⟩,com,last,os,bs,ps,⟨cap,pg⟩⟩ c).2) (iT 1 2 3 a1 a2 a3 a4 a5 a6 a7 com last cap os bs ((ja ⟨⟨a1,a2,a3,a4,a5,a6,a7⟩,com,last,os,bs,ps,⟨cap,pg⟩⟩ c).1.pins) pg):=by
 have vL:=sv (a1:=a1) (a2:=a2) (a3:=a3) (a4:=a4) (a5:=a5) (a6:=a6) (a7:=a7) (com:=com) (last:=last) (cap:=cap) (os:=os) (bs:=bs) (ps:=ps) (pg:=pg) (c:=c) hp;have hsp:=Ei (a1:=a1) (a2:=a2) (a3:=a3) (a4:=a4) (a5:=a5) (a6:=a6) (a7:=a7) (com:=com) (last:=last) (cap:=cap) (os:=os) (bs:=bs) (ps:=ps) (pg:=pg) hp;have had:=LB (l:=ps) (c:=c) hp;by_cases h1:eG ⟨⟨a1,a2,a3,a4,a5,a6,a7⟩,com,last,os,bs,ps,⟨cap,pg⟩⟩ c=0
 focus
  rw[h1] at vL;by_cases h2:a5<=iL ps 0
  focus
   have e:ja ⟨⟨a1,a2,a3,a4,a5,a6,a7⟩,com,last,os,bs,ps,⟨cap,pg⟩⟩ c=(⟨⟨a1,a2,a3,a4,a5,a6,a7⟩,com,last,os,bs,ps,⟨cap,pg⟩⟩,14):=by rw[ja,aE (by simp[h1]),bC h2]
   rw[e];simp only;have hZ:=h2
  rotate_left 1
  focus
   have e:ja ⟨⟨a1,a2,a3,a4,a5,a6,a7⟩,com,last,os,bs,ps,⟨cap,pg⟩⟩ c=(⟨⟨a1,a2,a3,a4,a5,a6,a7⟩,com,last,os,bs,(kJ ps c).1,⟨cap,pg⟩⟩,0):=by rw[ja,aE (by simp[h1]),aE h2]
   rw[e];simp only;generalize kJ ps c=X at *;obtain ⟨x,xe⟩:=X;simp only at had ⊢;have hZ:=h2
  rotate_left 1
 rotate_left 2
 focus
  have e:ja ⟨⟨a1,a2,a3,a4,a5,a6,a7⟩,com,last,os,bs,ps,⟨cap,pg⟩⟩ c=(⟨⟨a1,a2,a3,a4,a5,a6,a7⟩,com,last,os,bs,ps,⟨cap,pg⟩⟩,eG ⟨⟨a1,a2,a3,a4,a5,a6,a7⟩,com,last,os,bs,ps,⟨cap,pg⟩⟩ c):=by rw[ja,bC h1]
  rw[e];simp only;generalize eG ⟨⟨a1,a2,a3,a4,a5,a6,a7⟩,com,last,os,bs,ps,⟨cap,pg⟩⟩ c=E at *;have hZ:=h1
 rotate_left 1;all_goals(refine bR [1000,1001,1002,1003] [8,13,27] [.tmp 4] func12 (by kernel_rfl) ntmps12 rfl rfl rfl (by first|simp only[seval,go_sem,lH]) (by simp(disch:=omega)only[seval,go_sem,cI,List.replicate,l_2,l_1];rfl) ?_)
 all_goals((repeat'(first|(with_reducible exact jt)|(with_reducible refine aY 4 ?_;with_reducible apply ay.pR;refine ay.bU 4 mix 8 rfl (.f 0 <| .f 2 <| .f 3 <| .f 4 <| .f 5 <| .a <| .b 1 (.a <| .b 6 (.f 7 <| .d) .e) <| .b 6 (.a <| .b 1 (.f 7 <| .d) .e) .e) (by kernel_rfl) ?_)|(with_reducible refine cA ?_;first|refine aJ.D ?_|refine aJ.Fn (by simp only[seval,go_sem,eg,dJ];rfl) (by first|(simp only[seval,go_sem,hZ];with_reducible rfl)) ?_|refine aJ.F (by simp only[seval,go_sem,eg,dJ];rfl) (by first|(simp only[seval,go_sem,hZ])) (by first|(simp only[seval,go_sem,hZ];with_reducible rfl)|(simp(disch:=omega)only[seval,go_sem,cI,hZ];with_reducible rfl)) ?_|refine aJ.A ?_)|(with_reducible first|exact aI.E|refine aI.B (by simp only[seval,go_sem,eg,dJ];rfl) ?_ ?_)|simp only[seval,go_sem,hZ]|((with_reducible refine bJ ?_);refine aq.c (had) ?_)|((with_reducible refine au ?_);first|((with_reducible first|refine ah.step (by simp only[seval,go_sem,hZ];rfl) ?_);refine dI (st:=[]) ?_)|((with_reducible refine cq (st:=[]) 2 ?_);simp only[seval,go_sem,hZ];first|refine b8.c (vL) ?_|refine b8.c (hsp) ?_)|(with_reducible refine aD (st:=[]) ?_))|(with_reducible first|refine aV (st:=[]) ?_|refine ai (by simp(disch:=omega)only[seval,go_sem,cI,hZ];rfl) ?_))))
def qn (s:Sr) (c:Int):Sr×Int:=if (jh s.pins c).2≠0 then (s,(jh s.pins c).2) else ({ s with pins:=(jh s.pins c).1 },0)
theorem B8 {a1 a2 a3 a4 a5 a6 a7 com last cap:Int} {os:List Ob} {bs:List Bd} {ps:List Pn} {pg:List Pg} {c:Int} (hp:ps.length<=100000):aF prog 51 (iT 1 2 3 a1 a2 a3 a4 a5 a6 a7 com last cap os bs ps pg) [.ref 0 0,i6 c] (i6 (qn ⟨⟨a1,a2,a3,a4,a5,a6,a7⟩,com,last,os,bs,ps,⟨cap,pg⟩⟩ c).2) (iT 1 2 3 a1 a2 a3 a4 a5 a6 a7 com last cap os bs ((qn ⟨⟨a1,a2,a3,a4,a5,a6,a7⟩,com,last,os,bs,ps,⟨cap,pg⟩⟩ c).1.pins) pg):=by
 have hrm:=LC (l:=ps) (c:=c) hp;by_cases h1:(jh ps c).2=0
 focus
  have e:qn ⟨⟨a1,a2,a3,a4,a5,a6,a7⟩,com,last,os,bs,ps,⟨cap,pg⟩⟩ c=(⟨⟨a1,a2,a3,a4,a5,a6,a7⟩,com,last,os,bs,(jh ps c).1,⟨cap,pg⟩⟩,0):=by rw[qn,aE (by simp[h1])]
  rw[e];simp only;rw[h1] at hrm;generalize (jh ps c).1=X at *;have hZ:=ek 0
 rotate_left 1
 focus
  have e:qn ⟨⟨a1,a2,a3,a4,a5,a6,a7⟩,com,last,os,bs,ps,⟨cap,pg⟩⟩ c=(⟨⟨a1,a2,a3,a4,a5,a6,a7⟩,com,last,os,bs,ps,⟨cap,pg⟩⟩,(jh ps c).2):=by rw[qn,bC h1]
  rw[e];simp only;generalize jh ps c=X at *;obtain ⟨x,xe⟩:=X;simp only at hrm h1 ⊢;have hZ:=h1
 rotate_left 1;all_goals(refine bR [1000,1001,1002,1003] [13] [.tmp 4] func51 (by kernel_rfl) ntmps51 rfl rfl rfl (by first|simp only[seval,go_sem,lH]) (by simp(disch:=omega)only[seval,go_sem,cI,List.replicate,l_2,l_1];rfl) ?_)
 all_goals((repeat'(first|simp only[seval,go_sem,hZ]|((with_reducible refine bJ ?_);refine aq.c (hrm) ?_)|(with_reducible first|refine aD (st:=[]) ?_|refine aV (st:=[]) ?_|refine ai (by simp(disch:=omega)only[seval,go_sem,cI,hZ];rfl) ?_))))
theorem B9 {a1 a2 a3 a4 a5 a6 a7 com last cap:Int} {os:List Ob} {bs:List Bd} {ps:List Pn} {pg:List Pg} (hb:bs.length<=100000) (hp:ps.length<=100000):aF prog 53 (iT 1 2 3 a1 a2 a3 a4 a5 a6 a7 com last cap os bs ps pg) [.ref 0 0] (i6 ((bs.length:Int)-((ga ps bs).length:Int))) (iT 1 2 3 a1 a2 a3 a4 a5 a6 a7 com last cap os (ga ps bs) ps pg):=by
 have VK:=Ej (l:=bs) (p:=ps) hb hp;have pS:(ga ps bs).length<=bs.length:=Vk _ _;generalize ga ps bs=X at *;refine bR [1000,1001,1002,1003] [13] [.tmp 2] func53 (by kernel_rfl) ntmps53 rfl rfl rfl (by first|simp only[seval,go_sem,lH]) (by simp(disch:=omega)only[seval,go_sem,cI,List.replicate,l_2,l_1];rfl) ?_;((repeat'(first|simp only[seval,go_sem]|(with_reducible refine br ?_;refine dX mix (by kernel_rfl) ?_)|(with_reducible refine gQ ?_)|((with_reducible refine nB ?_);refine fP.c (VK) ?_)|(with_reducible first|refine aV (st:=[]) ?_|refine ai (by simp(disch:=omega)only[seval,go_sem,cI];rfl) ?_))))
theorem zE {a1 a2 a3 a4 a5 a6 a7 com last cap:Int} {os:List Ob} {bs:List Bd} {ps:List Pn} {pg:List Pg} {n m:ByteArray} (hb:bs.length<=100000) (vR:0<=com) (hrb:com<=1000000):aF prog 36 (iT 1 2 3 a1 a2 a3 a4 a5 a6 a7 com last cap os bs ps pg) [.ref 0 0,.sc (.string n),.sc (.string m)] (.cT [i6 (bY ⟨⟨a1,a2,a3,a4,a5,a6,a7⟩,com,last,os,bs,ps,⟨cap,pg⟩⟩ n m).2.1,i6 (bY ⟨⟨a1,a2,a3,a4,a5,a6,a7⟩,com,last,os,bs,ps,⟨cap,pg⟩⟩ n m).2.2]) (iT 1 2 3 a1 a2 a3 a4 a5 a6 a7 ((bY ⟨⟨a1,a2,a3,a4,a5,a6,a7⟩,com,last,os,bs,ps,⟨cap,pg⟩⟩ n m).1.commit) last cap os ((bY ⟨⟨a1,a2,a3,a4,a5,a6,a7⟩,com,last,os,bs,ps,⟨cap,pg⟩⟩ n m).1.binds) ps pg):=by
 have Rh:=iC (a1:=a1) (a2:=a2) (a3:=a3) (a4:=a4) (a5:=a5) (a6:=a6) (a7:=a7) (com:=com) (last:=last) (cap:=cap) (os:=os) (bs:=bs) (ps:=ps) (pg:=pg) (n:=n) hb;have X4:=iC (a1:=a1) (a2:=a2) (a3:=a3) (a4:=a4) (a5:=a5) (a6:=a6) (a7:=a7) (com:=com) (last:=last) (cap:=cap) (os:=os) (bs:=bs) (ps:=ps) (pg:=pg) (n:=m) hb;have ER:=B3 (l:=bs) (n:=n) (m:=m) (c:=com+1) hb;cases h1:bM m
 focus
  have e:bY ⟨⟨a1,a2,a3,a4,a5,a6,a7⟩,com,last,os,bs,ps,⟨cap,pg⟩⟩ n m=(⟨⟨a1,a2,a3,a4,a5,a6,a7⟩,com,last,os,bs,ps,⟨cap,pg⟩⟩,0,6):=by rw[bY,bC h1]
  rw[e];simp only;have hZ:=h1
 rotate_left 1
 focus
  cases h2:fM ⟨⟨a1,a2,a3,a4,a5,a6,a7⟩,com,last,os,bs,ps,⟨cap,pg⟩⟩ n
  focus
   have e:bY ⟨⟨a1,a2,a3,a4,a5,a6,a7⟩,com,last,os,bs,ps,⟨cap,pg⟩⟩ n m=(⟨⟨a1,a2,a3,a4,a5,a6,a7⟩,com,last,os,bs,ps,⟨cap,pg⟩⟩,0,8):=by rw[bY,aE (by simp[h1]),bC h2]
   rw[e];simp only;rw[h2] at Rh;have hZ:=h1
  rotate_left 1
  focus
   cases h3:fM ⟨⟨a1,a2,a3,a4,a5,a6,a7⟩,com,last,os,bs,ps,⟨cap,pg⟩⟩ m
   focus
    rw[h2] at Rh;rw[h3] at X4;by_cases h4:a6<=com
    focus
     have e:bY ⟨⟨a1,a2,a3,a4,a5,a6,a7⟩,com,last,os,bs,ps,⟨cap,pg⟩⟩ n m=(⟨⟨a1,a2,a3,a4,a5,a6,a7⟩,com,last,os,bs,ps,⟨cap,pg⟩⟩,0,14):=by rw[bY,aE (by simp[h1]),aE (by simp[h2]),aE (by simp[h3]),bC h4]
     rw[e];simp only;have hZ:=(And.intro h1 h4)
    rotate_left 1
    focus
     have e:bY ⟨⟨a1,a2,a3,a4,a5,a6,a7⟩,com,last,os,bs,ps,⟨cap,pg⟩⟩ n m=(⟨⟨a1,a2,a3,a4,a5,a6,a7⟩,com+1,last,os,(bH bs n m (com+1)).1,ps,⟨cap,pg⟩⟩,com+1,0):=by rw[bY,aE (by simp[h1]),aE (by simp[h2]),aE (by simp[h3]),aE h4]
     rw[e];simp only;generalize bH bs n m (com+1)=X at *;obtain ⟨x,xe⟩:=X;simp only at ER ⊢;have hZ:=(And.intro h1 h4)
    rotate_left 1
   rotate_left 2
   focus
    have e:bY ⟨⟨a1,a2,a3,a4,a5,a6,a7⟩,com,last,os,bs,ps,⟨cap,pg⟩⟩ n m=(⟨⟨a1,a2,a3,a4,a5,a6,a7⟩,com,last,os,bs,ps,⟨cap,pg⟩⟩,0,9):=by rw[bY,aE (by simp[h1]),aE (by simp[h2]),bC h3]
    rw[e];simp only;rw[h2] at Rh;rw[h3] at X4;have hZ:=h1
   rotate_left 1
  rotate_left 3
 rotate_left 4;all_goals(refine bR [1000,1001,1002,1003] [10,15,20,23,43] [.tmp 6,.tmp 7] func36 (by kernel_rfl) ntmps36 rfl rfl rfl (by first|simp only[seval,go_sem,lH]) (by simp(disch:=omega)only[seval,go_sem,cI,List.replicate,l_2,l_1];rfl) ?_)
 all_goals((repeat'(first|(with_reducible exact jt)|(with_reducible refine aY 10 ?_;with_reducible apply ay.pR;refine ay.bU 10 mix 18 rfl (.f 0 <| .f 1 <| .f 2 <| .f 3 <| .f 5 <| .f 6 <| .f 7 <| .f 8 <| .f 9 <| .a <| .b 4 (.a <| .b 10 (.a <| .b 11 (.f 12 <| .f 13 <| .f 14 <| .f 15 <| .f 16 <| .a <| .b 17 (.d) .e) .e) .e) <| .b 10 (.a <| .b 4 (.a <| .b 11 (.f 12 <| .f 13 <| .f 14 <| .f 15 <| .f 16 <| .a <| .b 17 (.d) .e) .e) .e) .e) (by kernel_rfl) ?_)|(with_reducible refine cA ?_;first|refine aJ.D ?_|refine aJ.Fn (by simp only[seval,go_sem,eg,dJ];rfl) (by first|(simp only[seval,go_sem,hZ];with_reducible rfl)) ?_|refine aJ.F (by simp only[seval,go_sem,eg,dJ];rfl) (by first|(simp only[seval,go_sem,hZ])) (by first|(simp only[seval,go_sem,hZ];with_reducible rfl)) ?_|refine aJ.A ?_)|(with_reducible first|exact aI.E|refine aI.B (by simp only[seval,go_sem,eg,dJ];rfl) ?_ ?_)|simp only[seval,go_sem,hZ]|((with_reducible refine bJ ?_);first|refine aq.c (ER) ?_|refine aq.c (cY) ?_)|((with_reducible refine au ?_);first|((with_reducible first|refine ah.step (by simp only[seval,go_sem,hZ];rfl) ?_);refine dI (st:=[]) ?_)|((with_reducible refine cq (st:=[]) 2 ?_);simp only[seval,go_sem,hZ];first|refine b8.c (Rh) ?_|refine b8.c (X4) ?_|refine b8.c (gH) ?_)|(with_reducible refine aD (st:=[]) ?_))|(with_reducible first|refine aV (st:=[]) ?_|refine ai (by simp(disch:=omega)only[seval,go_sem,cI,hZ];rfl) ?_))))
def n9 (s:Sr) (c:Int):List ByteArray×Int:=if eG s c≠0 then ([],eG s c) else (jr c s.binds,0)
theorem Ca {a1 a2 a3 a4 a5 a6 a7 com last cap:Int} {os:List Ob} {bs:List Bd} {ps:List Pn} {pg:List Pg} {c:Int} (hb:bs.length<=100000) (hp:ps.length<=100000):aF prog 15 (iT 1 2 3 a1 a2 a3 a4 a5 a6 a7 com last cap os bs ps pg) [.ref 0 0,i6 c] (.cT [.sl 1 ((n9 ⟨⟨a1,a2,a3,a4,a5,a6,a7⟩,com,last,os,bs,ps,⟨cap,pg⟩⟩ c).1.map eE),i6 (n9 ⟨⟨a1,a2,a3,a4,a5,a6,a7⟩,com,last,os,bs,ps,⟨cap,pg⟩⟩ c).2]) (iT 1 2 3 a1 a2 a3 a4 a5 a6 a7 com last cap os bs ps pg):=by
 have vL:=sv (a1:=a1) (a2:=a2) (a3:=a3) (a4:=a4) (a5:=a5) (a6:=a6) (a7:=a7) (com:=com) (last:=last) (cap:=cap) (os:=os) (bs:=bs) (ps:=ps) (pg:=pg) (c:=c) hp;have vM:=mF (l:=bs) (c:=c) hb;by_cases h1:eG ⟨⟨a1,a2,a3,a4,a5,a6,a7⟩,com,last,os,bs,ps,⟨cap,pg⟩⟩ c=0
 focus
  have e:n9 ⟨⟨a1,a2,a3,a4,a5,a6,a7⟩,com,last,os,bs,ps,⟨cap,pg⟩⟩ c=(jr c bs,0):=by rw[n9,aE (by simp[h1])]
  rw[e];simp only;rw[h1] at vL;generalize jr c bs=X at *;have hZ:=ek 0
 rotate_left 1
 focus
  have e:n9 ⟨⟨a1,a2,a3,a4,a5,a6,a7⟩,com,last,os,bs,ps,⟨cap,pg⟩⟩ c=([],eG ⟨⟨a1,a2,a3,a4,a5,a6,a7⟩,com,last,os,bs,ps,⟨cap,pg⟩⟩ c):=by rw[n9,bC h1]
  rw[e];simp only[eN];generalize eG ⟨⟨a1,a2,a3,a4,a5,a6,a7⟩,com,last,os,bs,ps,⟨cap,pg⟩⟩ c=E at *;have hZ:=h1
 rotate_left 1;all_goals(refine bR [1000,1001,1002,1003] [9,18] [.tmp 4,.tmp 5] func15 (by kernel_rfl) ntmps15 rfl rfl rfl (by first|simp only[seval,go_sem,lH]) (by simp(disch:=omega)only[seval,go_sem,cI,List.replicate,l_2,l_1];rfl) ?_)
 all_goals((repeat'(first|simp only[seval,go_sem,hZ]|((with_reducible refine bJ ?_);refine aq.c (vM) ?_)|((with_reducible refine au ?_);first|((with_reducible refine cq (st:=[]) 2 ?_);simp only[seval,go_sem,hZ];refine b8.c (vL) ?_)|(with_reducible refine aD (st:=[]) ?_))|(with_reducible first|refine aV (st:=[]) ?_|refine ai (by simp(disch:=omega)only[seval,go_sem,cI,hZ];rfl) ?_))))
end Go.Proofs.YteemiclhnfkekaaGreat
