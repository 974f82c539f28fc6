/- The program's store walked: New; Create and Put as one; the sanity check of the laws. -/
import Derived.Test.YteemiclhnfkekaaGreatZSrK
set_option linter.unusedSimpArgs false
set_option linter.unusedVariables false
set_option maxRecDepth 100000
set_option maxHeartbeats 12800000
namespace Go.Proofs.YteemiclhnfkekaaGreat
open Go.RowKit Go.fe Tryz
theorem Mr {a1 a2 a3 a4 a5 a6 a7:Int} (h:qN ⟨a1,a2,a3,a4,a5,a6,a7⟩=true):(1<=a3/\a3<=16384)/\(8<=a4/\a4<=1024):=by
 simp only[qN,mO,jl,pP] at h;omega
theorem yB {a1 a2 a3 a4 a5 a6 a7:Int} (h:qN ⟨a1,a2,a3,a4,a5,a6,a7⟩=true):ak prog 31 [.agg [i6 a1,i6 a2,i6 a3,i6 a4,i6 a5,i6 a6,i6 a7]] (.cT [.ref 0 0,i6 0]) (iP 1 2 3 a1 a2 a3 a4 a5 a6 a7 0 0 a3 ([]:List Ob) ([]:List Bd) ([]:List Pn) ([]:List Pg)):=by
 have hc:=I7 (a:=a1) (b:=a2) (c:=a3) (d:=a4) (e:=a5) (f:=a6) (g:=a7);rw[h] at hc;have hr:=Mr h;have hn:=EU (c:=a3) (by omega) (by omega);refine dL [] [1,8,15,22,25,515] func31 (by kernel_rfl) ntmps31 rfl rfl ⟨rfl,rfl⟩ (by simp(disch:=omega)only[seval,go_sem,cI,List.replicate,l_2,l_1];rfl) ?_
 ((repeat'(first|simp only[seval,go_sem]|((with_reducible refine bJ ?_);first|refine aq.c (hc) ?_|refine aq.n2 (hn) ?_)|((with_reducible refine au ?_);first|(with_reducible refine aD (st:=[]) ?_)|(with_reducible refine JN ?_;with_reducible refine ah.makeMap (by simp only[seval,go_sem]) (by simp only[seval,go_sem];rfl) (by simp only[seval,go_sem];rfl) (by simp only[seval,go_sem];rfl) (by simp only[seval,go_sem];rfl) (by simp only[seval,go_sem]) (by simp only[seval,go_sem];rfl) ?_;refine dI (st:=[]) ?_))|(with_reducible first|refine aV (st:=[]) ?_|refine ai (by simp(disch:=omega)only[seval,go_sem,cI];rfl) ?_))))
 all_goals(with_reducible refine aB ?_;refine GO [25,22,15,515] (rs:=[.tmp 2, .tmp 3]) (by with_unfolding_all rfl) rfl (by with_unfolding_all rfl) ?_<;>simp only[seval,go_sem,Jv,eM]<;>(repeat'(with_reducible apply And.intro))<;>(try rfl))
 all_goals done
theorem yC:ak prog 42 [] (.agg [i6 1,i6 2,i6 4,i6 8,i6 2,i6 9,i6 1]) []:=by
 refine bR [] [0] [.cell 0 25] func42 (by kernel_rfl) ntmps42 rfl rfl rfl ⟨rfl,rfl⟩ (by simp(disch:=omega)only[seval,go_sem,cI,List.replicate,l_2,l_1];rfl) ?_;((repeat'(first|simp only[seval,go_sem]|(with_reducible refine aV (st:=[]) ?_))))
def yD:List Int:=[48,49,50,51,52,53,54,55,56,57]
def tN:List Int:=[48,49,50,51,52,53,54,55]
theorem U5:dN ⟨4,[]⟩ (aR yD 8).1=(⟨4,[⟨1,1,tN⟩,⟨2,1,[56,57]⟩]⟩,[1,2]):=by kernel_rfl
theorem U6:(dw [] ⟨#[97]⟩ 1 1).1=[⟨⟨#[97]⟩,1,1,0⟩]:=by kernel_rfl
theorem U7:fq ⟨4,[⟨1,1,tN⟩,⟨2,1,[56,57]⟩]⟩ (aR yD 8).1 (bB (bh ⟨4,[⟨1,1,tN⟩,⟨2,1,[56,57]⟩]⟩ [1,2]) (aR yD 8).1) [1,2] (aR yD 8).1.length=(⟨4,[⟨1,2,tN⟩,⟨2,2,[56,57]⟩]⟩,[1,2]):=by kernel_rfl
theorem U8:dz [⟨1,[⟨1,0,10,[1,2]⟩]⟩] (cU 1 [⟨1,[⟨1,0,10,[1,2]⟩]⟩] 0) (cQ (eL [⟨1,[⟨1,0,10,[1,2]⟩]⟩] 1) ⟨2,0,10,[1,2]⟩).1=[⟨1,[⟨1,2,10,[1,2]⟩,⟨2,0,10,[1,2]⟩]⟩]:=by kernel_rfl
theorem U9:Be ⟨⟨1,2,4,8,2,9,1⟩,2,1,[⟨1,[⟨1,2,10,[1,2]⟩,⟨2,0,10,[1,2]⟩]⟩],[⟨⟨#[97]⟩,1,1,0⟩],[],⟨4,[⟨1,2,tN⟩,⟨2,2,[56,57]⟩]⟩⟩ ⟨#[97]⟩ 2=(yD,0):=by kernel_rfl
theorem Va:((strOfNums yD).toList==(⟨#[48,49,50,51,52,53,54,55,56,57]⟩:ByteArray).toList)=true:=by kernel_rfl
theorem Vb:jr 0 []=[]:=by kernel_rfl
theorem zG:ak prog 11 [] (.sc (.bool true)) []:=by
 have cn:=yB (a1:=1) (a2:=2) (a3:=4) (a4:=8) (a5:=2) (a6:=9) (a7:=1) (by decide)
 have c1:aF prog 32 (iP 1 2 3 1 2 4 8 2 9 1 0 0 4 ([]:List Ob) ([]:List Bd) ([]:List Pn) ([]:List Pg)) [.ref 0 0,.sc (.string ⟨#[97]⟩),.sl 1 [[D.sc (.int .u8 48)],[D.sc (.int .u8 49)],[D.sc (.int .u8 50)],[D.sc (.int .u8 51)],[D.sc (.int .u8 52)],[D.sc (.int .u8 53)],[D.sc (.int .u8 54)],[D.sc (.int .u8 55)],[D.sc (.int .u8 56)],[D.sc (.int .u8 57)]]] (.cT [.sc (.int .i64 1),.sc (.int .i64 0)]) (iP 1 2 3 1 2 4 8 2 9 1 1 1 4 ([(⟨1,[⟨1,0,10,[1,2]⟩]⟩:Ob)]) ([(⟨⟨#[97]⟩,1,1,0⟩:Bd)]) ([]:List Pn) ([(⟨1,1,tN⟩:Pg),⟨2,1,[56,57]⟩])):=by
  have h:=Qn (a1:=1) (a2:=2) (a3:=4) (a4:=8) (a5:=2) (a6:=9) (a7:=1) (cap:=4) (ps:=[]) (com:=0) (last:=0) (os:=[]) (bs:=[]) (pg:=[]) (n:=⟨#[97]⟩) (d:=yD) (by decide) (by decide) (by decide) (by decide) (by decide) (by decide) (by decide) (by decide) (by simp) (by kernel_rfl) (by kernel_rfl) (by rw[Vb];decide) (by decide) (by decide);rw[U5] at h;rw[show (0:Int)+1=1 from rfl,U6] at h;exact h
 have c2:aF prog 34 (iP 1 2 3 1 2 4 8 2 9 1 1 1 4 ([(⟨1,[⟨1,0,10,[1,2]⟩]⟩:Ob)]) ([(⟨⟨#[97]⟩,1,1,0⟩:Bd)]) ([]:List Pn) ([(⟨1,1,tN⟩:Pg),⟨2,1,[56,57]⟩])) [.ref 0 0,.sc (.string ⟨#[97]⟩),.sl 1 [[D.sc (.int .u8 48)],[D.sc (.int .u8 49)],[D.sc (.int .u8 50)],[D.sc (.int .u8 51)],[D.sc (.int .u8 52)],[D.sc (.int .u8 53)],[D.sc (.int .u8 54)],[D.sc (.int .u8 55)],[D.sc (.int .u8 56)],[D.sc (.int .u8 57)]]] (.cT [.sc (.int .i64 2),.sc (.int .i64 0)]) (iP 1 2 3 1 2 4 8 2 9 1 2 1 4 ([(⟨1,[⟨1,2,10,[1,2]⟩,⟨2,0,10,[1,2]⟩]⟩:Ob)]) ([(⟨⟨#[97]⟩,1,1,0⟩:Bd)]) ([]:List Pn) ([(⟨1,2,tN⟩:Pg),⟨2,2,[56,57]⟩])):=by
  have h:=Qm (a1:=1) (a2:=2) (a3:=4) (a4:=8) (a5:=2) (a6:=9) (a7:=1) (cap:=4) (ps:=[]) (com:=1) (last:=1) (os:=[⟨1,[⟨1,0,10,[1,2]⟩]⟩]) (bs:=[⟨⟨#[97]⟩,1,1,0⟩]) (pg:=[⟨1,1,tN⟩,⟨2,1,[56,57]⟩]) (n:=⟨#[97]⟩) (d:=yD) (id:=1) (f:=1) (t:=0) (s:=10) (p:=[1,2]) (by decide) (by decide) (by decide) (by decide) (by decide) (by decide) (by decide) (by decide) (by decide) (by decide) (by kernel_rfl) (by decide) (by decide) (by decide) (by decide) (by decide);rw[U7] at h;rw[show (1:Int)+1=2 from rfl] at h;simp only[show ((yD.length:Nat):Int)=10 from rfl] at h;rw[U8] at h;exact h
 have c3:aF prog 17 (iP 1 2 3 1 2 4 8 2 9 1 2 1 4 ([(⟨1,[⟨1,2,10,[1,2]⟩,⟨2,0,10,[1,2]⟩]⟩:Ob)]) ([(⟨⟨#[97]⟩,1,1,0⟩:Bd)]) ([]:List Pn) ([(⟨1,2,tN⟩:Pg),⟨2,2,[56,57]⟩])) [.ref 0 0,.sc (.string ⟨#[97]⟩),.sc (.int .i64 2)] (.cT [.sl 1 (yD.map cF),.sc (.int .i64 0)]) (iP 1 2 3 1 2 4 8 2 9 1 2 1 4 ([(⟨1,[⟨1,2,10,[1,2]⟩,⟨2,0,10,[1,2]⟩]⟩:Ob)]) ([(⟨⟨#[97]⟩,1,1,0⟩:Bd)]) ([]:List Pn) ([(⟨1,2,tN⟩:Pg),⟨2,2,[56,57]⟩])):=by
  have h:=vH (a1:=1) (a2:=2) (a3:=4) (a4:=8) (a5:=2) (a6:=9) (a7:=1) (cap:=4) (ps:=[]) (com:=2) (last:=1) (os:=[⟨1,[⟨1,2,10,[1,2]⟩,⟨2,0,10,[1,2]⟩]⟩]) (bs:=[⟨⟨#[97]⟩,1,1,0⟩]) (pg:=[⟨1,2,tN⟩,⟨2,2,[56,57]⟩]) (n:=⟨#[97]⟩) (c:=2) (by decide) (by decide) (by decide) (by decide) (by decide);rw[U9] at h;exact h
 have c4:=yV (a1:=1) (a2:=2) (a3:=4) (a4:=8) (a5:=2) (a6:=9) (a7:=1) (cap:=4) (ps:=[]) (com:=2) (last:=1) (os:=[⟨1,[⟨1,2,10,[1,2]⟩,⟨2,0,10,[1,2]⟩]⟩]) (bs:=[⟨⟨#[97]⟩,1,1,0⟩]) (pg:=[⟨1,2,tN⟩,⟨2,2,[56,57]⟩]);have c5:=kT (a1:=1) (a2:=2) (a3:=4) (a4:=8) (a5:=2) (a6:=9) (a7:=1) (cap:=4) (ps:=[]) (com:=2) (last:=1) (os:=[⟨1,[⟨1,2,10,[1,2]⟩,⟨2,0,10,[1,2]⟩]⟩]) (bs:=[⟨⟨#[97]⟩,1,1,0⟩]) (pg:=[⟨1,2,tN⟩,⟨2,2,[56,57]⟩]);have hst:=Va;generalize yD=DD at c3 hst;refine bR [] [10,11,22,24,29,31,36,59,64,311,511,711] [.tmp 0] func11 (by kernel_rfl) ntmps11 rfl rfl rfl ⟨rfl,rfl⟩ (by simp(disch:=omega)only[seval,go_sem,cI,List.replicate,l_2,l_1];rfl) ?_
 ((repeat'(first|simp only[seval,go_sem,bA,hst]|((with_reducible refine bJ ?_);first|refine aq.n4 (cn) ?_|refine aq.c (yC) ?_)|((with_reducible refine au ?_);first|(with_reducible refine Rm ?_;refine ah.Wz (by simp only[seval,go_sem,bA,hst];rfl) (by simp only[seval,go_sem,bA,hst]) (by simp only[seval,go_sem,bA,hst];rfl) underlying5 (by with_unfolding_all rfl) (by decide) (by with_unfolding_all rfl) (by with_unfolding_all rfl) (by with_unfolding_all rfl) (by with_unfolding_all rfl) (by simp only[List.length_cons,List.length_nil];omega) (by simp only[seval,go_sem,bA,hst];rfl) ?_;refine dI (st:=[22,29,43,47,51,55,60,65,70]) ?_)|((with_reducible refine cq (st:=[22,29,43,47,51,55,60,65,70]) 2 ?_);simp only[seval,go_sem,bA,hst];first|refine bZ.c (c1) ?_|refine bZ.c (c2) ?_|refine bZ.c (c3) ?_|refine bZ.c (c4) ?_|refine bZ.c (c5) ?_)|(with_reducible refine aD (st:=[22,29,43,47,51,55,60,65,70]) ?_)|((with_reducible first|refine ah.step (by simp(disch:=omega)only[seval,go_sem,cI,bA,hst];rfl) ?_);refine dI (st:=[22,29,43,47,51,55,60,65,70]) ?_)|(with_reducible refine qp ?_;with_reducible refine ah.ptrEq (by simp only[seval,go_sem,bA,hst]) (by simp only[seval,go_sem,bA,hst];rfl) (by simp only[seval,go_sem,bA,hst];rfl) (by simp only[seval,go_sem,bA,hst];rfl) (by simp only[seval,go_sem,bA,hst];rfl) ?_;refine dI (st:=[22,29,43,47,51,55,60,65,70]) ?_))|(with_reducible first|refine aV (st:=[22,29,43,47,51,55,60,65,70]) ?_|refine ai (by simp(disch:=omega)only[seval,go_sem,cI,bA,hst];rfl) ?_))))
 all_goals done
theorem Jw (l:List Int):∃ pg,pO 21 (Jx l) pg/\ak prog 8 [.sl 1 (l.map cN)] (.cT [.ref 0 0, .agg (eS (Jx l)), .sc (.bool true)]) (hO (Jx l) pg):=by
 obtain ⟨f,hf⟩:=Gv;have ha0:=L6 (l:=l) (i:=0) (by omega);have Vw:=OQ l 0 (by omega);have YE:=E4 (n:=yT l 0) Vw.1 (by omega);have hok:=OP (yT l 0);obtain ⟨e0,hI0⟩:=RE hok (by have:=Gy hok;omega);have X3:ak prog 41 [.agg (Ss (sJ (yT l 0)))] (.cT [.agg (eS (newR (sJ (yT l 0))).1), .sc (.int .i64 (newR (sJ (yT l 0))).2)]) []:=B2;have Sl:pO 1 (newR (sJ (yT l 0))).1 []:=⟨hI0,by rw[e0];exact ⟨List.Perm.nil,List.Pairwise.nil⟩⟩
 have wF:ak prog 31 [.agg (Ss (sJ (yT l 0)))] (.cT [.ref 0 0, .sc (.int .i64 0)]) (hO (newR (sJ (yT l 0))).1 []):=by
  rw[e0];exact yB hok
 generalize hR:Jx l=R;generalize hP:sy f l 20 1 (newR (sJ (yT l 0))).1 []=PG;unfold Jx at hR;rw[e0] at hR hP Sl wF X3;generalize sJ (yT l 0)=CK at *;generalize yT l 0=K0 at *;refine ⟨PG,?_,?_⟩
 ·have key:∀ (k i:Nat) (s:Sr) (pg:List Pg),i+k<=21->pO i s pg->pO 21 (yE l k i s) (sy f l k i s pg):=by
   have up:∀ (m i:Nat) (s:Sr) (pg:List Pg),pO i s pg->pO (i+m) s pg:=by
    intro m
    induction m with
    | zero=>intro i s pg h;exact h
    | succ m ih=>intro i s pg h;exact ⟨(ih i s pg h).inv.up,h.ar⟩
   intro k
   induction k with
   | zero=>
     intro i s pg hi h;have:=up (21-i) i s pg h
     rwa [show i+(21-i)=21 by omega] at this
   | succ k ih=>
     intro i s pg hi h;rw[yE,sy]
     split
     ·exact ih (i+1) _ _ (by omega) (hf i s pg _ (by omega) h).1
     ·have:=up (21-i) i s pg h
      rwa [show i+(21-i)=21 by omega] at this
  have:=key 20 1 _ _ (by omega) Sl
  rwa [hR,hP] at this
 obtain ⟨a1,a2,a3,a4,a5,a6,a7⟩:=CK;simp only[Ss,eS,hO] at YE X3 wF ⊢;simp only at hR hP Sl;refine dL [] [3,5,8,13,14,17,22,54,317,517,717] func8 (by kernel_rfl) ntmps8 rfl rfl ⟨rfl,rfl⟩ (by simp(disch:=omega)only[seval,go_sem,cI,List.replicate,l_2,l_1];rfl) ?_
 ((repeat'(first|simp only[seval,go_sem]|((with_reducible refine bJ ?_);first|refine aq.c (ha0) ?_|refine aq.c (YE) ?_|refine aq.n4 (wF) ?_|refine aq.c (X3) ?_)|((with_reducible refine au ?_);first|(with_reducible refine aD (st:=[]) ?_)|(with_reducible refine qp ?_;with_reducible refine ah.ptrEq (by simp only[seval,go_sem]) (by simp only[seval,go_sem];rfl) (by simp only[seval,go_sem];rfl) (by simp only[seval,go_sem];rfl) (by simp only[seval,go_sem];rfl) ?_;refine dI (st:=[]) ?_))|(with_reducible first|refine aV (st:=[]) ?_|refine ai (by simp(disch:=omega)only[seval,go_sem,cI];rfl) ?_))))
 all_goals(with_reducible refine ay.cX (fun (t:Nat×Sr×List Pg)=>[(0,.sl 1 (l.map cN)),(3,.ref 3 0),(6,.ref 17 0),(8,.ref 8 0),(10,i6 t.1),(1,.any),(2,.any),(4,.any),(5,.any),(7,.any),(9,.any)]++aN 11 52) (fun (t:Nat×Sr×List Pg)=>[(3,.box [i6 0,i6 0,i6 0,i6 0,i6 0,i6 0,i6 0,i6 0,i6 0,.sc (.slice none 0 0),.sc (.slice none 0 0),.sc (.slice none 0 0),i6 0,.sc (.slice none 0 0)]),(8,.box [i6 t.2.1.c.tT,i6 t.2.1.c.qq,i6 t.2.1.c.nu,i6 t.2.1.c.fD,i6 t.2.1.c.kf,i6 t.2.1.c.com,i6 t.2.1.c.tU,i6 t.2.1.commit,i6 t.2.1.last,.sl 2 (t.2.1.objs.map aK),.sl 4 (t.2.1.binds.map ag),.sl 2 (t.2.1.pins.map aW),i6 t.2.1.ar.cap,.sl 3 (t.2.1.ar.pages.map bt)]),(17,.box [i6 t.2.1.c.tT,i6 t.2.1.c.qq,i6 t.2.1.c.nu,i6 t.2.1.c.fD,i6 t.2.1.c.kf,i6 t.2.1.c.com,i6 t.2.1.c.tU,i6 t.2.1.commit,.mp 317,i6 t.2.1.last,.sl 4 (t.2.1.binds.map ag),.sl 2 (t.2.1.pins.map aW),.ref 517 0]),(317,.ext (xm (.int .i64) (fV t.2.1.objs))),(517,.box [i6 t.2.1.ar.cap,.mp 717]),(717,.ext (eN (.int .i64) (dR (c9 t.2.2)))),(5,.dead),(13,.dead),(14,.dead),(22,.dead),(54,.dead)]) (fun (t:Nat×Sr×List Pg)=>1<=t.1/\t.1<=21/\pO t.1 t.2.1 t.2.2/\yE l (21-t.1) t.1 t.2.1=R/\sy f l (21-t.1) t.1 t.2.1 t.2.2=PG) (fun (t:Nat×Sr×List Pg)=>21-t.1) ((1,⟨⟨a1,a2,a3,a4,a5,a6,a7⟩,0,0,[],[],[],⟨a3,[]⟩⟩,[])) (⟨iU _,(show (1:Nat)<=21 by decide),Sl,(by simp only[Nat.reduceSub];exact hR),(by simp only[Nat.reduceSub];exact hP)⟩) (by intro _;simp(disch:=omega)only[seval,go_sem,cI];rfl) (by simp only[seval,go_sem]) (fun t hI=>?_))
 all_goals
  obtain ⟨i,s,pg⟩:=t;obtain ⟨hi1,hi2,hsb,pI,mK⟩:=hI;simp only at hi1 hi2 hsb pI mK;by_cases hc:i<=20/\i<l.length
  ·obtain ⟨hc1,PE⟩:=hc;obtain ⟨z,hz⟩:=aZ PE;have yN:=get_map cN hz;rw[show 21-i=(21-(i+1))+1 by omega,yE,bC ⟨hc1,PE⟩,hz] at pI;rw[show 21-i=(21-(i+1))+1 by omega,sy,bC ⟨hc1,PE⟩,hz] at mK;simp only[Option.getD_some] at pI mK;obtain ⟨g1,g2⟩:=hf i s pg z (by omega) hsb;generalize dB s z=R' at *;generalize f s pg z=P' at *;clear hsb hR hP Sl hf;obtain ⟨⟨b1,b2,b3,b4,b5,b6,b7⟩,com,last,os,bs,ps,⟨cap,rp⟩⟩:=s;simp only[hO,eS] at g2
   (all_goals(try have hZ:=(And.intro yN (And.intro hc1 PE)));(repeat'(first|(with_reducible refine aY 10 ?_;(try(refine ay.bx 5 (by simp only[seval,go_sem,cN,hZ];rfl) (by simp only[seval,go_sem,cN,hZ];fail) (by simp only[seval,go_sem,cN,hZ];rfl) ?_));refine ay.bU 10 mix 12 rfl (.f 0 <| .f 2 <| .f 3 <| .f 4 <| .r 5 <| .a <| .b 1 (.a <| .b 6 (.f 7 <| .f 8 <| .f 9 <| .a <| .b 10 (.f 11 <| .d) .e) .e) .e) (by kernel_rfl) ?_)|(with_reducible refine cA ?_;first|refine aJ.D ?_|refine aJ.F (by simp only[seval,go_sem,eg,dJ];rfl) (by first|(simp only[seval,go_sem,cN,hZ])) (by first|(simp only[seval,go_sem,cN,hZ];with_reducible rfl)|(simp(disch:=omega)only[seval,go_sem,cI,cN,hZ];with_reducible rfl)) ?_|refine aJ.R (by simp only[seval,go_sem,eg,dJ];rfl) (by first|(refine .inl ?_;simp only[seval,go_sem,cN,hZ];done)) (by first|(simp only[seval,go_sem,cN,hZ];with_reducible rfl)) ?_|refine aJ.A ?_)|(with_reducible first|exact aI.E|refine aI.B (by simp only[seval,go_sem,eg,dJ];rfl) ?_ ?_)|simp only[seval,go_sem,cN,hZ]|((with_reducible refine au ?_);first|((with_reducible first|refine ah.step (by simp only[seval,go_sem,cN,hZ];rfl) ?_);refine dI (st:=[]) ?_)|((with_reducible refine cq (st:=[]) 2 ?_);simp only[seval,go_sem,cN,hZ];refine bZ.c (g2) ?_))|(with_reducible first|refine aV (st:=[]) ?_|refine ai (by simp(disch:=omega)only[seval,go_sem,cI,cN,hZ];rfl) ?_)));all_goals(try clear hZ))
   all_goals(try(refine aP ((i+1,R',P')) (by simp only[seval,go_sem];first|((repeat'(with_reducible apply And.intro))<;>first|rfl)) ?_ ?_<;>(try(omega))))
   all_goals(try exact ⟨by simp only;omega,by simp only;omega,g1,pI,mK⟩)
   all_goals done
  ·have e1:R=s:=by
    rw[<- pI];by_cases JM:i=21
    ·rw[JM];rfl
    ·rw[show 21-i=(21-(i+1))+1 by omega,yE,aE hc]
   have e2:PG=pg:=by
    rw[<- mK];by_cases JM:i=21
    ·rw[JM];rfl
    ·rw[show 21-i=(21-(i+1))+1 by omega,sy,aE hc]
   subst e1;subst e2;clear hsb hR hP Sl hf pI mK;have hsz:(prog.types[33]'(by decide)).size=14:=by kernel_rfl
   obtain ⟨⟨b1,b2,b3,b4,b5,b6,b7⟩,com,last,os,bs,ps,⟨cap,rp⟩⟩:=R;simp only;by_cases Ey:i<=20
   ·have JM:¬ i<l.length:=fun h=>hc ⟨Ey,h⟩
    ((repeat'(first|(with_reducible refine aY 13 ?_;(try(refine ay.bx 5 (by simp only[seval,go_sem,Ey,JM];rfl) (by simp only[seval,go_sem,Ey,JM];fail) (by simp only[seval,go_sem,Ey,JM];rfl) ?_));refine ay.bU 13 mix 5 rfl (.f 0 <| .f 2 <| .a <| .b 1 (.a <| .b 3 (.f 4 <| .d) .e) .e) (by kernel_rfl) ?_)|(with_reducible refine cA ?_;first|refine aJ.D ?_|refine aJ.F (by simp only[seval,go_sem,eg,dJ];rfl) (by first|(simp only[seval,go_sem,Ey,JM])) (by first|(simp only[seval,go_sem,Ey,JM];with_reducible rfl)) ?_|refine aJ.A ?_)|(with_reducible first|exact aI.E|refine aI.B (by simp only[seval,go_sem,eg,dJ];rfl) ?_ ?_)|simp only[seval,go_sem,Ey,JM]|((with_reducible refine au ?_);((with_reducible first|refine ah.step (by simp only[seval,go_sem,Ey,JM];rfl) ?_);refine dI (st:=[]) ?_))|(with_reducible first|refine aV (st:=[]) ?_|refine ai (by simp(disch:=omega)only[seval,go_sem,cI,Ey,JM];rfl) ?_))))
    all_goals(with_reducible refine aB ?_;refine GO [17,317,517,717] (rs:=[.tmp 2,.cell 3 33,.tmp 4]) (by with_unfolding_all rfl) rfl (by with_unfolding_all rfl) ?_<;>simp only[seval,go_sem,hsz,List.take_succ_cons,List.take_zero,List.take_nil]<;>(repeat'(with_reducible apply And.intro))<;>(try rfl))
    all_goals done
   ·((repeat'(first|(with_reducible refine aY 13 ?_;(try(refine ay.bx 5 (by simp only[seval,go_sem,Ey];rfl) (by simp only[seval,go_sem,Ey];fail) (by simp only[seval,go_sem,Ey];rfl) ?_));refine ay.bU 13 mix 5 rfl (.f 0 <| .f 2 <| .a <| .b 1 (.a <| .b 3 (.f 4 <| .d) .e) .e) (by kernel_rfl) ?_)|(with_reducible refine cA ?_;first|refine aJ.D ?_|refine aJ.F (by simp only[seval,go_sem,eg,dJ];rfl) (by first|(simp only[seval,go_sem,Ey])) (by first|(simp only[seval,go_sem,Ey];with_reducible rfl)) ?_|refine aJ.A ?_)|(with_reducible first|exact aI.E|refine aI.B (by simp only[seval,go_sem,eg,dJ];rfl) ?_ ?_)|simp only[seval,go_sem,Ey]|((with_reducible refine au ?_);((with_reducible first|refine ah.step (by simp only[seval,go_sem,Ey];rfl) ?_);refine dI (st:=[]) ?_))|(with_reducible first|refine aV (st:=[]) ?_|refine ai (by simp(disch:=omega)only[seval,go_sem,cI,Ey];rfl) ?_))))
    all_goals(with_reducible refine aB ?_;refine GO [17,317,517,717] (rs:=[.tmp 2,.cell 3 33,.tmp 4]) (by with_unfolding_all rfl) rfl (by with_unfolding_all rfl) ?_<;>simp only[seval,go_sem,hsz,List.take_succ_cons,List.take_zero,List.take_nil]<;>(repeat'(with_reducible apply And.intro))<;>(try rfl))
    all_goals done
end Go.Proofs.YteemiclhnfkekaaGreat
