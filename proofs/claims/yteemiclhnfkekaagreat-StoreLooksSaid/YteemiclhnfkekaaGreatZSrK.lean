/- The reference's store: the walk of Remove. -/
import Derived.Test.YteemiclhnfkekaaGreatZStU
import Derived.Test.YteemiclhnfkekaaGreatZStUd
import Derived.Test.YteemiclhnfkekaaGreatZStUe
set_option linter.unusedSimpArgs false
set_option linter.unusedVariables false
set_option maxRecDepth 100000
set_option maxHeartbeats 12800000
namespace Go.Proofs.YteemiclhnfkekaaGreat
open Go.RowKit Go.fe
theorem Ev (a:Ar) (n:Int):(b8 a n).1.pages.length<=a.pages.length:=by
 unfold b8
 split
 ·exact iU _
 ·split
  ·simp[gl]
  ·simp only[ic,bW,cw,bQ];omega
theorem Jl {a A:Ar} {l:List Int} {k:Nat} {z:Int} (hz:l[k]? = some z) (h:pN a (l.drop k)=A):pN (b8 a z).1 (l.drop (k+1))=A:=by
 rw[aH hz,pN] at h;exact h
theorem v8 {a1 a2 a3 a4 a5 a6 a7 com last cap:Int} {os:List Ob} {bs:List Bd} {ps:List Pn} {pg:List Pg} {id eo:Int} (ho:os.length<=100000) (hv:∀ o∈os,o.bu.length<=100000) (hp:∀ o∈os,∀ v∈o.bu,v.pages.length<=100000) (pZ:ps.length<=100000) (hg:pg.length<=100000):ak Tryz.prog 57 [.agg [i6 a1,i6 a2,i6 a3,i6 a4,i6 a5,i6 a6,i6 a7,i6 com,i6 last,.sl 2 (os.map aK),.sl 4 (bs.map ag),.sl 2 (ps.map aW),i6 cap,.sl 3 (pg.map bt)],i6 id,i6 eo] (.cT [.agg (eS (dA ⟨⟨a1,a2,a3,a4,a5,a6,a7⟩,com,last,os,bs,ps,⟨cap,pg⟩⟩ id eo).1),i6 (dA ⟨⟨a1,a2,a3,a4,a5,a6,a7⟩,com,last,os,bs,ps,⟨cap,pg⟩⟩ id eo).2]) []:=by
 have Eh:=yg (l:=os) (n:=id) ho;unfold dA;simp only;rcases vA id os with h|⟨j,o,q1,q2,q3,q4⟩
 ·rw[h] at Eh ⊢;rw[bC (by decide)];simp only[eS];refine dL [] [3,6,10,16,28,46,64,71,91] Tryz.func57 (by kernel_rfl) Tryz.ntmps57 rfl rfl ⟨rfl,rfl⟩ (by simp(disch:=omega)only[seval,go_sem,cI,List.replicate,l_2,l_1];rfl) ?_
  ((repeat'(first|simp only[seval,go_sem]|((with_reducible refine bJ ?_);refine aq.c (Eh) ?_)|(with_reducible refine aD (st:=[]) ?_)|(with_reducible refine aB ?_;refine fl (rs:=[.cell 6 33,.tmp 7]) (by with_unfolding_all rfl) rfl ?_<;>simp only[seval,go_sem]<;>(repeat'(with_reducible apply And.intro))<;>(try rfl))|(with_reducible first|refine aV (st:=[]) ?_|refine ai (by simp(disch:=omega)only[seval,go_sem,cI];rfl) ?_))))
 ·rw[q3] at Eh ⊢;rw[aE (by omega)];rw[q3] at q4;rw[q4];have hm:=fS q1;have hrc:=Cy (vs:=o.bu) (c:=eo) (hv o hm);have jd:=get_map aK q1
  have Qj:(aS o.bu eo).2.1.pages.length<=100000:=by
   unfold aS
   split
   ·simp[zeroV]
   ·simp only;cases e:o.bu[(lu eo o.bu 0).toNat]? with
    | none=>simp[zeroV]
    | some v=>exact hp o hm v (fS e)
  have Z9:=fun v=>sw (v:=v) q1;generalize aS o.bu eo=RV at *;obtain ⟨V,⟨vf,vt,vs,vp⟩,re⟩:=RV;simp only[aL] at hrc Qj ⊢;by_cases c1:re=0
  ·subst c1;rw[aE (by simp)];have lF:=kR (f:=vf) (t:=vt) pZ;by_cases c2:vt=0\/dY vf vt ps=true
   ·rw[bC c2];simp only[eS];by_cases c3:vt=0
    ·subst c3;refine dL [] [3,6,10,16,28,46,64,71,91] Tryz.func57 (by kernel_rfl) Tryz.ntmps57 rfl rfl ⟨rfl,rfl⟩ (by simp(disch:=omega)only[seval,go_sem,cI,List.replicate,l_2,l_1];rfl) ?_
     ((repeat'(first|simp only[seval,go_sem,jd,aK]|((with_reducible refine bJ ?_);first|refine aq.c (Eh) ?_|refine aq.c (hrc) ?_)|(with_reducible refine aD (st:=[]) ?_)|(with_reducible refine aB ?_;refine fl (rs:=[.cell 6 33,.tmp 7]) (by with_unfolding_all rfl) rfl ?_<;>simp only[seval,go_sem]<;>(repeat'(with_reducible apply And.intro))<;>(try rfl))|(with_reducible first|refine aV (st:=[]) ?_|refine ai (by simp(disch:=omega)only[seval,go_sem,cI,jd,aK];rfl) ?_))))
    ·have c4:dY vf vt ps=true:=by rcases c2 with h|h
                                  ·exact absurd h c3
                                  ·exact h
     rw[c4] at lF;refine dL [] [3,6,10,16,28,46,64,71,91] Tryz.func57 (by kernel_rfl) Tryz.ntmps57 rfl rfl ⟨rfl,rfl⟩ (by simp(disch:=omega)only[seval,go_sem,cI,List.replicate,l_2,l_1];rfl) ?_
     ((repeat'(first|simp only[seval,go_sem,jd,aK]|((with_reducible refine bJ ?_);first|refine aq.c (Eh) ?_|refine aq.c (hrc) ?_|refine aq.c (lF) ?_)|(with_reducible refine aD (st:=[]) ?_)|(with_reducible refine aB ?_;refine fl (rs:=[.cell 6 33,.tmp 7]) (by with_unfolding_all rfl) rfl ?_<;>simp only[seval,go_sem]<;>(repeat'(with_reducible apply And.intro))<;>(try rfl))|(with_reducible first|refine aV (st:=[]) ?_|refine ai (by simp(disch:=omega)only[seval,go_sem,cI,jd,aK];rfl) ?_))))
   ·rw[aE c2];simp only[vM,Bool.not_eq_true] at c2;obtain ⟨c3,c4⟩:=c2;rw[c4] at lF;generalize hA:pN ⟨cap,pg⟩ vp=A;simp only[eS];refine dL [] [3,6,10,16,28,46,64,71,91] Tryz.func57 (by kernel_rfl) Tryz.ntmps57 rfl rfl ⟨rfl,rfl⟩ (by simp(disch:=omega)only[seval,go_sem,cI,List.replicate,l_2,l_1];rfl) ?_;((repeat'(first|simp only[seval,go_sem,jd,aK]|((with_reducible refine bJ ?_);first|refine aq.c (Eh) ?_|refine aq.c (hrc) ?_|refine aq.c (lF) ?_)|(with_reducible first|refine aD (st:=[]) ?_|refine aV (st:=[]) ?_|refine ai (by simp(disch:=omega)only[seval,go_sem,cI,jd,aK];rfl) ?_))));all_goals(refine ay.bx 10 (by simp only[seval,go_sem];rfl) (by simp only[seval,go_sem];first|done|rfl) (by simp only[seval,go_sem];rfl) ?_)
    all_goals(with_reducible refine ay.cX (fun (t:Nat×Ar)=>[(12,i6 t.1)]++aN 49 20) (fun (t:Nat×Ar)=>[(3,.box [i6 a1,i6 a2,i6 a3,i6 a4,i6 a5,i6 a6,i6 a7,i6 com,i6 last,.sl 2 (os.map aK),.sl 4 (bs.map ag),.sl 2 (ps.map aW),i6 t.2.cap,.sl 3 (t.2.pages.map bt)]),(64,.dead)]) (fun (t:Nat×Ar)=>t.1<=vp.length/\t.2.pages.length<=100000/\pN t.2 (vp.drop t.1)=A) (fun (t:Nat×Ar)=>vp.length-t.1) ((0,⟨cap,pg⟩)) (⟨ek _,hg,by simpa using hA⟩) (by intro _;simp(disch:=omega)only[seval,go_sem,cI];rfl) (by simp only[seval,go_sem]) (fun t hI=>?_))
    all_goals
     obtain ⟨k,⟨nr,YD⟩⟩:=t;obtain ⟨hk,U2,hf⟩:=hI;simp only at hk U2 hf;by_cases hlt:k<vp.length
     ·obtain ⟨z,hz⟩:=aZ hlt;have yN:=get_map cN hz;have mK:=Jl hz hf;have iY:=Gj (c:=nr) (n:=z) U2;have j8:=Ev ⟨nr,YD⟩ z;generalize b8 ⟨nr,YD⟩ z=RR at *;obtain ⟨⟨zm,pg3⟩,rb,re⟩:=RR;simp only at iY mK j8
      ((repeat'(first|(with_reducible refine aY 12 ?_;(try(refine ay.bx 10 (by simp only[seval,go_sem,yN,cN];rfl) (by simp only[seval,go_sem,yN,cN];fail) (by simp only[seval,go_sem,yN,cN];rfl) ?_));refine ay.bU 12 mix 14 rfl (.f 0 <| .f 2 <| .f 4 <| .r 3 <| .f 5 <| .r 6 <| .a <| .b 1 (.a <| .b 7 (.f 8 <| .f 9 <| .f 10 <| .f 11 <| .f 12 <| .a <| .b 13 (.d) .e) .e) .e) (by kernel_rfl) ?_)|(with_reducible refine cA ?_;first|refine aJ.D ?_|refine aJ.F (by simp only[seval,go_sem,eg,dJ];rfl) (by first|(simp only[seval,go_sem,yN,cN])) (by first|(simp only[seval,go_sem,yN,cN];with_reducible rfl)|(simp(disch:=omega)only[seval,go_sem,cI,yN,cN];with_reducible rfl)) ?_|refine aJ.R (by simp only[seval,go_sem,eg,dJ];rfl) (by first|(refine .inl ?_;simp only[seval,go_sem,yN,cN];done)) (by first|(simp only[seval,go_sem,yN,cN];with_reducible rfl)) ?_|refine aJ.A ?_)|(with_reducible first|exact aI.E|refine aI.B (by simp only[seval,go_sem,eg,dJ];rfl) ?_ ?_)|simp only[seval,go_sem,yN,cN]|((with_reducible refine bJ ?_);refine aq.c (iY) ?_)|((with_reducible refine au ?_);first|(with_reducible refine aD (st:=[]) ?_)|((with_reducible first|refine ah.step (by simp only[seval,go_sem,yN,cN];rfl) ?_);refine dI (st:=[]) ?_))|(with_reducible first|refine aV (st:=[]) ?_|refine ai (by simp(disch:=omega)only[seval,go_sem,cI,yN,cN];rfl) ?_))))
      all_goals(try(refine aP ((k+1,⟨zm,pg3⟩)) (by simp only[seval,go_sem];first|((repeat'(with_reducible apply And.intro))<;>first|rfl)) ?_ ?_<;>(try(omega))))
      all_goals(try exact ⟨by simp only;omega,by simp only;omega,mK⟩)
     ·rw[j9 (by omega),pN] at hf;subst hf;have hls:((os.map aK).set j [.sc (.int .i64 o.id), .sl 4 (V.map aL)]).length=os.length:=by simp
      by_cases hz:V.length=0
      ·rw[bC hz]
       have ht1:List.take (os.length-(j+1)) (List.drop (j+1) ((os.map aK).set j [.sc (.int .i64 o.id), .sl 4 (V.map aL)]))=(os.drop (j+1)).map aK:=by
        rw[List.drop_set_of_lt (by omega), <- RY];exact lz (by simp)
       have ht2:List.take j ((os.map aK).set j [.sc (.int .i64 o.id), .sl 4 (V.map aL)])=(os.take j).map aK:=by
        rw[List.take_set_of_le (by omega),Qy]
       have j8:((os.drop (j+1)).map aK).length=os.length-(j+1):=by simp
       have fm:∀ X,List.take (j+(os.length-(j+1))) ((os.take j).map aK++(os.drop (j+1)).map aK++X)=(ic os (j:Int)).map aK:=fun X=>by
        rw[SG (by simp;omega),lz (by simp;omega),ic,Int.toNat_natCast,vO]
       have hle:∀ X,j+(os.length-(j+1))<=((os.take j).map aK++(os.drop (j+1)).map aK++X).length:=fun X=>by
        rw[bW,bW,dD,dD,cw,bQ];omega
       (all_goals(try have hZ:=(And.intro hz (And.intro ht1 (And.intro ht2 (And.intro j8 (And.intro fm hle))))));(repeat'(first|(with_reducible refine aY 16 ?_;(try(refine ay.bx 10 (by simp only[seval,go_sem,jd,aK,hZ];rfl) (by simp only[seval,go_sem,jd,aK,hZ];fail) (by simp only[seval,go_sem,jd,aK,hZ];rfl) ?_));refine ay.bU 16 mix 12 rfl (.f 0 <| .f 2 <| .f 4 <| .f 6 <| .f 7 <| .a <| .b 1 (.f 3 <| .a <| .b 5 (.f 8 <| .a <| .b 9 (.f 10 <| .a <| .b 11 (.d) .e) .e) .e) <| .b 5 (.f 8 <| .a <| .b 1 (.f 3 <| .a <| .b 9 (.f 10 <| .a <| .b 11 (.d) .e) .e) .e) .e) (by kernel_rfl) ?_)|(with_reducible refine cA ?_;first|refine aJ.D ?_|refine aJ.F (by simp only[seval,go_sem,eg,dJ];rfl) (by first|(simp only[seval,go_sem,jd,aK,hZ])) (by first|(simp only[seval,go_sem,jd,aK,hZ];with_reducible rfl)|(simp(disch:=omega)only[seval,go_sem,cI,jd,aK,hZ];with_reducible rfl)) ?_|refine aJ.A ?_)|(with_reducible first|exact aI.E|refine aI.B (by simp only[seval,go_sem,eg,dJ];rfl) ?_ ?_)|simp only[seval,go_sem,jd,aK,hZ]|((with_reducible refine au ?_);first|((with_reducible first|refine ah.step (by simp only[seval,go_sem,jd,aK,hZ];rfl) ?_);refine dI (st:=[]) ?_)|(with_reducible refine nM ?_;with_reducible refine ah.uw (by simp only[seval,go_sem,jd,aK,hZ]) (by simp only[seval,go_sem,jd,aK,hZ];rfl) (by simp only[seval,go_sem,jd,aK,hZ];rfl) (by simp only[seval,go_sem,jd,aK,hZ];rfl) rfl (by decide) (by decide) (by decide) (by simp only[seval,go_sem,jd,aK,hZ];rfl) (by simp only[seval,go_sem,jd,aK,hZ];rfl) (by simp(disch:=omega)only[seval,go_sem,cI,jd,aK,hZ];rfl) (by (try simp only[aj,dD,bW,List.length_cons,List.length_nil,cw,bQ,dx,splice,Nat.reduceMul]);omega) (by (try simp only[aj,dD,bW,List.length_cons,List.length_nil,cw,bQ,dx,splice,Nat.reduceMul]);omega) ?_;refine dI (st:=[]) ?_))|(with_reducible refine aB ?_;(refine aC.gu 71 (by simp only[seval,go_sem];rfl) (by simp only[seval,go_sem,jd,aK,hZ];rfl) ?_);(with_reducible refine aB ?_;refine aC.q rfl (by with_unfolding_all (show iq _ _ [.cell 6 33,.tmp 7]=_);simp only[seval,go_sem];rfl) (by simp only[seval,go_sem];rfl) (by decide) (by simp only[seval,go_sem];rfl) (by simp only[seval,go_sem];rfl) rfl ?_<;>(try simp only[seval,go_sem,jd,aK,hZ])<;>(repeat'(with_reducible apply And.intro))<;>(try rfl)))|(with_reducible first|refine aV (st:=[]) ?_|refine ai (by simp(disch:=omega)only[seval,go_sem,cI,jd,aK,hZ];rfl) ?_))))
      ·rw[aE hz,Z9]
       ((repeat'(first|simp only[seval,go_sem,jd,aK]|(with_reducible refine aB ?_;(refine aC.gu 71 (by simp only[seval,go_sem];rfl) (by simp only[seval,go_sem,jd,aK];rfl) ?_);(with_reducible refine aB ?_;refine aC.q rfl (by with_unfolding_all (show iq _ _ [.cell 6 33,.tmp 7]=_);simp only[seval,go_sem];rfl) (by simp only[seval,go_sem];rfl) (by decide) (by simp only[seval,go_sem];rfl) (by simp only[seval,go_sem];rfl) rfl ?_<;>(try simp only[seval,go_sem,jd,aK])<;>(repeat'(with_reducible apply And.intro))<;>(try rfl)))|(with_reducible first|refine aV (st:=[]) ?_|refine ai (by simp(disch:=omega)only[seval,go_sem,cI,jd,aK];rfl) ?_))))
       all_goals(try(first|(simp[aK,qO];done)|exact lz (by simp)))
  ·rw[bC c1];simp only[eS];refine dL [] [3,6,10,16,28,46,64,71,91] Tryz.func57 (by kernel_rfl) Tryz.ntmps57 rfl rfl ⟨rfl,rfl⟩ (by simp(disch:=omega)only[seval,go_sem,cI,List.replicate,l_2,l_1];rfl) ?_
   ((repeat'(first|simp only[seval,go_sem,jd,aK]|((with_reducible refine bJ ?_);first|refine aq.c (Eh) ?_|refine aq.c (hrc) ?_)|(with_reducible refine aD (st:=[]) ?_)|(with_reducible refine aB ?_;refine fl (rs:=[.cell 6 33,.tmp 7]) (by with_unfolding_all rfl) rfl ?_<;>simp only[seval,go_sem]<;>(repeat'(with_reducible apply And.intro))<;>(try rfl))|(with_reducible first|refine aV (st:=[]) ?_|refine ai (by simp(disch:=omega)only[seval,go_sem,cI,jd,aK];rfl) ?_))))
def aad (l:List Pg) (bn:List Nat) (b:Nat):Int:=((l[bn.idxOf b]?).map (·.num)).getD 0
end Go.Proofs.YteemiclhnfkekaaGreat
namespace Go.Proofs.YteemiclhnfkekaaGreat
open Go.RowKit Go.fe Go.ChangeShapes Go.WideShapes Go.ChangeAt
end Go.Proofs.YteemiclhnfkekaaGreat
set_option maxHeartbeats 6400000
namespace Go.Proofs.YteemiclhnfkekaaGreat
open Go.RowKit Go.fe
theorem yp {a1 a2 a3 a4 a5 a6 a7 com last cap:Int} {os:List Ob} {bs:List Bd} {ps:List Pn} {pg:List Pg} (hb:bs.length<=100000) (hp:ps.length<=100000):ak Tryz.prog 54 [.agg [i6 a1,i6 a2,i6 a3,i6 a4,i6 a5,i6 a6,i6 a7,i6 com,i6 last,.sl 2 (os.map aK),.sl 4 (bs.map ag),.sl 2 (ps.map aW),i6 cap,.sl 3 (pg.map bt)]] (.cT [.agg (eS (kL ⟨⟨a1,a2,a3,a4,a5,a6,a7⟩,com,last,os,bs,ps,⟨cap,pg⟩⟩).1),i6 (kL ⟨⟨a1,a2,a3,a4,a5,a6,a7⟩,com,last,os,bs,ps,⟨cap,pg⟩⟩).2]) []:=by
 have XY:=BV (l:=bs) (p:=ps) hb hp;have pZ:(gi ps bs).length<=bs.length:=Vp _ _;simp only[kL,eS];generalize gi ps bs=X at *;refine bR [] [1,2,10] [.cell 2 33, .tmp 3] Tryz.func54 (by kernel_rfl) Tryz.ntmps54 rfl rfl rfl ⟨rfl,rfl⟩ (by simp(disch:=omega)only[seval,go_sem,cI,List.replicate,l_2,l_1];rfl) ?_;((repeat'(first|simp only[seval,go_sem]|((with_reducible refine bJ ?_);refine aq.c (XY) ?_)|(with_reducible first|refine aD (st:=[]) ?_|refine aV (st:=[]) ?_|refine ai (by simp(disch:=omega)only[seval,go_sem,cI];rfl) ?_))))
def j0 (s:Sr) (c:Int):List ByteArray×Int:=if eF s c≠0 then ([],eF s c) else (i7 c s.binds [],0)
theorem B6 {a1 a2 a3 a4 a5 a6 a7 com last cap:Int} {os:List Ob} {bs:List Bd} {ps:List Pn} {pg:List Pg} {c:Int} (hb:bs.length<=100000) (hp:ps.length<=100000):ak Tryz.prog 16 [.agg [i6 a1,i6 a2,i6 a3,i6 a4,i6 a5,i6 a6,i6 a7,i6 com,i6 last,.sl 2 (os.map aK),.sl 4 (bs.map ag),.sl 2 (ps.map aW),i6 cap,.sl 3 (pg.map bt)],i6 c] (.cT [.sl 1 ((j0 ⟨⟨a1,a2,a3,a4,a5,a6,a7⟩,com,last,os,bs,ps,⟨cap,pg⟩⟩ c).1.map eE),i6 (j0 ⟨⟨a1,a2,a3,a4,a5,a6,a7⟩,com,last,os,bs,ps,⟨cap,pg⟩⟩ c).2]) []:=by
 have wh:=oK (a1:=a1) (a2:=a2) (a3:=a3) (a4:=a4) (a5:=a5) (a6:=a6) (a7:=a7) (com:=com) (last:=last) (cap:=cap) (os:=os) (bs:=bs) (ps:=ps) (pg:=pg) (c:=c) hp;have vT:=vB (l:=bs) (c:=c) hb;by_cases h1:eF ⟨⟨a1,a2,a3,a4,a5,a6,a7⟩,com,last,os,bs,ps,⟨cap,pg⟩⟩ c=0
 focus
  have e:j0 ⟨⟨a1,a2,a3,a4,a5,a6,a7⟩,com,last,os,bs,ps,⟨cap,pg⟩⟩ c=(i7 c bs [],0):=by rw[j0,aE (by simp[h1])]
  rw[e];simp only;rw[h1] at wh;generalize i7 c bs []=X at *;have hZ:=ek 0
 rotate_left 1
 focus
  have e:j0 ⟨⟨a1,a2,a3,a4,a5,a6,a7⟩,com,last,os,bs,ps,⟨cap,pg⟩⟩ c=([],eF ⟨⟨a1,a2,a3,a4,a5,a6,a7⟩,com,last,os,bs,ps,⟨cap,pg⟩⟩ c):=by rw[j0,bC h1]
  rw[e];simp only[eM];generalize eF ⟨⟨a1,a2,a3,a4,a5,a6,a7⟩,com,last,os,bs,ps,⟨cap,pg⟩⟩ c=E at *;have hZ:=h1
 rotate_left 1;all_goals(refine bR [] [2,9,16] [.tmp 4, .tmp 5] Tryz.func16 (by kernel_rfl) Tryz.ntmps16 rfl rfl rfl ⟨rfl,rfl⟩ (by simp(disch:=omega)only[seval,go_sem,cI,List.replicate,l_2,l_1];rfl) ?_)
 all_goals((repeat'(first|simp only[seval,go_sem,hZ]|((with_reducible refine bJ ?_);first|refine aq.c (wh) ?_|refine aq.c (vT) ?_)|(with_reducible first|refine aD (st:=[]) ?_|refine aV (st:=[]) ?_|refine ai (by simp(disch:=omega)only[seval,go_sem,cI,hZ];rfl) ?_))))
def dy (s:Sr) (n:ByteArray) (c:Int):Int×Int×Int:=if eF s c≠0 then (0,0,eF s c) else if (fR s n c).2.2=false then (0,0,8) else ((dm s.objs (fR s n c).1).id,(fR s n c).2.1.from_,0)
theorem yq {a1 a2 a3 a4 a5 a6 a7 com last cap:Int} {os:List Ob} {bs:List Bd} {ps:List Pn} {pg:List Pg} {n:ByteArray} {c:Int} (hb:bs.length<=100000) (ho:os.length<=100000) (hv:∀ o∈os,o.bu.length<=100000) (hp:ps.length<=100000):ak Tryz.prog 20 [.agg [i6 a1,i6 a2,i6 a3,i6 a4,i6 a5,i6 a6,i6 a7,i6 com,i6 last,.sl 2 (os.map aK),.sl 4 (bs.map ag),.sl 2 (ps.map aW),i6 cap,.sl 3 (pg.map bt)],.sc (.string n),i6 c] (.cT [i6 (dy ⟨⟨a1,a2,a3,a4,a5,a6,a7⟩,com,last,os,bs,ps,⟨cap,pg⟩⟩ n c).1,i6 (dy ⟨⟨a1,a2,a3,a4,a5,a6,a7⟩,com,last,os,bs,ps,⟨cap,pg⟩⟩ n c).2.1,i6 (dy ⟨⟨a1,a2,a3,a4,a5,a6,a7⟩,com,last,os,bs,ps,⟨cap,pg⟩⟩ n c).2.2]) []:=by
 have wh:=oK (a1:=a1) (a2:=a2) (a3:=a3) (a4:=a4) (a5:=a5) (a6:=a6) (a7:=a7) (com:=com) (last:=last) (cap:=cap) (os:=os) (bs:=bs) (ps:=ps) (pg:=pg) (c:=c) hp;have HI:=oM (a1:=a1) (a2:=a2) (a3:=a3) (a4:=a4) (a5:=a5) (a6:=a6) (a7:=a7) (com:=com) (last:=last) (cap:=cap) (os:=os) (bs:=bs) (ps:=ps) (pg:=pg) (n:=n) (c:=c) hb ho hv;by_cases h1:eF ⟨⟨a1,a2,a3,a4,a5,a6,a7⟩,com,last,os,bs,ps,⟨cap,pg⟩⟩ c=0
 ·rw[h1] at wh;rcases gN ⟨⟨a1,a2,a3,a4,a5,a6,a7⟩,com,last,os,bs,ps,⟨cap,pg⟩⟩ n c with ⟨e,_⟩|⟨j,k,o,v,_,q1,q2,q3,q4,q5,q6,e⟩
  ·have e2:dy ⟨⟨a1,a2,a3,a4,a5,a6,a7⟩,com,last,os,bs,ps,⟨cap,pg⟩⟩ n c=(0,0,8):=by rw[dy,aE (by simp[h1]),e,bC rfl]
   rw[e2];rw[e] at HI;simp only[aL,zeroV,eM] at HI ⊢;refine dL [] [3,11,15,23] Tryz.func20 (by kernel_rfl) Tryz.ntmps20 rfl rfl ⟨rfl,rfl⟩ (by simp(disch:=omega)only[seval,go_sem,cI,List.replicate,l_2,l_1];rfl) ?_
   ((repeat'(first|simp only[seval,go_sem]|((with_reducible refine bJ ?_);first|refine aq.c (wh) ?_|refine aq.c (HI) ?_)|(with_reducible refine aD (st:=[]) ?_)|(with_reducible refine aB ?_;refine fl (rs:=[.tmp 6,.tmp 7,.tmp 8]) (by with_unfolding_all rfl) rfl ?_<;>simp only[seval,go_sem]<;>(repeat'(with_reducible apply And.intro))<;>(try rfl))|(with_reducible first|refine aV (st:=[]) ?_|refine ai (by simp(disch:=omega)only[seval,go_sem,cI];rfl) ?_))))
  ·have e2:dy ⟨⟨a1,a2,a3,a4,a5,a6,a7⟩,com,last,os,bs,ps,⟨cap,pg⟩⟩ n c=(o.id,v.from_,0):=by
    rw[dy,aE (by simp[h1]),e,aE (by simp)];simp only at q1;simp only[dm,Int.toNat_natCast,q1,Option.getD_some]
   have jd:=get_map aK q1;rw[e2];rw[e] at HI;simp only[aL] at HI ⊢;refine dL [] [3,11,15,23] Tryz.func20 (by kernel_rfl) Tryz.ntmps20 rfl rfl ⟨rfl,rfl⟩ (by simp(disch:=omega)only[seval,go_sem,cI,List.replicate,l_2,l_1];rfl) ?_
   ((repeat'(first|simp only[seval,go_sem,jd,aK]|((with_reducible refine bJ ?_);first|refine aq.c (wh) ?_|refine aq.c (HI) ?_)|(with_reducible refine aD (st:=[]) ?_)|(with_reducible refine br ?_;refine dX mix (by kernel_rfl) ?_)|(with_reducible refine aB ?_;refine fl (rs:=[.tmp 6,.tmp 7,.tmp 8]) (by with_unfolding_all rfl) rfl ?_<;>simp only[seval,go_sem]<;>(repeat'(with_reducible apply And.intro))<;>(try rfl))|(with_reducible first|refine aV (st:=[]) ?_|refine dO (by simp(disch:=omega)only[seval,go_sem,cI,jd,aK];rfl) ?_|refine ai (by simp(disch:=omega)only[seval,go_sem,cI,jd,aK];rfl) ?_))))
 ·have e2:dy ⟨⟨a1,a2,a3,a4,a5,a6,a7⟩,com,last,os,bs,ps,⟨cap,pg⟩⟩ n c=(0,0,eF ⟨⟨a1,a2,a3,a4,a5,a6,a7⟩,com,last,os,bs,ps,⟨cap,pg⟩⟩ c):=by rw[dy,bC h1]
  rw[e2];simp only;generalize eF ⟨⟨a1,a2,a3,a4,a5,a6,a7⟩,com,last,os,bs,ps,⟨cap,pg⟩⟩ c=E at *;refine dL [] [3,11,15,23] Tryz.func20 (by kernel_rfl) Tryz.ntmps20 rfl rfl ⟨rfl,rfl⟩ (by simp(disch:=omega)only[seval,go_sem,cI,List.replicate,l_2,l_1];rfl) ?_
  ((repeat'(first|simp only[seval,go_sem,h1]|((with_reducible refine bJ ?_);refine aq.c (wh) ?_)|(with_reducible refine aD (st:=[]) ?_)|(with_reducible refine aB ?_;refine fl (rs:=[.tmp 6,.tmp 7,.tmp 8]) (by with_unfolding_all rfl) rfl ?_<;>simp only[seval,go_sem]<;>(repeat'(with_reducible apply And.intro))<;>(try rfl))|(with_reducible first|refine aV (st:=[]) ?_|refine ai (by simp(disch:=omega)only[seval,go_sem,cI,h1];rfl) ?_))))
theorem Ew {l:List (List Int)} (hl:l.length<=1000) (hx:∀ x∈l,x.length<=2000):ak Tryz.prog 63 [.sl 1 (l.map bP)] (.sl 1 ((rD l).map cF)) []:=by
 have hfl:∀ i,((l.take i).flatten).length<=2000*i:=by
  intro i
  induction i with
  | zero=>simp
  | succ i ih=>
    by_cases hi:i<l.length
    ·obtain ⟨x,Jm⟩:=aZ hi;have:=hx x (fS Jm);rw[H7,Jm];simp only[Option.toList_some,Pq,bW,List.flatten_cons,List.flatten_nil,yP];omega
    ·rw[lz (by omega)] at ih ⊢;omega
 refine dL [] [16,60] Tryz.func63 (by kernel_rfl) Tryz.ntmps63 rfl rfl ⟨rfl,rfl⟩ (by simp(disch:=omega)only[seval,go_sem,cI,List.replicate,l_2,l_1];rfl) ?_;((repeat'(first|simp only[seval,go_sem]|(with_reducible refine aV (st:=[]) ?_))));all_goals(refine ay.fT 3 60 1 (by first|(simp only[seval,go_sem])) (by first|(simp only[seval,go_sem])) (by simp only[seval,go_sem];rfl) ?_)
 all_goals(with_reducible refine ay.cX (fun (i:Nat)=>[(4,i6 i),(3,.cW 60 1 0 ((l.take i).flatten).length)]++aN 5 12) (fun (i:Nat)=>[(60,.row 1 (((l.take i).flatten).map cF)),(16,.dead)]) (fun (i:Nat)=>i<=l.length) (fun (i:Nat)=>l.length-i) (0) (ek _) (by intro _;simp(disch:=omega)only[seval,go_sem,cI];rfl) (by simp only[seval,go_sem]) (fun i hI=>?_))
 all_goals
  have nY:=hfl i;by_cases hlt:i<l.length
  ·obtain ⟨x,Jm⟩:=aZ hlt;have hx':=get_map bP Jm;have pQ:=hx x (fS Jm);have fm:(l.take (i+1)).flatten=(l.take i).flatten++x:=by rw[H7,Jm];simp
   have dM:(((l.take i).flatten).map cF).length=((l.take i).flatten).length:=dD _;generalize (l.take i).flatten=F at *;((repeat'(first|simp only[seval,go_sem,bP,hx',dM]|(with_reducible first|refine aV (st:=[]) ?_|refine ai (by simp(disch:=omega)only[seval,go_sem,cI,bP,hx',dM];rfl) ?_))));all_goals(try((refine kN (i+1) (cZ.xg 16 60 (by decide) (by first|(simp only[seval,go_sem])) (by simp only[seval,go_sem];rfl) (cZ.Bm (by simp only[seval,go_sem,fm,vO,bW];first|((repeat'(with_reducible apply And.intro))<;>first|rfl)))) ?_ ?_)<;>(try(omega))))
   all_goals done
  ·have e:l.take i=l:=lz (by omega);rw[e] at nY ⊢;have fm:((l.flatten).map cF).take l.flatten.length=(l.flatten).map cF:=lz (by rw[dD];exact iU _);have dM:((l.flatten).map cF).length=l.flatten.length:=dD _;unfold rD;generalize l.flatten=F at *
   ((repeat'(first|simp only[seval,go_sem,dM,fm]|(with_reducible refine aB ?_;(refine aC.gu 60 (by simp only[seval,go_sem];rfl) (by simp only[seval,go_sem,dM,fm];rfl) ?_);(with_reducible refine aB ?_;refine aC.q rfl rfl (by simp only[seval,go_sem];rfl) (by decide) (by simp only[seval,go_sem];rfl) (by simp only[seval,go_sem];rfl) rfl ?_<;>(try simp only[seval,go_sem,dM,fm])<;>(repeat'(with_reducible apply And.intro))<;>(try rfl)))|(with_reducible first|refine aV (st:=[]) ?_|refine ai (by simp(disch:=omega)only[seval,go_sem,cI,dM,fm];rfl) ?_))))
   all_goals done
def jb (s:Sr) (n:ByteArray) (c:Int):List Int×Int:=if eF s c≠0 then ([],eF s c) else if (fR s n c).2.2=false then ([],8) else (rD (bh s.ar (fR s n c).2.1.pages),0)
theorem Ex {a1 a2 a3 a4 a5 a6 a7 com last cap:Int} {os:List Ob} {bs:List Bd} {ps:List Pn} {pg:List Pg} {n:ByteArray} {c:Int} (hb:bs.length<=100000) (ho:os.length<=100000) (hv:∀ o∈os,o.bu.length<=100000/\∀ v∈o.bu,v.pages.length<=1000) (hp:ps.length<=100000) (hg:pg.length<=100000) (hd:∀ x∈pg,x.data.length<=1024):ak Tryz.prog 18 [.agg [i6 a1,i6 a2,i6 a3,i6 a4,i6 a5,i6 a6,i6 a7,i6 com,i6 last,.sl 2 (os.map aK),.sl 4 (bs.map ag),.sl 2 (ps.map aW),i6 cap,.sl 3 (pg.map bt)],.sc (.string n),i6 c] (.cT [.sl 1 ((jb ⟨⟨a1,a2,a3,a4,a5,a6,a7⟩,com,last,os,bs,ps,⟨cap,pg⟩⟩ n c).1.map cF),i6 (jb ⟨⟨a1,a2,a3,a4,a5,a6,a7⟩,com,last,os,bs,ps,⟨cap,pg⟩⟩ n c).2]) []:=by
 have wh:=oK (a1:=a1) (a2:=a2) (a3:=a3) (a4:=a4) (a5:=a5) (a6:=a6) (a7:=a7) (com:=com) (last:=last) (cap:=cap) (os:=os) (bs:=bs) (ps:=ps) (pg:=pg) (c:=c) hp;have HI:=oM (a1:=a1) (a2:=a2) (a3:=a3) (a4:=a4) (a5:=a5) (a6:=a6) (a7:=a7) (com:=com) (last:=last) (cap:=cap) (os:=os) (bs:=bs) (ps:=ps) (pg:=pg) (n:=n) (c:=c) hb ho (fun o h=>(hv o h).1)
 have hdl:∀ n,(eG ⟨cap,pg⟩ n).1.length<=1024:=fun m=>by
  rcases uU m pg with ⟨h1,_⟩|⟨j,p,h1,h2,h3,h4,_⟩
  ·simp[eG,h1]
  ·rw[eG,aE (by rw[h3];omega),h4];exact hd p (fS h1)
 by_cases h1:eF ⟨⟨a1,a2,a3,a4,a5,a6,a7⟩,com,last,os,bs,ps,⟨cap,pg⟩⟩ c=0
 focus
  rw[h1] at wh;rcases gN ⟨⟨a1,a2,a3,a4,a5,a6,a7⟩,com,last,os,bs,ps,⟨cap,pg⟩⟩ n c with ⟨e,_⟩|⟨j,k,o,v,_,q1,q2,q3,q4,q5,q6,e⟩
  focus
   have e2:jb ⟨⟨a1,a2,a3,a4,a5,a6,a7⟩,com,last,os,bs,ps,⟨cap,pg⟩⟩ n c=([],8):=by rw[jb,aE (by simp[h1]),e,bC rfl]
   rw[e2];rw[e] at HI;simp only[aL,zeroV,eM] at HI ⊢;have hZ:=ek 0
  rotate_left 1
  focus
   have e2:jb ⟨⟨a1,a2,a3,a4,a5,a6,a7⟩,com,last,os,bs,ps,⟨cap,pg⟩⟩ n c=(rD (bh ⟨cap,pg⟩ v.pages),0):=by
    rw[jb,aE (by simp[h1]),e,aE (by simp)]
   have Bw:=(hv o (fS q1)).2 v (fS q4);have hst:=ry (a1:=a1) (a2:=a2) (a3:=a3) (a4:=a4) (a5:=a5) (a6:=a6) (a7:=a7) (com:=com) (last:=last) (cap:=cap) (os:=os) (bs:=bs) (ps:=ps) (pg:=pg) (f:=v.from_) (t:=v.to) (z:=v.size) (vp:=v.pages) hg (fun p hp=>by have:=hd p hp;omega) (by omega)
   have XZ:=Ew (l:=bh ⟨cap,pg⟩ v.pages) (by simp[bh];omega) (fun x hx=>by
    obtain ⟨m,_,rfl⟩:=qu.1 hx
    have:=hdl m;omega)
   rw[e2];rw[e] at HI;simp only[aL] at HI ⊢;generalize bh ⟨cap,pg⟩ v.pages=L at *;have hZ:=ek 0
  rotate_left 1
 rotate_left 2
 focus
  have e2:jb ⟨⟨a1,a2,a3,a4,a5,a6,a7⟩,com,last,os,bs,ps,⟨cap,pg⟩⟩ n c=([],eF ⟨⟨a1,a2,a3,a4,a5,a6,a7⟩,com,last,os,bs,ps,⟨cap,pg⟩⟩ c):=by rw[jb,bC h1]
  rw[e2];simp only[eM];generalize eF ⟨⟨a1,a2,a3,a4,a5,a6,a7⟩,com,last,os,bs,ps,⟨cap,pg⟩⟩ c=E at *;have hZ:=h1
 rotate_left 1;all_goals(refine bR [] [3,10,14,22,30,31] [.tmp 6, .tmp 7] Tryz.func18 (by kernel_rfl) Tryz.ntmps18 rfl rfl rfl ⟨rfl,rfl⟩ (by simp(disch:=omega)only[seval,go_sem,cI,List.replicate,l_2,l_1];rfl) ?_)
 all_goals((repeat'(first|simp only[seval,go_sem,hZ]|((with_reducible refine bJ ?_);first|refine aq.c (wh) ?_|refine aq.c (HI) ?_|refine aq.c (hst) ?_|refine aq.c (XZ) ?_)|(with_reducible first|refine aD (st:=[]) ?_|refine aV (st:=[]) ?_|refine ai (by simp(disch:=omega)only[seval,go_sem,cI,hZ];rfl) ?_))))
theorem yt (s:Sr) (c:Int):oR s c=j0 s c:=by
 unfold oR j0;rw[tC]
theorem B7 (s:Sr) (n:ByteArray) (c:Int):(if (eA s n c).2.2=0 then (eA s n c).1 else 0)=(dy s n c).1/\(if (eA s n c).2.2=0 then (eA s n c).2.1.from_ else 0)=(dy s n c).2.1/\(eA s n c).2.2=(dy s n c).2.2:=by
 by_cases hv:eF s c=0
 ·rcases tL s n c hv with ⟨e1,e2⟩|⟨j,k,o,v,e1,e2,q0,q1,q2,q3,q4,q5⟩
  ·have ev:dy s n c=(0,0,8):=by rw[dy,aE (by simp[hv]),bC e2]
   rw[e1,ev];simp
  ·have ev:dy s n c=(o.id,v.from_,0):=by
    rw[dy,aE (by simp[hv]),e2,aE (by simp)];simp[dm,q1]
   rw[e1,ev];simp[q3]
 ·have e1:eA s n c=(0,zeroV,eF s c):=by rw[eA,bC hv]
  have ev:dy s n c=(0,0,eF s c):=by rw[dy,bC hv]
  rw[e1,ev];simp[hv]
theorem Jn {s:Sr} {pg:List Pg} (n:ByteArray) (c:Int) (h:tV pg s.ar):Be ⟨s.c,s.commit,s.last,s.objs,s.binds,s.pins,⟨s.ar.cap,pg⟩⟩ n c=jb s n c:=by
 have e0:eA ⟨s.c,s.commit,s.last,s.objs,s.binds,s.pins,⟨s.ar.cap,pg⟩⟩ n c=eA s n c:=rfl;unfold Be;rw[e0];simp only;by_cases hv:eF s c=0
 ·rcases tL s n c hv with ⟨e1,e2⟩|⟨j,k,o,v,e1,e2,q0,q1,q2,q3,q4,q5⟩
  ·have ev:jb s n c=([],8):=by rw[jb,aE (by simp[hv]),bC e2]
   rw[e1,ev];simp
  ·have ev:jb s n c=(rD (bh s.ar v.pages),0):=by rw[jb,aE (by simp[hv]),e2,aE (by simp)]
   rw[e1,ev];simp only[ne_eq,not_true_eq_false,jc];rw[yu h]
 ·have e1:eA s n c=(0,zeroV,eF s c):=by rw[eA,bC hv]
  have ev:jb s n c=([],eF s c):=by rw[jb,bC hv]
  rw[e1,ev];simp[hv]
theorem Inv.ver {i:Nat} {s:Sr} (h:Inv i s) (hi:i<=100):∀ o∈s.objs,o.bu.length<=100/\∀ v∈o.bu,v.pages.length<=61:=fun o ho=>⟨by have:=(h.b.hv o ho).1;omega,fun v hv=>((h.b.hv o ho).2 v hv).1⟩
theorem Gk {i:Nat} {s:Sr} {m:ByteArray} {n:Int} (h:Inv i s) (hi:i<=100):ak Tryz.prog 47 [.agg (eS s),.sc (.string m),.sl 1 ((aO n).map cF)] (.cT [.agg (eS (cR s m (aO n)).1),.sc (.int .i64 (cR s m (aO n)).2.1),.sc (.int .i64 (cR s m (aO n)).2.2)]) []:=by
 have hb:=h.b;have o9:=(gy n).1;have h1:=hb.hb;have h2:=hb.ho;have h3:=hb.hg;have h4:=hb.hc;have h5:=hb.hl;exact zF (a1:=s.c.tT) (a2:=s.c.qq) (a3:=s.c.nu) (a4:=s.c.fD) (a5:=s.c.kf) (a6:=s.c.com) (a7:=s.c.tU) (com:=s.commit) (last:=s.last) (cap:=s.ar.cap) (os:=s.objs) (bs:=s.binds) (ps:=s.pins) (pg:=s.ar.pages) (n:=m) (d:=aO n) (by omega) (by omega) (by omega) (by omega) hb.hz.1 hb.hz.2 h4.1 (by omega) h5.1 (by omega)
theorem OT {i:Nat} {s:Sr} {m:ByteArray} {n:Int} (h:Inv i s) (hi:i<=100):ak Tryz.prog 48 [.agg (eS s),.sc (.string m),.sl 1 ((aO n).map cF)] (.cT [.agg (eS (ji s m (aO n)).1),.sc (.int .i64 (ji s m (aO n)).2.1),.sc (.int .i64 (ji s m (aO n)).2.2)]) []:=by
 have hb:=h.b;have o9:=gy n;have h1:=hb.hb;have h2:=hb.ho;have h3:=hb.hg;have h4:=hb.hc;have hv:=h.ver hi
 exact Ge (a1:=s.c.tT) (a2:=s.c.qq) (a3:=s.c.nu) (a4:=s.c.fD) (a5:=s.c.kf) (a6:=s.c.com) (a7:=s.c.tU) (com:=s.commit) (last:=s.last) (cap:=s.ar.cap) (os:=s.objs) (bs:=s.binds) (ps:=s.pins) (pg:=s.ar.pages) (n:=m) (d:=aO n) (by omega) (by omega) (by omega) (by omega) hb.hz.1 hb.hz.2 h4.1 (by omega)
  (fun o ho=>⟨by have:=(hv o ho).1;omega,fun v w=>by have:=(hv o ho).2 v w;omega⟩) (fun p hp=>⟨by have:=(hb.hd p hp).1;omega,(hb.hd p hp).2⟩) o9.2
theorem Me {i:Nat} {s:Sr} {m:ByteArray} (h:Inv i s) (hi:i<=100):ak Tryz.prog 49 [.agg (eS s), .sc (.string m)] (.cT [.agg (eS (gq s m).1), .sc (.int .i64 (gq s m).2.1), .sc (.int .i64 (gq s m).2.2)]) []:=by
 have hb:=h.b;have h1:=hb.hb;have h2:=hb.ho;have h4:=hb.hc;have hv:=h.ver hi;exact Ek (a1:=s.c.tT) (a2:=s.c.qq) (a3:=s.c.nu) (a4:=s.c.fD) (a5:=s.c.kf) (a6:=s.c.com) (a7:=s.c.tU) (com:=s.commit) (last:=s.last) (cap:=s.ar.cap) (os:=s.objs) (bs:=s.binds) (ps:=s.pins) (pg:=s.ar.pages) (n:=m) (by omega) (by omega) (fun o ho=>by have:=(hv o ho).1;omega) (fun o ho v w=>by have:=(hv o ho).2 v w;omega) h4.1 (by omega)
theorem Gl {i:Nat} {s:Sr} {m k:ByteArray} (h:Inv i s) (hi:i<=100):ak Tryz.prog 50 [.agg (eS s), .sc (.string m), .sc (.string k)] (.cT [.agg (eS (bY s m k).1), .sc (.int .i64 (bY s m k).2.1), .sc (.int .i64 (bY s m k).2.2)]) []:=by
 have hb:=h.b;have h1:=hb.hb;have h4:=hb.hc;exact Ga (a1:=s.c.tT) (a2:=s.c.qq) (a3:=s.c.nu) (a4:=s.c.fD) (a5:=s.c.kf) (a6:=s.c.com) (a7:=s.c.tU) (com:=s.commit) (last:=s.last) (cap:=s.ar.cap) (os:=s.objs) (bs:=s.binds) (ps:=s.pins) (pg:=s.ar.pages) (n:=m) (m:=k) (by omega) h4.1 (by omega)
theorem OU {i:Nat} {s:Sr} {c:Int} (h:Inv i s) (hi:i<=100):ak Tryz.prog 13 [.agg (eS s), .sc (.int .i64 c)] (.cT [.agg (eS (ja s c).1), .sc (.int .i64 (ja s c).2)]) []:=
 F9 (a1:=s.c.tT) (a2:=s.c.qq) (a3:=s.c.nu) (a4:=s.c.fD) (a5:=s.c.kf) (a6:=s.c.com) (a7:=s.c.tU) (com:=s.commit) (last:=s.last) (cap:=s.ar.cap) (os:=s.objs) (bs:=s.binds) (ps:=s.pins) (pg:=s.ar.pages) (c:=c) (by have:=h.b.hp;omega)
theorem Jo {i:Nat} {s:Sr} {c:Int} (h:Inv i s) (hi:i<=100):ak Tryz.prog 52 [.agg (eS s), .sc (.int .i64 c)] (.cT [.agg (eS (gW s c).1), .sc (.int .i64 (gW s c).2)]) []:=
 B3 (a1:=s.c.tT) (a2:=s.c.qq) (a3:=s.c.nu) (a4:=s.c.fD) (a5:=s.c.kf) (a6:=s.c.com) (a7:=s.c.tU) (com:=s.commit) (last:=s.last) (cap:=s.ar.cap) (os:=s.objs) (bs:=s.binds) (ps:=s.pins) (pg:=s.ar.pages) (c:=c) (by have:=h.b.hp;omega)
theorem Jp {i:Nat} {s:Sr} (h:Inv i s) (hi:i<=100):ak Tryz.prog 54 [.agg (eS s)] (.cT [.agg (eS (kL s).1), .sc (.int .i64 (kL s).2)]) []:=
 yp (a1:=s.c.tT) (a2:=s.c.qq) (a3:=s.c.nu) (a4:=s.c.fD) (a5:=s.c.kf) (a6:=s.c.com) (a7:=s.c.tU) (com:=s.commit) (last:=s.last) (cap:=s.ar.cap) (os:=s.objs) (bs:=s.binds) (ps:=s.pins) (pg:=s.ar.pages) (by have:=h.b.hb;omega) (by have:=h.b.hp;omega)
theorem Gm {i:Nat} {s:Sr} {id f:Int} (h:Inv i s) (hi:i<=100):ak Tryz.prog 57 [.agg (eS s), .sc (.int .i64 id), .sc (.int .i64 f)] (.cT [.agg (eS (dA s id f).1), .sc (.int .i64 (dA s id f).2)]) []:=by
 have hb:=h.b;have h2:=hb.ho;have h3:=hb.hg;have h6:=hb.hp;have hv:=h.ver hi;exact v8 (a1:=s.c.tT) (a2:=s.c.qq) (a3:=s.c.nu) (a4:=s.c.fD) (a5:=s.c.kf) (a6:=s.c.com) (a7:=s.c.tU) (com:=s.commit) (last:=s.last) (cap:=s.ar.cap) (os:=s.objs) (bs:=s.binds) (ps:=s.pins) (pg:=s.ar.pages) (id:=id) (eo:=f) (by omega) (fun o ho=>by have:=(hv o ho).1;omega) (fun o ho v w=>by have:=(hv o ho).2 v w;omega) (by omega) (by omega)
theorem Mf (s:Sr):ak Tryz.prog 28 [.agg (eS s)] (.agg (Pc (vC s))) []:=Ep (a1:=s.c.tT) (a2:=s.c.qq) (a3:=s.c.nu) (a4:=s.c.fD) (a5:=s.c.kf) (a6:=s.c.com) (a7:=s.c.tU) (com:=s.commit) (last:=s.last) (cap:=s.ar.cap) (os:=s.objs) (bs:=s.binds) (ps:=s.pins) (pg:=s.ar.pages)
theorem Bf (p:List Pn):∀ l:List Vn,(kq p l).length<=l.length
 | []=>iU _
 | x::l=>by
   have:=Bf p l;rw[kq]
   split<;>simp only[List.length_cons]<;>omega
theorem Mg {i:Nat} {s:Sr} (h:Inv i s) (hi:i<=100):ak Tryz.prog 55 [.agg (Pc (vC s))] (.sl 2 ((kq s.pins (iV s.objs [])).map gY)) []:=by
 have h2:=h.b.ho;have h6:=h.b.hp;have h7:=h.en;exact yw (com:=s.commit) (os:=s.objs) (ps:=s.pins) (bd:=s.binds.map ag) (pg:=s.ar.pages.map bt) (by omega) (by unfold gT at h7;omega) (by omega)
theorem Gn {i:Nat} {s:Sr} {pg:List Pg} {n:Int} (h:pO i s pg) (hi:i<=100):∃ mJ,pO (i+1) (dB s n) mJ/\
  aF Tryz.prog 14 (hO s pg) [.ref 0 0, .agg (eS s), .sc (.int .i64 n)] (.cT [.agg (eS (dB s n)), .sc (.bool true)]) (hO (dB s n) mJ):=by
 have hc:=h.inv.b.hc;by_cases c1:n%16<3
 ·rw[show dB s n=(cR s (jf n) (aO (n/32%65536))).1 by rw[dB,bC c1]];obtain ⟨mJ,g1,g2⟩:=Gp (m:=jf n) (n:=n/32%65536) h hi;exact ⟨mJ,g1,Gq (by omega) g2 (Gk h.inv hi)⟩
 by_cases c2:n%16<7
 ·rw[show dB s n=(ji s (jf n) (aO (n/32%65536))).1 by rw[dB,aE c1,bC c2]];obtain ⟨mJ,g1,g2⟩:=OV (m:=jf n) (n:=n/32%65536) h hi;exact ⟨mJ,g1,OW (by omega) g2 (OT h.inv hi)⟩
 by_cases c3:n%16=7
 ·rw[show dB s n=(gq s (jf n)).1 by rw[dB,aE c1,aE c2,bC c3]];obtain ⟨g1,g2⟩:=Mh (m:=jf n) h hi;exact ⟨pg,g1,Mi c3 g2 (Me h.inv hi)⟩
 by_cases c4:n%16=8
 ·rw[show dB s n=(bY s (jf n) (yx (n/256%4).toNat)).1 by rw[dB,aE c1,aE c2,aE c3,bC c4]];obtain ⟨g1,g2⟩:=Gr (m:=jf n) (k:=yx (n/256%4).toNat) h hi;exact ⟨pg,g1,Gs c4 g2 (Gl h.inv hi)⟩
 by_cases c5:n%16<11
 ·rw[show dB s n=(ja s (s.commit-n/256%8/7*2)).1 by rw[dB,aE c1,aE c2,aE c3,aE c4,bC c5]];obtain ⟨g1,g2⟩:=OX (c:=s.commit-n/256%8/7*2) h hi;exact ⟨pg,g1,OL (by omega) hc.1 (by omega) g2 (OU h.inv hi)⟩
 by_cases c6:n%16<13
 ·rw[show dB s n=(gW s (B8 s n)).1 by rw[dB,aE c1,aE c2,aE c3,aE c4,aE c5,bC c6]];obtain ⟨g1,g2⟩:=Jq (c:=B8 s n) h hi;exact ⟨pg,g1,Jr (by omega) (by have:=h.inv.b.hp;omega) g2 (Jo h.inv hi)⟩
 by_cases c7:n%16=13
 ·rw[show dB s n=(kL s).1 by rw[dB,aE c1,aE c2,aE c3,aE c4,aE c5,aE c6,bC c7]];obtain ⟨g1,g2⟩:=Js h hi;exact ⟨pg,g1,Jb c7 g2 (Jp h.inv hi)⟩
 ·rw[show dB s n=(dA s (HT s n).1 (HT s n).2).1 by rw[dB,aE c1,aE c2,aE c3,aE c4,aE c5,aE c6,aE c7]];obtain ⟨mJ,g1,g2⟩:=Gt (id:=(HT s n).1) (f:=(HT s n).2) h hi;have U2:=Bf s.pins (iV s.objs []);rw[xJ h.inv.si] at U2;have LS:=h.inv.en;exact ⟨mJ,g1,Gu (by omega) (by rw[xJ h.inv.si];omega) (Mf s) (Mg h.inv hi) g2 (Gm h.inv hi)⟩
theorem Gv:∃ f:Sr->List Pg->Int->List Pg,∀ (i:Nat) (s:Sr) (pg:List Pg) (n:Int),i<=100->pO i s pg->pO (i+1) (dB s n) (f s pg n)/\
  aF Tryz.prog 14 (hO s pg) [.ref 0 0, .agg (eS s), .sc (.int .i64 n)] (.cT [.agg (eS (dB s n)), .sc (.bool true)]) (hO (dB s n) (f s pg n)):=by
 have key:∀ x:Sr×List Pg×Int,∃ mJ,(∃ i,i<=100/\pO i x.1 x.2.1)->tV mJ (dB x.1 x.2.2).ar/\aF Tryz.prog 14 (hO x.1 x.2.1) [.ref 0 0,.agg (eS x.1),.sc (.int .i64 x.2.2)] (.cT [.agg (eS (dB x.1 x.2.2)),.sc (.bool true)]) (hO (dB x.1 x.2.2) mJ):=fun x=>by
  by_cases hx:∃ i,i<=100/\pO i x.1 x.2.1
  ·obtain ⟨i,hi,hS⟩:=hx;obtain ⟨mJ,g1,g2⟩:=Gn (n:=x.2.2) hS hi;exact ⟨mJ,fun _=>⟨g1.ar,g2⟩⟩
  ·exact ⟨[],fun h=>absurd h hx⟩
 obtain ⟨f,hf⟩:=Classical.axiomOfChoice key;refine ⟨fun s pg n=>f (s,pg,n),fun i s pg n hi hS=>?_⟩;have:=hf (s,pg,n) ⟨i,hi,hS⟩;exact ⟨⟨Gw hS.inv hi,this.1⟩,this.2⟩
def sy (f:Sr->List Pg->Int->List Pg) (l:List Int):Nat->Nat->Sr->List Pg->List Pg
 | 0,_,_,pg=>pg
 | k+1,i,s,pg=>if i<=20/\i<l.length then sy f l k (i+1) (dB s ((l[i]?).getD 0)) (f s pg ((l[i]?).getD 0)) else pg
end Go.Proofs.YteemiclhnfkekaaGreat
