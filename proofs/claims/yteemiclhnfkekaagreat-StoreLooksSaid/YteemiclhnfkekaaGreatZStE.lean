/- The program's store walked: Put, its error roads. -/
import Derived.Test.YteemiclhnfkekaaGreatZStB
set_option linter.unusedSimpArgs false
set_option linter.unusedVariables false
set_option maxRecDepth 100000
set_option maxHeartbeats 12800000
namespace Go.Proofs.YteemiclhnfkekaaGreat
open Go.RowKit Go.eB Go.Proofs.Tryz
def m8 (a:Ar) (d:List Int) (b:Bool) (n:Int):Ar×Int:=if b=true then ((dZ a n).1,n) else ((eR a d).1,(eR a d).2.1)
def fq (a:Ar) (l:List (List Int)) (bs:List Bool) (o:List Int):Nat->Ar×List Int
 | 0=>(a,[])
 | i+1=>((m8 (fq a l bs o i).1 ((l[i]?).getD []) ((bs[i]?).getD false) ((o[i]?).getD 0)).1,(fq a l bs o i).2++[(m8 (fq a l bs o i).1 ((l[i]?).getD []) ((bs[i]?).getD false) ((o[i]?).getD 0)).2])
theorem oR (b:Bool):∀ l:List Bool,gj (l++[b])=gj l+(if b=true then 0 else 1)
 | []=>by cases b<;>rfl
 | x::l=>by
   rw[List.cons_append,gj,gj,oR b l]
   split<;>omega
theorem qL:∀ l:List Bool,0<=gj l/\gj l<=l.length
 | []=>⟨Nc _,Nc _⟩
 | x::l=>by
   have:=qL l;rw[gj];simp only[List.length_cons]
   split<;>omega
theorem jJ:∀ (o l:List (List Int)),(bB o l).length=l.length
 | [],[]=>rfl
 | _::_,[]=>rfl
 | [],x::l=>by rw[bB,List.length_cons,jJ [] l,List.length_cons]
 | y::o,x::l=>by rw[bB,List.length_cons,jJ o l,List.length_cons]
theorem sy:∀ (o l:List (List Int)) (i:Nat),(bB o l)[i]? = some true->i<o.length
 | _,[],i,h=>by simp[bB] at h
 | [],x::l,0,h=>by simp[bB] at h
 | [],x::l,i+1,h=>by
   have:=sy [] l i (by simpa[bB] using h);simp at this
 | y::o,x::l,0,h=>by simp
 | y::o,x::l,i+1,h=>by
   have:=sy o l i (by simpa[bB] using h);simp;omega
theorem sA {cap:Int} {pg:List Pg} {p:List Int} (Ed:∀ x∈pg,x.data.length<=1024/\∀ z∈x.data,0<=z/\z<=255):∀ x∈bg ⟨cap,pg⟩ p,∀ z∈x,0<=z/\z<=255:=by
 intro x hx z hz;obtain ⟨m,_,rfl⟩:=qq.1 hx;rcases uU m pg with ⟨h1,_⟩|⟨j,q,h1,h2,h3,h4,_⟩
 ·simp[eH,h1] at hz
 ·rw[eH,aE (by rw[h3];omega),h4] at hz;exact (Ed q (fS h1)).2 z hz
theorem yq {sz:Nat}:∀ (k:Nat) (l:List Int),∀ x∈chunks sz k l,∀ z∈x,z∈l
 | 0,l,x,hx,_,_=>by simp[chunks] at hx
 | k+1,l,x,hx,z,hz=>by
   rw[chunks] at hx
   split at hx
   ·cases hx
   ·rcases lp.1 hx with rfl|hx
    ·exact zR hz
    ·exact E8 (yq k (l.drop sz) x hx z hz)
theorem sB {sz:Int} {d:List Int} (h:∀ z∈d,0<=z/\z<=255):∀ x∈(aR d sz).1,∀ z∈x,0<=z/\z<=255:=by
 unfold aR
 split
 ·intro x hx;cases hx
 ·exact fun x hx z hz=>h z (yq _ _ x hx z hz)
theorem A7 (a:Ar) (l:List (List Int)) (bs:List Bool) (o:List Int):∀ i,(fq a l bs o i).1.cap=a.cap/\(fq a l bs o i).1.pages.length<=a.pages.length+i/\(fq a l bs o i).2.length=i
 | 0=>⟨rfl,iU _,rfl⟩
 | i+1=>by
   obtain ⟨h1,h2,h3⟩:=A7 a l bs o i;rw[fq];generalize fq a l bs o i=X at *;refine ⟨?_,?_,by simp[h3]⟩
   ·unfold m8
    split
    ·simp only[dZ]
     split<;>exact h1
    ·exact (sw _ _).trans h1
   ·unfold m8
    split
    ·have:(dZ X.1 ((o[i]?).getD 0)).1.pages.length=X.1.pages.length:=by
      simp only[dZ]
      split
      ·rfl
      ·simp[gl]
     simp only;omega
    ·have:=yp X.1 ((l[i]?).getD []);simp only;omega
theorem RF {a1 a2 a3 a4 a5 a6 a7 com last cap:Int} {os:List Ob} {bs:List Bd} {ps:List Pn} {pg:List Pg} {n:ByteArray} {d:List Int} (hb:bs.length<=100000) (hp:ps.length<=100000) (hv:∀ o∈os,o.bu.length<=100000) (hdl:d.length<=200) (h:(er ⟨⟨a1,a2,a3,a4,a5,a6,a7⟩,com,last,os,bs,ps,⟨cap,pg⟩⟩ n com).2.2≠0):aF prog 34 (iT 1 2 3 a1 a2 a3 a4 a5 a6 a7 com last cap os bs ps pg) [.ref 0 0,.sc (.string n),.sl 1 (d.map cF)] (.cT [i6 0,i6 8]) (iT 1 2 3 a1 a2 a3 a4 a5 a6 a7 com last cap os bs ps pg):=by
 have nW:=jI (a1:=a1) (a2:=a2) (a3:=a3) (a4:=a4) (a5:=a5) (a6:=a6) (a7:=a7) (com:=com) (last:=last) (cap:=cap) (os:=os) (bs:=bs) (ps:=ps) (pg:=pg) (n:=n) (c:=com) hb hp hv;generalize er ⟨⟨a1,a2,a3,a4,a5,a6,a7⟩,com,last,os,bs,ps,⟨cap,pg⟩⟩ n com=F at *;obtain ⟨id,⟨f,t,s,p⟩,e⟩:=F;simp only[aL] at nW h;have c0:¬ 65536<(d.length:Int):=by omega
 refine bR [1000,1001,1002,1003] [9,17,31,44,49,51,60,64,67,106,113,119,120,143] [.tmp 6,.tmp 7] func34 (by kernel_rfl) ntmps34 rfl rfl rfl (by first|simp only[seval,go_sem,lH]) (by simp(disch:=omega)only[seval,go_sem,cI,List.replicate,l_2,l_1];rfl) ?_;((repeat'(first|simp only[seval,go_sem,c0,h]|((with_reducible refine au ?_);((with_reducible refine cq (st:=[]) 2 ?_);simp only[seval,go_sem,c0,h];refine b8.c (nW) ?_))|(with_reducible first|refine aV (st:=[]) ?_|refine ai (by simp(disch:=omega)only[seval,go_sem,cI,c0,h];rfl) ?_))));all_goals done
theorem Mb {a1 a2 a3 a4 a5 a6 a7 com last cap:Int} {os:List Ob} {bs:List Bd} {ps:List Pn} {pg:List Pg} {n:ByteArray} {d:List Int} (hb:bs.length<=100000) (hp:ps.length<=100000) (hv:∀ o∈os,o.bu.length<=100000) (hdl:d.length<=200) (hs:8<=a4/\a4<=1024) (hg:pg.length<=50000) (Ed:∀ x∈pg,x.data.length<=1024/\∀ z∈x.data,0<=z/\z<=255) (QT:∀ z∈d,0<=z/\z<=255) {id f t s:Int} {p:List Int} (UZ:p.length<=1000) (hF:er ⟨⟨a1,a2,a3,a4,a5,a6,a7⟩,com,last,os,bs,ps,⟨cap,pg⟩⟩ n com=(id,⟨f,t,s,p⟩,0)) (d1:a6<=com):aF prog 34 (iT 1 2 3 a1 a2 a3 a4 a5 a6 a7 com last cap os bs ps pg) [.ref 0 0,.sc (.string n),.sl 1 (d.map cF)] (.cT [i6 0,i6 14]) (iT 1 2 3 a1 a2 a3 a4 a5 a6 a7 com last cap os bs ps pg):=by
 have nW:=jI (a1:=a1) (a2:=a2) (a3:=a3) (a4:=a4) (a5:=a5) (a6:=a6) (a7:=a7) (com:=com) (last:=last) (cap:=cap) (os:=os) (bs:=bs) (ps:=ps) (pg:=pg) (n:=n) (c:=com) hb hp hv;rw[hF] at nW;simp only[aL] at nW;have hsp:=gI (b:=d) (sz:=a4) hdl hs.1 hs.2;have pS:=iD (d:=d) hs.1;have hda:=m7 (a1:=a1) (a2:=a2) (a3:=a3) (a4:=a4) (a5:=a5) (a6:=a6) (a7:=a7) (com:=com) (last:=last) (cap:=cap) (os:=os) (bs:=bs) (ps:=ps) (pg:=pg) (f:=f) (t:=t) (s:=s) (p:=p) (by omega) (fun x hx=>by have:=(Ed x hx).1;omega) (by omega);have Nk:=sA (cap:=cap) (p:=p) Ed;have rW:=sB (sz:=a4) QT;have hsh:=oS (os:=bg ⟨cap,pg⟩ p) (ns:=(aR d a4).1) (by simp[bg];omega) (by omega) Nk rW;have u0:=jJ (bg ⟨cap,pg⟩ p) (aR d a4).1;generalize bB (bg ⟨cap,pg⟩ p) (aR d a4).1=SH at *;generalize bg ⟨cap,pg⟩ p=SD at *;generalize aR d a4=SP at *;obtain ⟨L,se⟩:=SP;simp only at hsp pS hsh u0 rW;have c0:¬ 65536<(d.length:Int):=by omega
 refine bR [1000,1001,1002,1003] [9,17,31,44,49,51,60,64,67,106,113,119,120,143] [.tmp 6,.tmp 7] func34 (by kernel_rfl) ntmps34 rfl rfl rfl (by first|simp only[seval,go_sem,lH]) (by simp(disch:=omega)only[seval,go_sem,cI,List.replicate,l_2,l_1];rfl) ?_
 ((repeat'(first|simp only[seval,go_sem,c0]|((with_reducible refine bJ ?_);first|refine aq.c (hsp) ?_|refine aq.c (hsh) ?_)|((with_reducible refine au ?_);first|((with_reducible refine cq (st:=[]) 2 ?_);simp only[seval,go_sem,c0];first|refine b8.c (nW) ?_|refine b8.c (hda) ?_)|(with_reducible refine aD (st:=[]) ?_))|(with_reducible first|refine aV (st:=[]) ?_|refine ai (by simp(disch:=omega)only[seval,go_sem,cI,c0];rfl) ?_))))
 all_goals(with_reducible refine ay.cX (fun (i:Nat)=>[(54,i6 i),(14,i6 (gj (SH.take i))),(16,.any)]++aN 55 8) (fun (i:Nat)=>[]) (fun (i:Nat)=>i<=SH.length) (fun (i:Nat)=>SH.length-i) (0) (ek _) (by intro _;simp(disch:=omega)only[seval,go_sem,cI];rfl) (by simp only[seval,go_sem,List.take_zero,gj]) (fun i hI=>?_))
 all_goals
  have qX:=qL (SH.take i);rw[cw] at qX;by_cases hlt:i<SH.length
  ·obtain ⟨x,hx⟩:=aZ hlt;have hx':=get_map cz hx;have fm:SH.take (i+1)=SH.take i++[x]:=by rw[HY,hx];rfl
   have uB:=oR x (SH.take i);rw[<- fm] at uB;cases x
   ·simp only[pT,jd] at uB;((repeat'(first|simp only[seval,go_sem,hx',cz]|(with_reducible refine aV (st:=[]) ?_)|(with_reducible refine ai (by simp(disch:=omega)only[seval,go_sem,cI,hx',cz];rfl) ?_))));all_goals(try(refine aP (i+1) (by simp only[seval,go_sem,uB];first|((repeat'(with_reducible apply And.intro))<;>first|rfl)) ?_ ?_<;>(try(omega))))
    all_goals done
   ·simp only[jg,Int.add_zero] at uB;((repeat'(first|simp only[seval,go_sem,hx',cz]|(with_reducible refine aV (st:=[]) ?_)|(with_reducible refine ai (by simp(disch:=omega)only[seval,go_sem,cI,hx',cz];rfl) ?_))));all_goals(try(refine aP (i+1) (by simp only[seval,go_sem,uB];first|((repeat'(with_reducible apply And.intro))<;>first|rfl)) ?_ ?_<;>(try(omega))))
    all_goals done
  ·have e1:i=SH.length:=by omega
   subst e1;rw[Na] at qX ⊢
   ((repeat'(first|(with_reducible exact jt)|(with_reducible refine aY 15 ?_;with_reducible apply ay.pR;refine ay.bU 15 mix 14 rfl (.f 0 <| .a <| .b 1 (.f 2 <| .f 3 <| .f 5 <| .f 7 <| .f 8 <| .f 9 <| .f 10 <| .a <| .b 4 (.f 6 <| .a <| .b 11 (.f 12 <| .f 13 <| .d) .e) <| .b 11 (.a <| .b 4 (.f 6 <| .f 12 <| .f 13 <| .d) .e) .e) .e) (by kernel_rfl) ?_)|(with_reducible refine cA ?_;first|refine aJ.D ?_|refine aJ.Fn (by simp only[seval,go_sem,eg,dJ];rfl) (by first|(simp only[seval,go_sem,d1];with_reducible rfl)) ?_|refine aJ.F (by simp only[seval,go_sem,eg,dJ];rfl) (by first|(simp only[seval,go_sem,d1])) (by first|(simp only[seval,go_sem,d1];with_reducible rfl)) ?_|refine aJ.A ?_)|(with_reducible first|exact aI.E|refine aI.B (by simp only[seval,go_sem,eg,dJ];rfl) ?_ ?_)|simp only[seval,go_sem,d1]|((with_reducible refine au ?_);first|((with_reducible first|refine ah.step (by simp only[seval,go_sem,d1];rfl) ?_);refine dI (st:=[]) ?_)|((with_reducible refine cq (st:=[]) 2 ?_);simp only[seval,go_sem,d1];refine b8.c (gH) ?_))|(with_reducible first|refine aV (st:=[]) ?_|refine ai (by simp(disch:=omega)only[seval,go_sem,cI,d1];rfl) ?_))))
   all_goals done
theorem Mc {a1 a2 a3 a4 a5 a6 a7 com last cap:Int} {os:List Ob} {bs:List Bd} {ps:List Pn} {pg:List Pg} {n:ByteArray} {d:List Int} (hb:bs.length<=100000) (hp:ps.length<=100000) (hv:∀ o∈os,o.bu.length<=100000) (hdl:d.length<=200) (hs:8<=a4/\a4<=1024) (hg:pg.length<=50000) (Ed:∀ x∈pg,x.data.length<=1024/\∀ z∈x.data,0<=z/\z<=255) (QT:∀ z∈d,0<=z/\z<=255) {id f t s:Int} {p:List Int} (UZ:p.length<=1000) (hF:er ⟨⟨a1,a2,a3,a4,a5,a6,a7⟩,com,last,os,bs,ps,⟨cap,pg⟩⟩ n com=(id,⟨f,t,s,p⟩,0)) (d1:¬ a6<=com) (d2:a3<(pg.length:Int)+gj (bB (bg ⟨cap,pg⟩ p) (aR d a4).1)):aF prog 34 (iT 1 2 3 a1 a2 a3 a4 a5 a6 a7 com last cap os bs ps pg) [.ref 0 0,.sc (.string n),.sl 1 (d.map cF)] (.cT [i6 0,i6 14]) (iT 1 2 3 a1 a2 a3 a4 a5 a6 a7 com last cap os bs ps pg):=by
 have nW:=jI (a1:=a1) (a2:=a2) (a3:=a3) (a4:=a4) (a5:=a5) (a6:=a6) (a7:=a7) (com:=com) (last:=last) (cap:=cap) (os:=os) (bs:=bs) (ps:=ps) (pg:=pg) (n:=n) (c:=com) hb hp hv;rw[hF] at nW;simp only[aL] at nW;have hsp:=gI (b:=d) (sz:=a4) hdl hs.1 hs.2;have pS:=iD (d:=d) hs.1;have hda:=m7 (a1:=a1) (a2:=a2) (a3:=a3) (a4:=a4) (a5:=a5) (a6:=a6) (a7:=a7) (com:=com) (last:=last) (cap:=cap) (os:=os) (bs:=bs) (ps:=ps) (pg:=pg) (f:=f) (t:=t) (s:=s) (p:=p) (by omega) (fun x hx=>by have:=(Ed x hx).1;omega) (by omega);have Nk:=sA (cap:=cap) (p:=p) Ed;have rW:=sB (sz:=a4) QT;have hsh:=oS (os:=bg ⟨cap,pg⟩ p) (ns:=(aR d a4).1) (by simp[bg];omega) (by omega) Nk rW;have u0:=jJ (bg ⟨cap,pg⟩ p) (aR d a4).1;generalize bB (bg ⟨cap,pg⟩ p) (aR d a4).1=SH at *;generalize bg ⟨cap,pg⟩ p=SD at *;generalize aR d a4=SP at *;obtain ⟨L,se⟩:=SP;simp only at hsp pS hsh u0 rW;have c0:¬ 65536<(d.length:Int):=by omega
 refine bR [1000,1001,1002,1003] [9,17,31,44,49,51,60,64,67,106,113,119,120,143] [.tmp 6,.tmp 7] func34 (by kernel_rfl) ntmps34 rfl rfl rfl (by first|simp only[seval,go_sem,lH]) (by simp(disch:=omega)only[seval,go_sem,cI,List.replicate,l_2,l_1];rfl) ?_
 ((repeat'(first|simp only[seval,go_sem,c0]|((with_reducible refine bJ ?_);first|refine aq.c (hsp) ?_|refine aq.c (hsh) ?_)|((with_reducible refine au ?_);first|((with_reducible refine cq (st:=[]) 2 ?_);simp only[seval,go_sem,c0];first|refine b8.c (nW) ?_|refine b8.c (hda) ?_)|(with_reducible refine aD (st:=[]) ?_))|(with_reducible first|refine aV (st:=[]) ?_|refine ai (by simp(disch:=omega)only[seval,go_sem,cI,c0];rfl) ?_))))
 all_goals(with_reducible refine ay.cX (fun (i:Nat)=>[(54,i6 i),(14,i6 (gj (SH.take i))),(16,.any)]++aN 55 8) (fun (i:Nat)=>[]) (fun (i:Nat)=>i<=SH.length) (fun (i:Nat)=>SH.length-i) (0) (ek _) (by intro _;simp(disch:=omega)only[seval,go_sem,cI];rfl) (by simp only[seval,go_sem,List.take_zero,gj]) (fun i hI=>?_))
 all_goals
  have qX:=qL (SH.take i);rw[cw] at qX;by_cases hlt:i<SH.length
  ·obtain ⟨x,hx⟩:=aZ hlt;have hx':=get_map cz hx;have fm:SH.take (i+1)=SH.take i++[x]:=by rw[HY,hx];rfl
   have uB:=oR x (SH.take i);rw[<- fm] at uB;cases x
   ·simp only[pT,jd] at uB;((repeat'(first|simp only[seval,go_sem,hx',cz]|(with_reducible refine aV (st:=[]) ?_)|(with_reducible refine ai (by simp(disch:=omega)only[seval,go_sem,cI,hx',cz];rfl) ?_))));all_goals(try(refine aP (i+1) (by simp only[seval,go_sem,uB];first|((repeat'(with_reducible apply And.intro))<;>first|rfl)) ?_ ?_<;>(try(omega))))
    all_goals done
   ·simp only[jg,Int.add_zero] at uB;((repeat'(first|simp only[seval,go_sem,hx',cz]|(with_reducible refine aV (st:=[]) ?_)|(with_reducible refine ai (by simp(disch:=omega)only[seval,go_sem,cI,hx',cz];rfl) ?_))));all_goals(try(refine aP (i+1) (by simp only[seval,go_sem,uB];first|((repeat'(with_reducible apply And.intro))<;>first|rfl)) ?_ ?_<;>(try(omega))))
    all_goals done
  ·have e1:i=SH.length:=by omega
   subst e1;rw[Na] at qX ⊢
   ((repeat'(first|(with_reducible exact jt)|(with_reducible refine aY 15 ?_;with_reducible apply ay.pR;refine ay.bU 15 mix 14 rfl (.f 0 <| .a <| .b 1 (.f 2 <| .f 3 <| .f 5 <| .f 7 <| .f 8 <| .f 9 <| .f 10 <| .a <| .b 4 (.f 6 <| .a <| .b 11 (.f 12 <| .f 13 <| .d) .e) <| .b 11 (.a <| .b 4 (.f 6 <| .f 12 <| .f 13 <| .d) .e) .e) .e) (by kernel_rfl) ?_)|(with_reducible refine cA ?_;first|refine aJ.D ?_|refine aJ.Fn (by simp only[seval,go_sem,eg,dJ];rfl) (by first|(simp only[seval,go_sem,d1,d2];with_reducible rfl)) ?_|refine aJ.F (by simp only[seval,go_sem,eg,dJ];rfl) (by first|(simp only[seval,go_sem,d1,d2])) (by first|(simp only[seval,go_sem,d1,d2];with_reducible rfl)|(simp(disch:=omega)only[seval,go_sem,cI,d1,d2];with_reducible rfl)) ?_|refine aJ.A ?_)|(with_reducible first|exact aI.E|refine aI.B (by simp only[seval,go_sem,eg,dJ];rfl) ?_ ?_)|simp only[seval,go_sem,d1,d2]|((with_reducible refine au ?_);first|((with_reducible first|refine ah.step (by simp only[seval,go_sem,d1,d2];rfl) ?_);refine dI (st:=[]) ?_)|((with_reducible refine cq (st:=[]) 2 ?_);simp only[seval,go_sem,d1,d2];first|refine b8.c (gH) ?_|refine b8.c (lf) ?_))|(with_reducible first|refine aV (st:=[]) ?_|refine ai (by simp(disch:=omega)only[seval,go_sem,cI,d1,d2];rfl) ?_))))
   all_goals done
theorem Qi {a1 a2 a3 a4 a5 a6 a7 com last cap:Int} {os:List Ob} {bs:List Bd} {ps:List Pn} {pg:List Pg} {n:ByteArray} {d:List Int} (hb:bs.length<=100000) (hp:ps.length<=100000) (hv:∀ o∈os,o.bu.length<=100000) (hdl:d.length<=200) (Bq:∀ o∈os,∀ v∈o.bu,v.pages.length<=1000000) (hs:8<=a4/\a4<=1024) (hg:pg.length<=50000) (Ed:∀ x∈pg,x.data.length<=1024/\∀ z∈x.data,0<=z/\z<=255) (QT:∀ z∈d,0<=z/\z<=255) {id f t s:Int} {p:List Int} (UZ:p.length<=1000) (hF:er ⟨⟨a1,a2,a3,a4,a5,a6,a7⟩,com,last,os,bs,ps,⟨cap,pg⟩⟩ n com=(id,⟨f,t,s,p⟩,0)) (vR:0<=com) (hrb:com<=1000000) (Cn:¬ cU id os 0<0) (d1:¬ a6<=com) (d2:¬ a3<(pg.length:Int)+gj (bB (bg ⟨cap,pg⟩ p) (aR d a4).1)):aF prog 34 (iT 1 2 3 a1 a2 a3 a4 a5 a6 a7 com last cap os bs ps pg) [.ref 0 0,.sc (.string n),.sl 1 (d.map cF)] (.cT [i6 (com+1),i6 0])
  (iT 1 2 3 a1 a2 a3 a4 a5 a6 a7 (com+1) last cap ((dz os (cU id os 0) (cQ (eM os id) ⟨com+1,0,d.length,(fq ⟨cap,pg⟩ (aR d a4).1 (bB (bg ⟨cap,pg⟩ p) (aR d a4).1) p (aR d a4).1.length).2⟩).1)) bs ps ((fq ⟨cap,pg⟩ (aR d a4).1 (bB (bg ⟨cap,pg⟩ p) (aR d a4).1) p (aR d a4).1.length).1.pages)):=by
 have X3:=sy (bg ⟨cap,pg⟩ p) (aR d a4).1;have Z8:(bg ⟨cap,pg⟩ p).length=p.length:=by simp[bg]
 have nW:=jI (a1:=a1) (a2:=a2) (a3:=a3) (a4:=a4) (a5:=a5) (a6:=a6) (a7:=a7) (com:=com) (last:=last) (cap:=cap) (os:=os) (bs:=bs) (ps:=ps) (pg:=pg) (n:=n) (c:=com) hb hp hv;rw[hF] at nW;simp only[aL] at nW;have hsp:=gI (b:=d) (sz:=a4) hdl hs.1 hs.2;have pS:=iD (d:=d) hs.1;have hda:=m7 (a1:=a1) (a2:=a2) (a3:=a3) (a4:=a4) (a5:=a5) (a6:=a6) (a7:=a7) (com:=com) (last:=last) (cap:=cap) (os:=os) (bs:=bs) (ps:=ps) (pg:=pg) (f:=f) (t:=t) (s:=s) (p:=p) (by omega) (fun x hx=>by have:=(Ed x hx).1;omega) (by omega);have Nk:=sA (cap:=cap) (p:=p) Ed;have rW:=sB (sz:=a4) QT;have hsh:=oS (os:=bg ⟨cap,pg⟩ p) (ns:=(aR d a4).1) (by simp[bg];omega) (by omega) Nk rW;have u0:=jJ (bg ⟨cap,pg⟩ p) (aR d a4).1;generalize bB (bg ⟨cap,pg⟩ p) (aR d a4).1=SH at *;generalize bg ⟨cap,pg⟩ p=SD at *;generalize aR d a4=SP at *;obtain ⟨L,se⟩:=SP;simp only at hsp pS hsh u0 rW;have c0:¬ 65536<(d.length:Int):=by omega
 rcases rz id os with ⟨q1,_⟩|⟨j,o,q1,q2,q3,q4,q5,q6,q7,q8⟩
 ·exact absurd (show cU id os 0<0 by rw[q1];omega) Cn
 rw[q3,q7];refine bR [1000,1001,1002,1003] [9,17,31,44,49,51,60,64,67,106,113,119,120,143] [.tmp 6,.tmp 7] func34 (by kernel_rfl) ntmps34 rfl rfl rfl (by first|simp only[seval,go_sem,lH]) (by simp(disch:=omega)only[seval,go_sem,cI,List.replicate,l_2,l_1];rfl) ?_
 ((repeat'(first|simp only[seval,go_sem,c0]|((with_reducible refine bJ ?_);first|refine aq.c (hsp) ?_|refine aq.c (hsh) ?_)|((with_reducible refine au ?_);first|((with_reducible refine cq (st:=[]) 2 ?_);simp only[seval,go_sem,c0];first|refine b8.c (nW) ?_|refine b8.c (hda) ?_)|(with_reducible refine aD (st:=[]) ?_))|(with_reducible first|refine aV (st:=[]) ?_|refine ai (by simp(disch:=omega)only[seval,go_sem,cI,c0];rfl) ?_))))
 all_goals(with_reducible refine ay.cX (fun (i:Nat)=>[(54,i6 i),(14,i6 (gj (SH.take i))),(16,.any)]++aN 55 8) (fun (i:Nat)=>[]) (fun (i:Nat)=>i<=SH.length) (fun (i:Nat)=>SH.length-i) (0) (ek _) (by intro _;simp(disch:=omega)only[seval,go_sem,cI];rfl) (by simp only[seval,go_sem,List.take_zero,gj]) (fun i hI=>?_))
 all_goals
  have qX:=qL (SH.take i);rw[cw] at qX;by_cases hlt:i<SH.length
  ·obtain ⟨x,hx⟩:=aZ hlt;have hx':=get_map cz hx;have fm:SH.take (i+1)=SH.take i++[x]:=by rw[HY,hx];rfl
   have uB:=oR x (SH.take i);rw[<- fm] at uB;cases x
   ·simp only[pT,jd] at uB;((repeat'(first|simp only[seval,go_sem,hx',cz]|(with_reducible refine aV (st:=[]) ?_)|(with_reducible refine ai (by simp(disch:=omega)only[seval,go_sem,cI,hx',cz];rfl) ?_))));all_goals(try(refine aP (i+1) (by simp only[seval,go_sem,uB];first|((repeat'(with_reducible apply And.intro))<;>first|rfl)) ?_ ?_<;>(try(omega))))
    all_goals done
   ·simp only[jg,Int.add_zero] at uB;((repeat'(first|simp only[seval,go_sem,hx',cz]|(with_reducible refine aV (st:=[]) ?_)|(with_reducible refine ai (by simp(disch:=omega)only[seval,go_sem,cI,hx',cz];rfl) ?_))));all_goals(try(refine aP (i+1) (by simp only[seval,go_sem,uB];first|((repeat'(with_reducible apply And.intro))<;>first|rfl)) ?_ ?_<;>(try(omega))))
    all_goals done
  ·have e1:i=SH.length:=by omega
   subst e1;rw[Na] at qX ⊢
   ((repeat'(first|(with_reducible exact jt)|(with_reducible refine aY 15 ?_;with_reducible apply ay.pR;refine ay.bU 15 mix 14 rfl (.f 0 <| .a <| .b 1 (.f 2 <| .f 3 <| .f 5 <| .f 7 <| .f 8 <| .f 9 <| .f 10 <| .a <| .b 4 (.f 6 <| .a <| .b 11 (.f 12 <| .f 13 <| .d) .e) <| .b 11 (.a <| .b 4 (.f 6 <| .f 12 <| .f 13 <| .d) .e) .e) .e) (by kernel_rfl) ?_)|(with_reducible refine cA ?_;first|refine aJ.D ?_|refine aJ.Fn (by simp only[seval,go_sem,eg,dJ];rfl) (by first|(simp only[seval,go_sem,d1,d2];with_reducible rfl)) ?_|refine aJ.F (by simp only[seval,go_sem,eg,dJ];rfl) (by first|(simp only[seval,go_sem,d1,d2])) (by first|(simp only[seval,go_sem,d1,d2];with_reducible rfl)|(simp(disch:=omega)only[seval,go_sem,cI,d1,d2];with_reducible rfl)) ?_|refine aJ.A ?_)|(with_reducible first|exact aI.E|refine aI.B (by simp only[seval,go_sem,eg,dJ];rfl) ?_ ?_)|simp only[seval,go_sem,d1,d2]|((with_reducible refine au ?_);first|((with_reducible first|refine ah.step (by simp only[seval,go_sem,d1,d2];rfl) ?_);refine dI (st:=[]) ?_)|((with_reducible refine cq (st:=[]) 2 ?_);simp only[seval,go_sem,d1,d2];first|refine b8.c (gH) ?_|refine b8.c (lf) ?_))|(with_reducible first|refine aV (st:=[]) ?_|refine ai (by simp(disch:=omega)only[seval,go_sem,cI,d1,d2];rfl) ?_))))
   all_goals(refine ay.As 17 3 60 1 (by simp only[seval,go_sem];rfl) (by simp only[seval,go_sem]) (by decide) (by first|(simp only[seval,go_sem])) (by simp only[seval,go_sem];rfl) ?_)
   all_goals(with_reducible refine ay.cX (fun (i:Nat)=>[(87,i6 i)]++aN 18 3++aN 88 35) (fun (i:Nat)=>[(17,.box [i6 (com+1),i6 0,i6 d.length,.cW 60 1 0 i]),(60,.row 1 (((fq ⟨cap,pg⟩ L SH p i).2).map cO)),(1003,.ext (eO (.int .i64) (dR (c9 (fq ⟨cap,pg⟩ L SH p i).1.pages)))),(106,.dead),(113,.dead),(119,.dead),(120,.dead)]) (fun (i:Nat)=>i<=L.length) (fun (i:Nat)=>L.length-i) (0) (ek _) (by intro _;simp(disch:=omega)only[seval,go_sem,cI];rfl) (by simp only[seval,go_sem,fq,eN]) (fun i hI=>?_))
   all_goals
    obtain ⟨hac,tU,UY⟩:=A7 ⟨cap,pg⟩ L SH p i;by_cases hlt:i<L.length
    ·obtain ⟨x,hx⟩:=aZ hlt;obtain ⟨b,He⟩:=aZ (show i<SH.length by omega);have hx':=get_map bP hx;have hb':=get_map cz He;have wF:fq ⟨cap,pg⟩ L SH p (i+1)=((m8 (fq ⟨cap,pg⟩ L SH p i).1 x b ((p[i]?).getD 0)).1,(fq ⟨cap,pg⟩ L SH p i).2++[(m8 (fq ⟨cap,pg⟩ L SH p i).1 x b ((p[i]?).getD 0)).2]):=by rw[fq,hx,He];rfl
     generalize fq ⟨cap,pg⟩ L SH p i=X at *;obtain ⟨⟨xc,xl⟩,xn⟩:=X;simp only at tU hac wF UY ⊢;subst hac;have pP:(xn.map cO).length=i:=by rw[dD];omega
     cases b
     ·have MU:=sI (cap:=xc) (l:=xl) (d:=x) (by omega) (by have:=pS.2 x (fS hx);omega);rw[m8,aE (by simp)] at wF;generalize eR ⟨xc,xl⟩ x=Y at *;obtain ⟨⟨yc,yl⟩,yn,ye⟩:=Y;have hs1:(fq ⟨xc,pg⟩ L SH p (i+1)).2=xn++[yn]:=by rw[wF]
      have MV:(fq ⟨xc,pg⟩ L SH p (i+1)).1.pages=yl:=by rw[wF]
      simp only at MU;((repeat'(first|simp only[seval,go_sem,bP,cz,hx',hb',pP]|((with_reducible refine au ?_);((with_reducible refine cq (st:=[]) 1 ?_);simp only[seval,go_sem,bP,cz,hx',hb',pP];refine b8.c (MU) ?_))|(with_reducible first|refine aV (st:=[]) ?_|refine ai (by simp(disch:=omega)only[seval,go_sem,cI,bP,cz,hx',hb',pP];rfl) ?_))));all_goals(try((refine kN (i+1) (cZ.wJ 120 60 (by decide) (by first|(simp only[seval,go_sem])) (by simp only[seval,go_sem];rfl) (cZ.Bn (by simp only[seval,go_sem,hs1,MV,cO,vN,fk,eN];first|((repeat'(with_reducible apply And.intro))<;>first|rfl|(simp[hs1,MV,cO,vN,fk,eN];omega))))) ?_ ?_)<;>(try(omega))))
      all_goals done
     ·have Z9:i<p.length:=by have:=X3 i He;omega
      obtain ⟨m,hm⟩:=aZ Z9;have hm':=get_map cO hm;have MU:=Cq (cap:=xc) (l:=xl) (n:=m);rw[m8,bC rfl,hm] at wF;simp only[Option.getD_some] at wF;generalize dZ ⟨xc,xl⟩ m=Y at *;obtain ⟨⟨yc,yl⟩,ye⟩:=Y;have hs1:(fq ⟨xc,pg⟩ L SH p (i+1)).2=xn++[m]:=by rw[wF]
      have MV:(fq ⟨xc,pg⟩ L SH p (i+1)).1.pages=yl:=by rw[wF]
      simp only at MU;((repeat'(first|simp only[seval,go_sem,bP,cz,cO,hx',hb',hm',pP]|((with_reducible refine au ?_);((with_reducible refine cq (st:=[]) 1 ?_);simp only[seval,go_sem,bP,cz,cO,hx',hb',hm',pP];refine b8.c (MU) ?_))|(with_reducible first|refine aV (st:=[]) ?_|refine ai (by simp(disch:=omega)only[seval,go_sem,cI,bP,cz,cO,hx',hb',hm',pP];rfl) ?_))));all_goals(try((refine kN (i+1) (cZ.wJ 120 60 (by decide) (by first|(simp only[seval,go_sem])) (by simp only[seval,go_sem];rfl) (cZ.Bn (by simp only[seval,go_sem,hs1,MV,cO,vN,fk,eN];first|((repeat'(with_reducible apply And.intro))<;>first|rfl|(simp[hs1,MV,cO,vN,fk,eN];omega))))) ?_ ?_)<;>(try(omega))))
      all_goals done
    ·have e1:i=L.length:=by omega
     subst e1;generalize fq ⟨cap,pg⟩ L SH p L.length=X at *;obtain ⟨⟨xc,xl⟩,xn⟩:=X;simp only at tU hac UY ⊢;rw[<- UY];have hap:=FQ (vs:=o.bu) (f:=com+1) (t:=0) (s:=d.length) (p:=xn) (hv o (fS q1)) (Bq o (fS q1)) (by omega);have fN:=q5 (cQ o.bu ⟨com+1,0,d.length,xn⟩).1;generalize cQ o.bu ⟨com+1,0,d.length,xn⟩=AV at *;obtain ⟨av,ae⟩:=AV;simp only at hap fN ⊢;(refine ay.gu 60 (by simp only[seval,go_sem];rfl) (by simp only[seval,go_sem];rfl) ?_)
     ((repeat'(first|(with_reducible exact jt)|(with_reducible refine aY 29 ?_;with_reducible apply ay.pR;refine ay.bU 29 mix 17 rfl (.f 0 <| .f 1 <| .f 2 <| .f 4 <| .f 5 <| .f 6 <| .f 7 <| .f 9 <| .a <| .b 3 (.a <| .b 8 (.a <| .b 10 (.a <| .b 11 (.a <| .b 12 (.f 13 <| .f 14 <| .f 15 <| .a <| .b 16 (.d) .e) .e) .e) <| .b 11 (.a <| .b 10 (.a <| .b 12 (.f 13 <| .f 14 <| .f 15 <| .a <| .b 16 (.d) .e) .e) .e) .e) <| .b 11 (.a <| .b 8 (.a <| .b 10 (.a <| .b 12 (.f 13 <| .f 14 <| .f 15 <| .a <| .b 16 (.d) .e) .e) .e) .e) .e) <| .b 8 (.a <| .b 3 (.a <| .b 10 (.a <| .b 11 (.a <| .b 12 (.f 13 <| .f 14 <| .f 15 <| .a <| .b 16 (.d) .e) .e) .e) <| .b 11 (.a <| .b 10 (.a <| .b 12 (.f 13 <| .f 14 <| .f 15 <| .a <| .b 16 (.d) .e) .e) .e) .e) <| .b 10 (.a <| .b 3 (.a <| .b 11 (.a <| .b 12 (.f 13 <| .f 14 <| .f 15 <| .a <| .b 16 (.d) .e) .e) .e) <| .b 11 (.a <| .b 3 (.a <| .b 12 (.f 13 <| .f 14 <| .f 15 <| .a <| .b 16 (.d) .e) .e) <| .b 12 (.f 13 <| .f 14 <| .f 15 <| .a <| .b 3 (.a <| .b 16 (.d) .e) .e) .e) .e) <| .b 11 (.a <| .b 3 (.a <| .b 10 (.a <| .b 12 (.f 13 <| .f 14 <| .f 15 <| .a <| .b 16 (.d) .e) .e) .e) <| .b 10 (.a <| .b 3 (.a <| .b 12 (.f 13 <| .f 14 <| .f 15 <| .a <| .b 16 (.d) .e) .e) <| .b 12 (.f 13 <| .f 14 <| .f 15 <| .a <| .b 3 (.a <| .b 16 (.d) .e) .e) .e) .e) .e) <| .b 11 (.a <| .b 3 (.a <| .b 8 (.a <| .b 10 (.a <| .b 12 (.f 13 <| .f 14 <| .f 15 <| .a <| .b 16 (.d) .e) .e) .e) .e) <| .b 8 (.a <| .b 3 (.a <| .b 10 (.a <| .b 12 (.f 13 <| .f 14 <| .f 15 <| .a <| .b 16 (.d) .e) .e) .e) <| .b 10 (.a <| .b 3 (.a <| .b 12 (.f 13 <| .f 14 <| .f 15 <| .a <| .b 16 (.d) .e) .e) <| .b 12 (.f 13 <| .f 14 <| .f 15 <| .a <| .b 3 (.a <| .b 16 (.d) .e) .e) .e) .e) .e) .e) (by kernel_rfl) ?_)|(with_reducible refine cA ?_;first|refine aJ.D ?_|refine aJ.Fn (by simp only[seval,go_sem,eg,dJ];rfl) (by first|(simp only[seval,go_sem,q4,fN];with_reducible rfl)) ?_|refine aJ.F (by simp only[seval,go_sem,eg,dJ];rfl) (by first|(simp only[seval,go_sem,q4,fN])) (by first|(simp only[seval,go_sem,q4,fN];with_reducible rfl)) ?_|refine aJ.A ?_)|(with_reducible first|exact aI.E|refine aI.B (by simp only[seval,go_sem,eg,dJ];rfl) ?_ ?_)|simp only[seval,go_sem,q4,fN]|((with_reducible refine bJ ?_);refine aq.c (hap) ?_)|((with_reducible refine au ?_);first|((with_reducible first|refine ah.step (by simp only[seval,go_sem,q4,fN];rfl) ?_);refine dI (st:=[]) ?_)|(with_reducible refine aD (st:=[]) ?_)|(with_reducible refine gA ?_;with_reducible refine ah.lookup (by simp only[seval,go_sem,q4,fN]) (by simp only[seval,go_sem,q4,fN];rfl) (by simp only[seval,go_sem,q4,fN];rfl) (by simp only[seval,go_sem,q4,fN];rfl) (by simp only[seval,go_sem,q4,fN];rfl) (by simp only[seval,go_sem,q4,fN];rfl) (by simp only[seval,go_sem,q4,fN];rfl) (by simp only[seval,go_sem,q4,fN];rfl) (by simp only[seval,go_sem,q4,fN];rfl) (by simp only[seval,go_sem,q4,fN]) (by simp only[seval,go_sem,q4,fN];rfl) (by simp only[seval,go_sem,q4,fN];rfl) ?_;refine dI (st:=[]) ?_)|(with_reducible refine kS ?_;with_reducible refine ah.mapUpdate (by simp only[seval,go_sem,q4,fN]) (by simp only[seval,go_sem,q4,fN];rfl) (by simp only[seval,go_sem,q4,fN];rfl) (by simp only[seval,go_sem,q4,fN];rfl) (by simp only[seval,go_sem,q4,fN];rfl) (by simp only[seval,go_sem,q4,fN];rfl) (by simp only[seval,go_sem,q4,fN];rfl) (by simp only[seval,go_sem,q4,fN];rfl) (by simp only[seval,go_sem,q4,fN]) (by simp only[seval,go_sem,q4,fN];rfl) (by simp only[seval,go_sem,q4,fN]) (by simp only[seval,go_sem,q4,fN];rfl) ?_;refine dI (st:=[]) ?_))|(with_reducible first|refine aV (st:=[]) ?_|refine ai (by simp(disch:=omega)only[seval,go_sem,cI,q4,fN];rfl) ?_))))
     all_goals done
end Go.Proofs.YteemiclhnfkekaaGreat
