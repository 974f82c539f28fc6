/- The program's arena walked: Dump. -/
import Derived.Test.YteemiclhnfkekaaGreatZStS
import Derived.Test.YteemiclhnfkekaaGreatZSrI
set_option linter.unusedSimpArgs false
set_option linter.unusedVariables false
namespace Go.Proofs.YteemiclhnfkekaaGreat
open Go.RowKit Go.eB
def YL (l:List Pg) (bn:List Nat) (b:Nat):Int:=((l[bn.idxOf b]?).map (·.num)).getD 0
end Go.Proofs.YteemiclhnfkekaaGreat
namespace Go.Proofs.YteemiclhnfkekaaGreat
open Go.RowKit Go.eB Go.ChangeShapes Go.WideShapes Go.ChangeAt
end Go.Proofs.YteemiclhnfkekaaGreat
set_option maxRecDepth 100000
set_option maxHeartbeats 6400000
namespace Go.Proofs.YteemiclhnfkekaaGreat
open Go.RowKit Go.eB
theorem wH {a1 a2 a3 a4 a5 a6 a7 com last cap:Int} {os:List Ob} {bs:List Bd} {ps:List Pn} {pg:List Pg} (hb:bs.length<=100000) (hp:ps.length<=100000):ak Tryz.prog 54 [.agg [i6 a1,i6 a2,i6 a3,i6 a4,i6 a5,i6 a6,i6 a7,i6 com,i6 last,.sl 2 (os.map aK),.sl 4 (bs.map ag),.sl 2 (ps.map aW),i6 cap,.sl 3 (pg.map bt)]] (.cT [.agg (eS (kr ⟨⟨a1,a2,a3,a4,a5,a6,a7⟩,com,last,os,bs,ps,⟨cap,pg⟩⟩).1),i6 (kr ⟨⟨a1,a2,a3,a4,a5,a6,a7⟩,com,last,os,bs,ps,⟨cap,pg⟩⟩).2]) []:=by
 have VK:=Bo (l:=bs) (p:=ps) hb hp;have pS:(ga ps bs).length<=bs.length:=Vk _ _;simp only[kr,eS];generalize ga ps bs=X at *;refine bR [] [1,2,10] [.cell 2 33, .tmp 3] Tryz.func54 (by kernel_rfl) Tryz.ntmps54 rfl rfl rfl ⟨rfl,rfl⟩ (by simp(disch:=omega)only[seval,go_sem,cI,List.replicate,l_2,l_1];rfl) ?_;((repeat'(first|simp only[seval,go_sem]|((with_reducible refine bJ ?_);refine aq.c (VK) ?_)|(with_reducible first|refine aD (st:=[]) ?_|refine aV (st:=[]) ?_|refine ai (by simp(disch:=omega)only[seval,go_sem,cI];rfl) ?_))))
def jL (s:Sr) (c:Int):List ByteArray×Int:=if eG s c≠0 then ([],eG s c) else (iV c s.binds [],0)
theorem Bp {a1 a2 a3 a4 a5 a6 a7 com last cap:Int} {os:List Ob} {bs:List Bd} {ps:List Pn} {pg:List Pg} {c:Int} (hb:bs.length<=100000) (hp:ps.length<=100000):ak Tryz.prog 16 [.agg [i6 a1,i6 a2,i6 a3,i6 a4,i6 a5,i6 a6,i6 a7,i6 com,i6 last,.sl 2 (os.map aK),.sl 4 (bs.map ag),.sl 2 (ps.map aW),i6 cap,.sl 3 (pg.map bt)],i6 c] (.cT [.sl 1 ((jL ⟨⟨a1,a2,a3,a4,a5,a6,a7⟩,com,last,os,bs,ps,⟨cap,pg⟩⟩ c).1.map eE),i6 (jL ⟨⟨a1,a2,a3,a4,a5,a6,a7⟩,com,last,os,bs,ps,⟨cap,pg⟩⟩ c).2]) []:=by
 have vL:=nZ (a1:=a1) (a2:=a2) (a3:=a3) (a4:=a4) (a5:=a5) (a6:=a6) (a7:=a7) (com:=com) (last:=last) (cap:=cap) (os:=os) (bs:=bs) (ps:=ps) (pg:=pg) (c:=c) hp;have vM:=uW (l:=bs) (c:=c) hb;by_cases h1:eG ⟨⟨a1,a2,a3,a4,a5,a6,a7⟩,com,last,os,bs,ps,⟨cap,pg⟩⟩ c=0
 focus
  have e:jL ⟨⟨a1,a2,a3,a4,a5,a6,a7⟩,com,last,os,bs,ps,⟨cap,pg⟩⟩ c=(iV c bs [],0):=by rw[jL,aE (by simp[h1])]
  rw[e];simp only;rw[h1] at vL;generalize iV c bs []=X at *;have hZ:=ek 0
 rotate_left 1
 focus
  have e:jL ⟨⟨a1,a2,a3,a4,a5,a6,a7⟩,com,last,os,bs,ps,⟨cap,pg⟩⟩ c=([],eG ⟨⟨a1,a2,a3,a4,a5,a6,a7⟩,com,last,os,bs,ps,⟨cap,pg⟩⟩ c):=by rw[jL,bC h1]
  rw[e];simp only[eN];generalize eG ⟨⟨a1,a2,a3,a4,a5,a6,a7⟩,com,last,os,bs,ps,⟨cap,pg⟩⟩ c=E at *;have hZ:=h1
 rotate_left 1;all_goals(refine bR [] [2,9,16] [.tmp 4, .tmp 5] Tryz.func16 (by kernel_rfl) Tryz.ntmps16 rfl rfl rfl ⟨rfl,rfl⟩ (by simp(disch:=omega)only[seval,go_sem,cI,List.replicate,l_2,l_1];rfl) ?_)
 all_goals((repeat'(first|simp only[seval,go_sem,hZ]|((with_reducible refine bJ ?_);first|refine aq.c (vL) ?_|refine aq.c (vM) ?_)|(with_reducible first|refine aD (st:=[]) ?_|refine aV (st:=[]) ?_|refine ai (by simp(disch:=omega)only[seval,go_sem,cI,hZ];rfl) ?_))))
def dy (s:Sr) (n:ByteArray) (c:Int):Int×Int×Int:=if eG s c≠0 then (0,0,eG s c) else if (fO s n c).2.2=false then (0,0,8) else ((dm s.objs (fO s n c).1).id,(fO s n c).2.1.from_,0)
theorem wI {a1 a2 a3 a4 a5 a6 a7 com last cap:Int} {os:List Ob} {bs:List Bd} {ps:List Pn} {pg:List Pg} {n:ByteArray} {c:Int} (hb:bs.length<=100000) (ho:os.length<=100000) (hv:∀ o∈os,o.bu.length<=100000) (hp:ps.length<=100000):ak Tryz.prog 20 [.agg [i6 a1,i6 a2,i6 a3,i6 a4,i6 a5,i6 a6,i6 a7,i6 com,i6 last,.sl 2 (os.map aK),.sl 4 (bs.map ag),.sl 2 (ps.map aW),i6 cap,.sl 3 (pg.map bt)],.sc (.string n),i6 c] (.cT [i6 (dy ⟨⟨a1,a2,a3,a4,a5,a6,a7⟩,com,last,os,bs,ps,⟨cap,pg⟩⟩ n c).1,i6 (dy ⟨⟨a1,a2,a3,a4,a5,a6,a7⟩,com,last,os,bs,ps,⟨cap,pg⟩⟩ n c).2.1,i6 (dy ⟨⟨a1,a2,a3,a4,a5,a6,a7⟩,com,last,os,bs,ps,⟨cap,pg⟩⟩ n c).2.2]) []:=by
 have vL:=nZ (a1:=a1) (a2:=a2) (a3:=a3) (a4:=a4) (a5:=a5) (a6:=a6) (a7:=a7) (com:=com) (last:=last) (cap:=cap) (os:=os) (bs:=bs) (ps:=ps) (pg:=pg) (c:=c) hp;have GR:=n8 (a1:=a1) (a2:=a2) (a3:=a3) (a4:=a4) (a5:=a5) (a6:=a6) (a7:=a7) (com:=com) (last:=last) (cap:=cap) (os:=os) (bs:=bs) (ps:=ps) (pg:=pg) (n:=n) (c:=c) hb ho hv;by_cases h1:eG ⟨⟨a1,a2,a3,a4,a5,a6,a7⟩,com,last,os,bs,ps,⟨cap,pg⟩⟩ c=0
 ·rw[h1] at vL;rcases gK ⟨⟨a1,a2,a3,a4,a5,a6,a7⟩,com,last,os,bs,ps,⟨cap,pg⟩⟩ n c with ⟨e,_⟩|⟨j,k,o,v,_,q1,q2,q3,q4,q5,q6,e⟩
  ·have e2:dy ⟨⟨a1,a2,a3,a4,a5,a6,a7⟩,com,last,os,bs,ps,⟨cap,pg⟩⟩ n c=(0,0,8):=by rw[dy,aE (by simp[h1]),e,bC rfl]
   rw[e2];rw[e] at GR;simp only[aL,zeroV,eN] at GR ⊢;refine dL [] [3,11,15,23] Tryz.func20 (by kernel_rfl) Tryz.ntmps20 rfl rfl ⟨rfl,rfl⟩ (by simp(disch:=omega)only[seval,go_sem,cI,List.replicate,l_2,l_1];rfl) ?_
   ((repeat'(first|simp only[seval,go_sem]|((with_reducible refine bJ ?_);first|refine aq.c (vL) ?_|refine aq.c (GR) ?_)|(with_reducible refine aD (st:=[]) ?_)|(with_reducible refine aB ?_;refine fl (rs:=[.tmp 6,.tmp 7,.tmp 8]) (by with_unfolding_all rfl) rfl ?_<;>simp only[seval,go_sem]<;>(repeat'(with_reducible apply And.intro))<;>(try rfl))|(with_reducible first|refine aV (st:=[]) ?_|refine ai (by simp(disch:=omega)only[seval,go_sem,cI];rfl) ?_))))
  ·have e2:dy ⟨⟨a1,a2,a3,a4,a5,a6,a7⟩,com,last,os,bs,ps,⟨cap,pg⟩⟩ n c=(o.id,v.from_,0):=by
    rw[dy,aE (by simp[h1]),e,aE (by simp)];simp only at q1;simp only[dm,Int.toNat_natCast,q1,Option.getD_some]
   have jc:=get_map aK q1;rw[e2];rw[e] at GR;simp only[aL] at GR ⊢;refine dL [] [3,11,15,23] Tryz.func20 (by kernel_rfl) Tryz.ntmps20 rfl rfl ⟨rfl,rfl⟩ (by simp(disch:=omega)only[seval,go_sem,cI,List.replicate,l_2,l_1];rfl) ?_
   ((repeat'(first|simp only[seval,go_sem,jc,aK]|((with_reducible refine bJ ?_);first|refine aq.c (vL) ?_|refine aq.c (GR) ?_)|(with_reducible refine aD (st:=[]) ?_)|(with_reducible refine br ?_;refine dX mix (by kernel_rfl) ?_)|(with_reducible refine aB ?_;refine fl (rs:=[.tmp 6,.tmp 7,.tmp 8]) (by with_unfolding_all rfl) rfl ?_<;>simp only[seval,go_sem]<;>(repeat'(with_reducible apply And.intro))<;>(try rfl))|(with_reducible first|refine aV (st:=[]) ?_|refine dO (by simp(disch:=omega)only[seval,go_sem,cI,jc,aK];rfl) ?_|refine ai (by simp(disch:=omega)only[seval,go_sem,cI,jc,aK];rfl) ?_))))
 ·have e2:dy ⟨⟨a1,a2,a3,a4,a5,a6,a7⟩,com,last,os,bs,ps,⟨cap,pg⟩⟩ n c=(0,0,eG ⟨⟨a1,a2,a3,a4,a5,a6,a7⟩,com,last,os,bs,ps,⟨cap,pg⟩⟩ c):=by rw[dy,bC h1]
  rw[e2];simp only;generalize eG ⟨⟨a1,a2,a3,a4,a5,a6,a7⟩,com,last,os,bs,ps,⟨cap,pg⟩⟩ c=E at *;refine dL [] [3,11,15,23] Tryz.func20 (by kernel_rfl) Tryz.ntmps20 rfl rfl ⟨rfl,rfl⟩ (by simp(disch:=omega)only[seval,go_sem,cI,List.replicate,l_2,l_1];rfl) ?_
  ((repeat'(first|simp only[seval,go_sem,h1]|((with_reducible refine bJ ?_);refine aq.c (vL) ?_)|(with_reducible refine aD (st:=[]) ?_)|(with_reducible refine aB ?_;refine fl (rs:=[.tmp 6,.tmp 7,.tmp 8]) (by with_unfolding_all rfl) rfl ?_<;>simp only[seval,go_sem]<;>(repeat'(with_reducible apply And.intro))<;>(try rfl))|(with_reducible first|refine aV (st:=[]) ?_|refine ai (by simp(disch:=omega)only[seval,go_sem,cI,h1];rfl) ?_))))
theorem Cu {l:List (List Int)} (hl:l.length<=1000) (hx:∀ x∈l,x.length<=2000):ak Tryz.prog 63 [.sl 1 (l.map bP)] (.sl 1 ((qT l).map cF)) []:=by
 have hfl:∀ i,((l.take i).flatten).length<=2000*i:=by
  intro i
  induction i with
  | zero=>simp
  | succ i ih=>
    by_cases hi:i<l.length
    ·obtain ⟨x,HX⟩:=aZ hi;have:=hx x (fS HX);rw[HY,HX];simp only[Option.toList_some,Pd,bW,List.flatten_cons,List.flatten_nil,yM];omega
    ·rw[lu (by omega)] at ih ⊢;omega
 refine dL [] [16,60] Tryz.func63 (by kernel_rfl) Tryz.ntmps63 rfl rfl ⟨rfl,rfl⟩ (by simp(disch:=omega)only[seval,go_sem,cI,List.replicate,l_2,l_1];rfl) ?_;((repeat'(first|simp only[seval,go_sem]|(with_reducible refine aV (st:=[]) ?_))));all_goals(refine ay.fT 3 60 1 (by first|(simp only[seval,go_sem])) (by first|(simp only[seval,go_sem])) (by simp only[seval,go_sem];rfl) ?_)
 all_goals(with_reducible refine ay.cX (fun (i:Nat)=>[(4,i6 i),(3,.cW 60 1 0 ((l.take i).flatten).length)]++aN 5 12) (fun (i:Nat)=>[(60,.row 1 (((l.take i).flatten).map cF)),(16,.dead)]) (fun (i:Nat)=>i<=l.length) (fun (i:Nat)=>l.length-i) (0) (ek _) (by intro _;simp(disch:=omega)only[seval,go_sem,cI];rfl) (by simp only[seval,go_sem]) (fun i hI=>?_))
 all_goals
  have nW:=hfl i;by_cases hlt:i<l.length
  ·obtain ⟨x,HX⟩:=aZ hlt;have hx':=get_map bP HX;have pP:=hx x (fS HX);have fm:(l.take (i+1)).flatten=(l.take i).flatten++x:=by rw[HY,HX];simp
   have dM:(((l.take i).flatten).map cF).length=((l.take i).flatten).length:=dD _;generalize (l.take i).flatten=F at *;((repeat'(first|simp only[seval,go_sem,bP,hx',dM]|(with_reducible first|refine aV (st:=[]) ?_|refine ai (by simp(disch:=omega)only[seval,go_sem,cI,bP,hx',dM];rfl) ?_))));all_goals(try((refine kN (i+1) (cZ.wJ 16 60 (by decide) (by first|(simp only[seval,go_sem])) (by simp only[seval,go_sem];rfl) (cZ.Bn (by simp only[seval,go_sem,fm,vN,bW];first|((repeat'(with_reducible apply And.intro))<;>first|rfl)))) ?_ ?_)<;>(try(omega))))
   all_goals done
  ·have e:l.take i=l:=lu (by omega);rw[e] at nW ⊢;have fm:((l.flatten).map cF).take l.flatten.length=(l.flatten).map cF:=lu (by rw[dD];exact iU _);have dM:((l.flatten).map cF).length=l.flatten.length:=dD _;unfold qT;generalize l.flatten=F at *
   ((repeat'(first|simp only[seval,go_sem,dM,fm]|(with_reducible refine aB ?_;(refine aC.gu 60 (by simp only[seval,go_sem];rfl) (by simp only[seval,go_sem,dM,fm];rfl) ?_);(with_reducible refine aB ?_;refine aC.q rfl rfl (by simp only[seval,go_sem];rfl) (by decide) (by simp only[seval,go_sem];rfl) (by simp only[seval,go_sem];rfl) rfl ?_<;>(try simp only[seval,go_sem,dM,fm])<;>(repeat'(with_reducible apply And.intro))<;>(try rfl)))|(with_reducible first|refine aV (st:=[]) ?_|refine ai (by simp(disch:=omega)only[seval,go_sem,cI,dM,fm];rfl) ?_))))
   all_goals done
def iW (s:Sr) (n:ByteArray) (c:Int):List Int×Int:=if eG s c≠0 then ([],eG s c) else if (fO s n c).2.2=false then ([],8) else (qT (bg s.ar (fO s n c).2.1.pages),0)
theorem Cw {a1 a2 a3 a4 a5 a6 a7 com last cap:Int} {os:List Ob} {bs:List Bd} {ps:List Pn} {pg:List Pg} {n:ByteArray} {c:Int} (hb:bs.length<=100000) (ho:os.length<=100000) (hv:∀ o∈os,o.bu.length<=100000/\∀ v∈o.bu,v.pages.length<=1000) (hp:ps.length<=100000) (hg:pg.length<=100000) (hd:∀ x∈pg,x.data.length<=1024):ak Tryz.prog 18 [.agg [i6 a1,i6 a2,i6 a3,i6 a4,i6 a5,i6 a6,i6 a7,i6 com,i6 last,.sl 2 (os.map aK),.sl 4 (bs.map ag),.sl 2 (ps.map aW),i6 cap,.sl 3 (pg.map bt)],.sc (.string n),i6 c] (.cT [.sl 1 ((iW ⟨⟨a1,a2,a3,a4,a5,a6,a7⟩,com,last,os,bs,ps,⟨cap,pg⟩⟩ n c).1.map cF),i6 (iW ⟨⟨a1,a2,a3,a4,a5,a6,a7⟩,com,last,os,bs,ps,⟨cap,pg⟩⟩ n c).2]) []:=by
 have vL:=nZ (a1:=a1) (a2:=a2) (a3:=a3) (a4:=a4) (a5:=a5) (a6:=a6) (a7:=a7) (com:=com) (last:=last) (cap:=cap) (os:=os) (bs:=bs) (ps:=ps) (pg:=pg) (c:=c) hp;have GR:=n8 (a1:=a1) (a2:=a2) (a3:=a3) (a4:=a4) (a5:=a5) (a6:=a6) (a7:=a7) (com:=com) (last:=last) (cap:=cap) (os:=os) (bs:=bs) (ps:=ps) (pg:=pg) (n:=n) (c:=c) hb ho (fun o h=>(hv o h).1)
 have hdl:∀ n,(eH ⟨cap,pg⟩ n).1.length<=1024:=fun m=>by
  rcases uU m pg with ⟨h1,_⟩|⟨j,p,h1,h2,h3,h4,_⟩
  ·simp[eH,h1]
  ·rw[eH,aE (by rw[h3];omega),h4];exact hd p (fS h1)
 by_cases h1:eG ⟨⟨a1,a2,a3,a4,a5,a6,a7⟩,com,last,os,bs,ps,⟨cap,pg⟩⟩ c=0
 focus
  rw[h1] at vL;rcases gK ⟨⟨a1,a2,a3,a4,a5,a6,a7⟩,com,last,os,bs,ps,⟨cap,pg⟩⟩ n c with ⟨e,_⟩|⟨j,k,o,v,_,q1,q2,q3,q4,q5,q6,e⟩
  focus
   have e2:iW ⟨⟨a1,a2,a3,a4,a5,a6,a7⟩,com,last,os,bs,ps,⟨cap,pg⟩⟩ n c=([],8):=by rw[iW,aE (by simp[h1]),e,bC rfl]
   rw[e2];rw[e] at GR;simp only[aL,zeroV,eN] at GR ⊢;have hZ:=ek 0
  rotate_left 1
  focus
   have e2:iW ⟨⟨a1,a2,a3,a4,a5,a6,a7⟩,com,last,os,bs,ps,⟨cap,pg⟩⟩ n c=(qT (bg ⟨cap,pg⟩ v.pages),0):=by
    rw[iW,aE (by simp[h1]),e,aE (by simp)]
   have Bq:=(hv o (fS q1)).2 v (fS q4);have hst:=qU (a1:=a1) (a2:=a2) (a3:=a3) (a4:=a4) (a5:=a5) (a6:=a6) (a7:=a7) (com:=com) (last:=last) (cap:=cap) (os:=os) (bs:=bs) (ps:=ps) (pg:=pg) (f:=v.from_) (t:=v.to) (z:=v.size) (vp:=v.pages) hg (fun p hp=>by have:=hd p hp;omega) (by omega)
   have VL:=Cu (l:=bg ⟨cap,pg⟩ v.pages) (by simp[bg];omega) (fun x hx=>by
    obtain ⟨m,_,rfl⟩:=qq.1 hx
    have:=hdl m;omega)
   rw[e2];rw[e] at GR;simp only[aL] at GR ⊢;generalize bg ⟨cap,pg⟩ v.pages=L at *;have hZ:=ek 0
  rotate_left 1
 rotate_left 2
 focus
  have e2:iW ⟨⟨a1,a2,a3,a4,a5,a6,a7⟩,com,last,os,bs,ps,⟨cap,pg⟩⟩ n c=([],eG ⟨⟨a1,a2,a3,a4,a5,a6,a7⟩,com,last,os,bs,ps,⟨cap,pg⟩⟩ c):=by rw[iW,bC h1]
  rw[e2];simp only[eN];generalize eG ⟨⟨a1,a2,a3,a4,a5,a6,a7⟩,com,last,os,bs,ps,⟨cap,pg⟩⟩ c=E at *;have hZ:=h1
 rotate_left 1;all_goals(refine bR [] [3,10,14,22,30,31] [.tmp 6, .tmp 7] Tryz.func18 (by kernel_rfl) Tryz.ntmps18 rfl rfl rfl ⟨rfl,rfl⟩ (by simp(disch:=omega)only[seval,go_sem,cI,List.replicate,l_2,l_1];rfl) ?_)
 all_goals((repeat'(first|simp only[seval,go_sem,hZ]|((with_reducible refine bJ ?_);first|refine aq.c (vL) ?_|refine aq.c (GR) ?_|refine aq.c (hst) ?_|refine aq.c (VL) ?_)|(with_reducible first|refine aD (st:=[]) ?_|refine aV (st:=[]) ?_|refine ai (by simp(disch:=omega)only[seval,go_sem,cI,hZ];rfl) ?_))))
theorem wK (s:Sr) (c:Int):n9 s c=jL s c:=by
 unfold n9 jL;rw[sJ]
theorem Br (s:Sr) (n:ByteArray) (c:Int):(if (er s n c).2.2=0 then (er s n c).1 else 0)=(dy s n c).1/\(if (er s n c).2.2=0 then (er s n c).2.1.from_ else 0)=(dy s n c).2.1/\(er s n c).2.2=(dy s n c).2.2:=by
 by_cases hv:eG s c=0
 ·rcases sK s n c hv with ⟨e1,e2⟩|⟨j,k,o,v,e1,e2,q0,q1,q2,q3,q4,q5⟩
  ·have ev:dy s n c=(0,0,8):=by rw[dy,aE (by simp[hv]),bC e2]
   rw[e1,ev];simp
  ·have ev:dy s n c=(o.id,v.from_,0):=by
    rw[dy,aE (by simp[hv]),e2,aE (by simp)];simp[dm,q1]
   rw[e1,ev];simp[q3]
 ·have e1:er s n c=(0,zeroV,eG s c):=by rw[er,bC hv]
  have ev:dy s n c=(0,0,eG s c):=by rw[dy,bC hv]
  rw[e1,ev];simp[hv]
theorem HZ {s:Sr} {pg:List Pg} (n:ByteArray) (c:Int) (h:tT pg s.ar):zL ⟨s.c,s.commit,s.last,s.objs,s.binds,s.pins,⟨s.ar.cap,pg⟩⟩ n c=iW s n c:=by
 have e0:er ⟨s.c,s.commit,s.last,s.objs,s.binds,s.pins,⟨s.ar.cap,pg⟩⟩ n c=er s n c:=rfl;unfold zL;rw[e0];simp only;by_cases hv:eG s c=0
 ·rcases sK s n c hv with ⟨e1,e2⟩|⟨j,k,o,v,e1,e2,q0,q1,q2,q3,q4,q5⟩
  ·have ev:iW s n c=([],8):=by rw[iW,aE (by simp[hv]),bC e2]
   rw[e1,ev];simp
  ·have ev:iW s n c=(qT (bg s.ar v.pages),0):=by rw[iW,aE (by simp[hv]),e2,aE (by simp)]
   rw[e1,ev];simp only[ne_eq,not_true_eq_false,jd];rw[wL h]
 ·have e1:er s n c=(0,zeroV,eG s c):=by rw[er,bC hv]
  have ev:iW s n c=([],eG s c):=by rw[iW,bC hv]
  rw[e1,ev];simp[hv]
end Go.Proofs.YteemiclhnfkekaaGreat
