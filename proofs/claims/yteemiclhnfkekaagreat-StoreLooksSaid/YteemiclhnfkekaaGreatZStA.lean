/- The program's store walked: Live, Commit, bound, full, pinned, visible, find, Version, Names. -/
import Derived.Test.YteemiclhnfkekaaGreatZStPg
import Derived.Test.YteemiclhnfkekaaGreatZArA
set_option linter.unusedSimpArgs false
set_option linter.unusedVariables false
set_option maxRecDepth 100000
set_option maxHeartbeats 3200000
namespace Go.Proofs.YteemiclhnfkekaaGreat
open Go.RowKit Go.eB Go.Proofs.Tryz
theorem lf {a1 a2 a3 a4 a5 a6 a7 com last cap:Int} {os:List Ob} {bs:List Bd} {ps:List Pn} {pg:List Pg}:aF prog 22 (iT 1 2 3 a1 a2 a3 a4 a5 a6 a7 com last cap os bs ps pg) [.ref 0 0] (i6 pg.length) (iT 1 2 3 a1 a2 a3 a4 a5 a6 a7 com last cap os bs ps pg):=by
 refine bR [1000,1001,1002,1003] [7] [.tmp 2] func22 (by kernel_rfl) ntmps22 rfl rfl rfl (by first|simp only[seval,go_sem,lH]) (by simp(disch:=omega)only[seval,go_sem,cI,List.replicate,l_2,l_1];rfl) ?_;((repeat'(first|simp only[seval,go_sem]|((with_reducible refine au ?_);((with_reducible refine cq (st:=[]) 1 ?_);simp only[seval,go_sem];refine b8.c (Cp) ?_))|(with_reducible refine aV (st:=[]) ?_))))
theorem zB {a1 a2 a3 a4 a5 a6 a7 com last cap:Int} {os:List Ob} {bs:List Bd} {ps:List Pn} {pg:List Pg}:aF prog 21 (iT 1 2 3 a1 a2 a3 a4 a5 a6 a7 com last cap os bs ps pg) [.ref 0 0] (i6 com) (iT 1 2 3 a1 a2 a3 a4 a5 a6 a7 com last cap os bs ps pg):=by
 refine bR [1000,1001,1002,1003] [] [.tmp 2] func21 (by kernel_rfl) ntmps21 rfl rfl rfl (by first|simp only[seval,go_sem,lH]) (by simp(disch:=omega)only[seval,go_sem,cI,List.replicate,l_2,l_1];rfl) ?_;((repeat'(first|simp only[seval,go_sem]|(with_reducible refine aV (st:=[]) ?_))))
theorem iC {a1 a2 a3 a4 a5 a6 a7 com last cap:Int} {os:List Ob} {bs:List Bd} {ps:List Pn} {pg:List Pg} {n:ByteArray} (hb:bs.length<=100000):aF prog 83 (iT 1 2 3 a1 a2 a3 a4 a5 a6 a7 com last cap os bs ps pg) [.ref 0 0,.sc (.string n)] (.sc (.bool (fM ⟨⟨a1,a2,a3,a4,a5,a6,a7⟩,com,last,os,bs,ps,⟨cap,pg⟩⟩ n))) (iT 1 2 3 a1 a2 a3 a4 a5 a6 a7 com last cap os bs ps pg):=by
 unfold fM;refine bR [1000,1001,1002,1003] [17] [.tmp 4] func83 (by kernel_rfl) ntmps83 rfl rfl rfl (by first|simp only[seval,go_sem,lH]) (by simp(disch:=omega)only[seval,go_sem,cI,List.replicate,l_2,l_1];rfl) ?_;((repeat'(first|simp only[seval,go_sem]|(with_reducible refine br ?_;refine dX mix (by kernel_rfl) ?_)|(with_reducible refine gQ ?_)|((with_reducible refine nB ?_);refine fP.c (mA ?_) ?_)|(with_reducible refine aV (st:=[]) ?_)))<;>(try((with_reducible assumption))))
theorem gH {a1 a2 a3 a4 a5 a6 a7 com last cap:Int} {os:List Ob} {bs:List Bd} {ps:List Pn} {pg:List Pg}:aF prog 84 (iT 1 2 3 a1 a2 a3 a4 a5 a6 a7 com last cap os bs ps pg) [.ref 0 0] (.sc (.bool (decide (a6<=com)))) (iT 1 2 3 a1 a2 a3 a4 a5 a6 a7 com last cap os bs ps pg):=by
 refine bR [1000,1001,1002,1003] [] [.tmp 2] func84 (by kernel_rfl) ntmps84 rfl rfl rfl (by first|simp only[seval,go_sem,lH]) (by simp(disch:=omega)only[seval,go_sem,cI,List.replicate,l_2,l_1];rfl) ?_;((repeat'(first|simp only[seval,go_sem]|(with_reducible refine br ?_;refine dX mix (by kernel_rfl) ?_)|(with_reducible first|refine aV (st:=[]) ?_|refine dO (by simp(disch:=omega)only[seval,go_sem,cI];rfl) ?_))))
def vB (c:Int):List Pn->Nat->Int
 | [],_=> -1
 | p::l,k=>if p.commit=c then (k:Int) else vB c l (k+1)
theorem A6 (c:Int):∀ (l:List Pn) (k:Nat),decide (0<=vB c l k)=fz l c
 | [],_=>rfl
 | p::l,k=>by
   rw[vB,fz,List.any_cons];by_cases h:p.commit=c
   ·simp[h]
   ·have:=A6 c l (k+1);simp only[h,jd,this,fz];simp[h]
theorem Gf {p:Pn} {c:Int}:ak prog 166 [.agg (aW p), .ro [i6 c]] (.sc (.bool (decide (p.commit=c)))) []:=by
 simp only[aW];refine bR [] [2] [.tmp 3] func166 (by kernel_rfl) ntmps166 rfl rfl rfl ⟨rfl,rfl⟩ (by simp(disch:=omega)only[seval,go_sem,cI,List.replicate,l_2,l_1];rfl) ?_;((repeat'(first|simp only[seval,go_sem]|(with_reducible refine aV (st:=[]) ?_)|(with_reducible refine ai (by simp(disch:=omega)only[seval,go_sem,cI];rfl) ?_))))
theorem Gg {l:List Pn} {c:Int} (hl:l.length<=100000):ak prog 204 [.sl 2 (l.map aW), .fn 166 [.ro [i6 c]]] (i6 (vB c l 0)) []:=by
 refine bR [] [16] [.tmp 4] func204 (by kernel_rfl) ntmps204 rfl rfl rfl ⟨rfl,rfl⟩ (by simp(disch:=omega)only[seval,go_sem,cI,List.replicate,l_2,l_1];rfl) ?_;((repeat'(first|simp only[seval,go_sem]|(with_reducible refine aV (st:=[]) ?_))));all_goals(with_reducible refine ay.cX (fun (k:Nat)=>[(8,i6 k),(4,.any),(5,.any)]++aN 9 10) (fun (k:Nat)=>[(16,.dead)]) (fun (k:Nat)=>k<=l.length/\vB c (l.drop k) k=vB c l 0) (fun (k:Nat)=>l.length-k) (0) (⟨ek _,rfl⟩) (by intro _;simp(disch:=omega)only[seval,go_sem,cI];rfl) (by simp only[seval,go_sem]) (fun k hI=>?_))
 all_goals
  obtain ⟨hk,hf⟩:=hI;by_cases hlt:k<l.length
  ·obtain ⟨b,hb⟩:=aZ hlt;have hb':=get_map aW hb;have hc1:=Gf (p:=b) (c:=c);simp only[aW] at hc1;rw[aH hb,vB] at hf;by_cases hp:b.commit=c
   ·rw[bC hp] at hf;rw[<- hf];rw[GX hp] at hc1;((repeat'(first|simp only[seval,go_sem,hb',aW]|((with_reducible refine bJ ?_);refine aq.c (hc1) ?_)|(with_reducible first|refine aD (st:=[]) ?_|refine aV (st:=[]) ?_|refine ai (by simp(disch:=omega)only[seval,go_sem,cI,hb',aW];rfl) ?_))))
   ·rw[aE hp] at hf;rw[Ii hp] at hc1;((repeat'(first|simp only[seval,go_sem,hb',aW]|((with_reducible refine bJ ?_);refine aq.c (hc1) ?_)|(with_reducible first|refine aD (st:=[]) ?_|refine aV (st:=[]) ?_|refine ai (by simp(disch:=omega)only[seval,go_sem,cI,hb',aW];rfl) ?_))));all_goals(try(refine aP (k+1) (by simp only[seval,go_sem];first|((repeat'(with_reducible apply And.intro))<;>first|rfl)) ?_ ?_<;>(try(omega))))
    all_goals(try(exact ⟨by omega,hf⟩))
  ·rw[j9 (by omega),vB] at hf;rw[<- hf];((repeat'(first|simp only[seval,go_sem]|(with_reducible refine aV (st:=[]) ?_)|(with_reducible refine ai (by simp(disch:=omega)only[seval,go_sem,cI];rfl) ?_))))
theorem Gh {l:List Pn} {c:Int} (hl:l.length<=100000):ak prog 165 [.sl 2 (l.map aW), .fn 166 [.ro [i6 c]]] (.sc (.bool (fz l c))) []:=by
 have zv:=Gg (l:=l) (c:=c) hl;rw[<- A6 c l 0];refine bR [] [7] [.tmp 4] func165 (by kernel_rfl) ntmps165 rfl rfl rfl ⟨rfl,rfl⟩ (by simp(disch:=omega)only[seval,go_sem,cI,List.replicate,l_2,l_1];rfl) ?_;((repeat'(first|simp only[seval,go_sem]|((with_reducible refine bJ ?_);refine aq.c (zv) ?_)|(with_reducible first|refine aD (st:=[]) ?_|refine aV (st:=[]) ?_|refine ai (by simp(disch:=omega)only[seval,go_sem,cI];rfl) ?_))))
theorem zC {a1 a2 a3 a4 a5 a6 a7 com last cap:Int} {os:List Ob} {bs:List Bd} {ps:List Pn} {pg:List Pg} {c:Int} (hp:ps.length<=100000):aF prog 104 (iT 1 2 3 a1 a2 a3 a4 a5 a6 a7 com last cap os bs ps pg) [.ref 0 0,i6 c] (.sc (.bool (fz ps c))) (iT 1 2 3 a1 a2 a3 a4 a5 a6 a7 com last cap os bs ps pg):=by
 refine bR [1000,1001,1002,1003] [3,10] [.tmp 4] func104 (by kernel_rfl) ntmps104 rfl rfl rfl (by first|simp only[seval,go_sem,lH]) (by simp(disch:=omega)only[seval,go_sem,cI,List.replicate,l_2,l_1];rfl) ?_;((repeat'(first|simp only[seval,go_sem]|((with_reducible refine bJ ?_);refine aq.c (Gh ?_) ?_)|(with_reducible refine aD (st:=[]) ?_)|(with_reducible refine aV (st:=[]) ?_)))<;>(try((with_reducible assumption))))
theorem Gi (s:Sr) (c:Int):(c<0/\eG s c=5)\/(0<=c/\s.commit<c/\eG s c=5)\/(0<=c/\c<s.commit/\fz s.pins c=false/\eG s c=17)\/(0<=c/\c<s.commit/\fz s.pins c=true/\eG s c=0)\/(0<=c/\c=s.commit/\eG s c=0):=by
 unfold eG;by_cases h1:0<=c
 ·by_cases h2:c<=s.commit
  ·have hr:mO c 0 s.commit=true:=by simp[mO];omega
   rw[aE (by simp[hr])];by_cases h3:c=s.commit
   ·exact .inr (.inr (.inr (.inr ⟨h1,h3,aE (fun h=>h.1 h3)⟩)))
   ·cases h4:fz s.pins c
    ·exact .inr (.inr (.inl ⟨h1,by omega,rfl,bC ⟨h3,rfl⟩⟩))
    ·exact .inr (.inr (.inr (.inl ⟨h1,by omega,rfl,aE (fun h=>by cases h.2)⟩)))
  ·have hr:mO c 0 s.commit=false:=by simp[mO];omega
   exact .inr (.inl ⟨h1,by omega,bC hr⟩)
 ·have hr:mO c 0 s.commit=false:=by simp[mO];omega
  exact .inl ⟨by omega,bC hr⟩
theorem sv {a1 a2 a3 a4 a5 a6 a7 com last cap:Int} {os:List Ob} {bs:List Bd} {ps:List Pn} {pg:List Pg} {c:Int} (hp:ps.length<=100000):aF prog 43 (iT 1 2 3 a1 a2 a3 a4 a5 a6 a7 com last cap os bs ps pg) [.ref 0 0,i6 c] (i6 (eG ⟨⟨a1,a2,a3,a4,a5,a6,a7⟩,com,last,os,bs,ps,⟨cap,pg⟩⟩ c)) (iT 1 2 3 a1 a2 a3 a4 a5 a6 a7 com last cap os bs ps pg):=by
 have hpc:=zC (a1:=a1) (a2:=a2) (a3:=a3) (a4:=a4) (a5:=a5) (a6:=a6) (a7:=a7) (com:=com) (last:=last) (cap:=cap) (os:=os) (bs:=bs) (ps:=ps) (pg:=pg) (c:=c) hp;rcases Gi ⟨⟨a1,a2,a3,a4,a5,a6,a7⟩,com,last,os,bs,ps,⟨cap,pg⟩⟩ c with ⟨h1,e⟩|⟨h1,h2,e⟩|⟨h1,h2,h3,e⟩|⟨h1,h2,h3,e⟩|⟨h1,h2,e⟩
 all_goals(try simp only at *)
 all_goals rw[e]
 focus
  have hZ:=h1
 rotate_left 1
 focus
  have hZ:=(And.intro h1 h2)
 rotate_left 1
 focus
  rw[h3] at hpc;have hZ:=(And.intro h1 h2)
 rotate_left 1
 focus
  rw[h3] at hpc;have hZ:=(And.intro h1 h2)
 rotate_left 1
 focus
  subst h2;have hZ:=h1
 rotate_left 1;all_goals(refine bR [1000,1001,1002,1003] [24] [.tmp 4] func43 (by kernel_rfl) ntmps43 rfl rfl rfl (by first|simp only[seval,go_sem,lH]) (by simp(disch:=omega)only[seval,go_sem,cI,List.replicate,l_2,l_1];rfl) ?_)
 all_goals((repeat'(first|simp only[seval,go_sem,rH,hZ]|((with_reducible refine au ?_);((with_reducible refine cq (st:=[]) 2 ?_);simp only[seval,go_sem,rH,hZ];refine b8.c (hpc) ?_))|(with_reducible first|refine aV (st:=[]) ?_|refine ai (by simp(disch:=omega)only[seval,go_sem,cI,rH,hZ];rfl) ?_))))
end Go.Proofs.YteemiclhnfkekaaGreat
