/- Pins: the walks of the reference's AddPin and RemovePin. -/
import Derived.Test.YteemiclhnfkekaaGreatZPiA
set_option linter.unusedSimpArgs false
set_option linter.unusedVariables false
set_option maxRecDepth 100000
set_option maxHeartbeats 6400000
namespace Go.Proofs.YteemiclhnfkekaaGreat
open Go.RowKit Go.eB Go.Proofs.Tryz
theorem D7 {l:List Pn} {c:Int} (hl:l.length<=100000):ak prog 46 [.sl 2 (l.map aW),i6 c]
  (.cT [.cW 0 2 0 (kJ l c).1.length,i6 (kJ l c).2]) [.row 2 ((kJ l c).1.map aW)]:=by
 refine dL [] [11,13,65,66,73,74,80,81] func46 (by kernel_rfl) ntmps46 rfl rfl ⟨rfl,rfl⟩ (by simp(disch:=omega)only[seval,go_sem,cI,List.replicate,l_2,l_1];rfl) ?_;by_cases hz:dK none l=0
 ·have ok:=oJ hz;by_cases hc0:c<0
  ·((repeat'(first|simp only[seval,go_sem,hz]|((with_reducible refine bJ ?_);refine aq.c (jq ?_) ?_)|(with_reducible refine aD (st:=[]) ?_)|(with_reducible refine aB ?_;(refine aC.fT 4 81 2 (by first|(simp only[seval,go_sem])) (by first|(simp only[seval,go_sem])) (by simp only[seval,go_sem];rfl) ?_);(with_reducible refine aB ?_;refine aC.q rfl rfl (by simp only[seval,go_sem];rfl) (by decide) (by simp only[seval,go_sem];rfl) (by simp only[seval,go_sem];rfl) rfl ?_<;>(try simp only[seval,go_sem,hz])<;>(repeat'(with_reducible apply And.intro))<;>(try rfl)))|(with_reducible first|refine aV (st:=[]) ?_|refine ai (by simp(disch:=omega)only[seval,go_sem,cI,hz];rfl) ?_)))<;>(try((with_reducible assumption))))
   all_goals simp[kJ,hz,hc0]
  ·((repeat'(first|simp only[seval,go_sem,hz]|((with_reducible refine bJ ?_);refine aq.c (jq ?_) ?_)|(with_reducible first|refine aD (st:=[]) ?_|refine aV (st:=[]) ?_|refine ai (by simp(disch:=omega)only[seval,go_sem,cI,hz];rfl) ?_)))<;>(try((with_reducible assumption))))
   (with_reducible refine ay.cX (fun (k:Nat)=>[(7,i6 k),(4,.any),(5,.any)]++aN 19 21) (fun (k:Nat)=>[]) (fun (k:Nat)=>k<=l.length/\ko c (l.drop k)=ko c l) (fun (k:Nat)=>l.length-k) (0) (⟨ek _,rfl⟩) (by intro _;simp(disch:=omega)only[seval,go_sem,cI];rfl) (by simp only[seval,go_sem]) (fun k hI=>?_))
   obtain ⟨hk,hf⟩:=hI;by_cases hlt:k<l.length
   ·obtain ⟨v,hv⟩:=aZ hlt;have fL:=get_map aW hv
    ((repeat'(first|(with_reducible refine cB ?_;intro hc;(try simp only[fG,reduceCtorEq] at hc);(try(exfalso;omega)))|simp only[seval,go_sem,fL,aW]|(with_reducible refine aB ?_;(refine aC.fT 4 81 2 (by first|(simp only[seval,go_sem])) (by first|(simp only[seval,go_sem])) (by simp only[seval,go_sem];rfl) ?_);(with_reducible refine aB ?_;refine aC.q rfl rfl (by simp only[seval,go_sem];rfl) (by decide) (by simp only[seval,go_sem];rfl) (by simp only[seval,go_sem];rfl) rfl ?_<;>(try simp only[seval,go_sem,fL,aW])<;>(repeat'(with_reducible apply And.intro))<;>(try rfl)))|(with_reducible first|refine aV (st:=[]) ?_|refine ai (by simp(disch:=omega)only[seval,go_sem,cI,fL,aW];rfl) ?_|refine dV ?_|refine cN (cL ?_) (cL ?_)|refine And.intro ?_ ?_))))
    all_goals(try(refine aP (k+1) ?_ ?_ ?_<;>(first|(with_reducible refine lG ?_<;>simp only[seval,go_sem]<;>(repeat'(with_reducible apply And.intro))<;>(try rfl))|skip)<;>(try(omega))))
    all_goals(try(refine ⟨by omega,?_⟩))
    all_goals first
     | (rw[<- hf,aH hv];simp[ko, *];done)
     | (have SQ:ko c l=true:=by rw[<- hf,aH hv];simp[ko, *]
        simp[kJ,hz,hc0,SQ])
   ·have SQ:ko c l=false:=by rw[<- hf,j9 (by omega)];rfl
    have had:kJ l c=(jb c l,0):=by simp[kJ,hz,hc0,SQ]
    ((repeat'(first|simp only[seval,go_sem]|(with_reducible refine aV (st:=[]) ?_)|(with_reducible refine ai (by simp(disch:=omega)only[seval,go_sem,cI];rfl) ?_))))
    (refine ay.fT 8 74 2 (by first|(simp only[seval,go_sem])) (by first|(simp only[seval,go_sem])) (by simp only[seval,go_sem];rfl) ?_)
    (with_reducible refine ay.cX (fun (t:Nat×Bool×List Pn)=>[(10,i6 t.1),(9,.sc (.bool t.2.1)),(8,.cW 74 2 0 t.2.2.length),(11,.any)]++aN 40 35) (fun (t:Nat×Bool×List Pn)=>[(74,.row 2 (t.2.2.map aW)),(11,.dead),(65,.dead),(66,.dead),(73,.dead)]) (fun (t:Nat×Bool×List Pn)=>t.1<=l.length/\t.2.2.length<=t.1+(if t.2.1 then 1 else 0)/\t.2.2++(if t.2.1 then l.drop t.1 else jb c (l.drop t.1))=jb c l) (fun (t:Nat×Bool×List Pn)=>l.length-t.1) ((0,false,[])) (⟨ek _,by simp,rfl⟩) (by intro _;simp(disch:=omega)only[seval,go_sem,cI];rfl) (by simp only[seval,go_sem]) (fun t hI=>?_))
    obtain ⟨k2,d,out⟩:=t;obtain ⟨hk2,ho,hg⟩:=hI;simp only at hk2 ho hg;by_cases hlt2:k2<l.length
    ·obtain ⟨v,hv⟩:=aZ hlt2;have fL:=get_map aW hv;have hr:=ok.range v (fS hv);rw[aH hv] at hg;cases d
     ·simp only[jb,pT,jd] at hg ho;rcases Int.lt_trichotomy c v.commit with UU|UU|UU
      ·((repeat'(first|simp only[seval,go_sem,fL,aW,bW]|(with_reducible first|refine aV (st:=[]) ?_|refine ai (by simp(disch:=omega)only[seval,go_sem,cI,fL,aW,bW];rfl) ?_))))
       all_goals(refine aP ((k2+1,true,out++[⟨c,1⟩]++[v])) (by simp only[seval,go_sem,aW];first|((repeat'(with_reducible apply And.intro))<;>first|rfl|(simp[aW];done))) ?_ ?_<;>(try(omega)))
       all_goals(try(simp only;omega))
       all_goals(refine ⟨by simp only;omega,by simp;omega,?_⟩;simp only[jg,pT,jd,lR,List.cons_append,List.nil_append];rw[<- hg];congr 1;(repeat' split)<;>first|rfl)
      ·((repeat'(first|simp only[seval,go_sem,fL,aW,bW]|(with_reducible first|refine aV (st:=[]) ?_|refine ai (by simp(disch:=omega)only[seval,go_sem,cI,fL,aW,bW];rfl) ?_))))
       all_goals(refine aP ((k2+1,true,out++[⟨v.commit,v.count+1⟩])) (by simp only[seval,go_sem,aW];first|((repeat'(with_reducible apply And.intro))<;>first|rfl|(simp[aW];done))) ?_ ?_<;>(try(omega)))
       all_goals(try(simp only;omega))
       all_goals(refine ⟨by simp only;omega,by simp;omega,?_⟩;simp only[jg,pT,jd,lR,List.cons_append,List.nil_append];rw[<- hg];congr 1;(repeat' split)<;>first|rfl|omega)
      ·((repeat'(first|simp only[seval,go_sem,fL,aW,bW]|(with_reducible first|refine aV (st:=[]) ?_|refine ai (by simp(disch:=omega)only[seval,go_sem,cI,fL,aW,bW];rfl) ?_))))
       all_goals(refine aP ((k2+1,false,out++[v])) (by simp only[seval,go_sem,aW];first|((repeat'(with_reducible apply And.intro))<;>first|rfl|(simp[aW];done))) ?_ ?_<;>(try(omega)))
       all_goals(try(simp only;omega))
       all_goals(refine ⟨by simp only;omega,by simp;omega,?_⟩;simp only[jg,pT,jd,lR,List.cons_append,List.nil_append];rw[<- hg];congr 1;(repeat' split)<;>first|rfl|omega)
     ·simp only[jg] at ho;((repeat'(first|simp only[seval,go_sem,fL,aW,bW]|(with_reducible first|refine aV (st:=[]) ?_|refine ai (by simp(disch:=omega)only[seval,go_sem,cI,fL,aW,bW];rfl) ?_))));all_goals(refine aP ((k2+1,true,out++[v])) (by simp only[seval,go_sem,aW];first|((repeat'(with_reducible apply And.intro))<;>first|rfl|(simp[aW];done))) ?_ ?_<;>(try(omega)))
      all_goals(try(simp only;omega))
      all_goals(refine ⟨by simp only;omega,by simp;omega,?_⟩;rw[<- hg];first|done|simp)
    ·rw[j9 (by omega)] at hg;cases d
     ·simp only[jb,pT,jd] at hg ho;((repeat'(first|simp only[seval,go_sem,bW]|(with_reducible refine aB ?_;refine fl (rs:=[.tmp 4,.tmp 5]) (by with_unfolding_all rfl) rfl ?_<;>simp only[seval,go_sem]<;>(repeat'(with_reducible apply And.intro))<;>(try rfl))|(with_reducible first|refine aV (st:=[]) ?_|refine ai (by simp(disch:=omega)only[seval,go_sem,cI,bW];rfl) ?_))));all_goals(rw[had, <- hg]<;>simp[aW])
     ·simp only[jg,yM] at hg;((repeat'(first|simp only[seval,go_sem]|(with_reducible refine aB ?_;refine fl (rs:=[.tmp 4,.tmp 5]) (by with_unfolding_all rfl) rfl ?_<;>simp only[seval,go_sem]<;>(repeat'(with_reducible apply And.intro))<;>(try rfl))|(with_reducible first|refine aV (st:=[]) ?_|refine ai (by simp(disch:=omega)only[seval,go_sem,cI];rfl) ?_))));all_goals(first|(rw[had, <- hg];done)|(rw[had];done))
 ·((repeat'(first|simp only[seval,go_sem]|((with_reducible refine bJ ?_);refine aq.c (jq ?_) ?_)|(with_reducible refine aD (st:=[]) ?_)|(with_reducible refine aB ?_;(refine aC.fT 4 81 2 (by first|(simp only[seval,go_sem])) (by first|(simp only[seval,go_sem])) (by simp only[seval,go_sem];rfl) ?_);(with_reducible refine aB ?_;refine aC.q rfl rfl (by simp only[seval,go_sem];rfl) (by decide) (by simp only[seval,go_sem];rfl) (by simp only[seval,go_sem];rfl) rfl ?_<;>(try simp only[seval,go_sem])<;>(repeat'(with_reducible apply And.intro))<;>(try rfl)))|(with_reducible first|refine aV (st:=[]) ?_|refine ai (by simp(disch:=omega)only[seval,go_sem,cI];rfl) ?_)))<;>(try((with_reducible assumption))))
  all_goals simp[kJ,hz]
theorem D8 {l:List Pn} {c:Int} (hl:l.length<=100000):ak prog 123 [.sl 2 (l.map aW),i6 c]
  (.cT [.cW 0 2 0 (jh l c).1.length,i6 (jh l c).2]) [.row 2 ((jh l c).1.map aW)]:=by
 refine dL [] [10,12,39,40] func123 (by kernel_rfl) ntmps123 rfl rfl ⟨rfl,rfl⟩ (by simp(disch:=omega)only[seval,go_sem,cI,List.replicate,l_2,l_1];rfl) ?_;by_cases hz:dK none l=0
 ·have ok:=oJ hz;((repeat'(first|simp only[seval,go_sem,hz]|((with_reducible refine bJ ?_);refine aq.c (jq ?_) ?_)|(with_reducible first|refine aD (st:=[]) ?_|refine aV (st:=[]) ?_|refine ai (by simp(disch:=omega)only[seval,go_sem,cI,hz];rfl) ?_)))<;>(try((with_reducible assumption))));(refine ay.fT 7 40 2 (by first|(simp only[seval,go_sem])) (by first|(simp only[seval,go_sem])) (by simp only[seval,go_sem];rfl) ?_)
  (with_reducible refine ay.cX (fun (t:Nat×Bool×List Pn)=>[(9,i6 t.1),(8,.sc (.bool t.2.1)),(7,.cW 40 2 0 t.2.2.length),(10,.any)]++aN 16 25) (fun (t:Nat×Bool×List Pn)=>[(40,.row 2 (t.2.2.map aW)),(10,.dead),(39,.dead)]) (fun (t:Nat×Bool×List Pn)=>t.1<=l.length/\t.2.2.length<=t.1/\t.2.2++gF c (l.drop t.1)=gF c l/\(t.2.1||qm c (l.drop t.1))=qm c l) (fun (t:Nat×Bool×List Pn)=>l.length-t.1) ((0,false,[])) (⟨ek _,by simp,rfl,rfl⟩) (by intro _;simp(disch:=omega)only[seval,go_sem,cI];rfl) (by simp only[seval,go_sem]) (fun t hI=>?_))
  obtain ⟨k,d,out⟩:=t;obtain ⟨hk,ho,hg,hh⟩:=hI;simp only at hk ho hg hh;by_cases hlt:k<l.length
  ·obtain ⟨v,hv⟩:=aZ hlt;have fL:=get_map aW hv;have hr:=ok.range v (fS hv);rw[aH hv] at hg hh;simp only[gF,qm] at hg hh;have hcs:(v.commit=c/\v.count-1>0)\/(v.commit=c/\¬ v.count-1>0)\/¬ v.commit=c:=by omega
   rcases hcs with ⟨UU,ZV⟩|⟨UU,ZV⟩|UU
   ·((repeat'(first|simp only[seval,go_sem,fL,aW,bW]|(with_reducible first|refine aV (st:=[]) ?_|refine ai (by simp(disch:=omega)only[seval,go_sem,cI,fL,aW,bW];rfl) ?_))))
    all_goals(refine aP ((k+1,true,out++[⟨v.commit,v.count-1⟩])) (by simp only[seval,go_sem,aW];first|((repeat'(with_reducible apply And.intro))<;>first|rfl|(simp[aW];done))) ?_ ?_<;>(try(omega)))
    all_goals(try(simp only;omega))
    all_goals(refine ⟨by simp only;omega,by (first|(simp only;omega)|(simp;omega)),?_,?_⟩)
    all_goals(simp only[lR,List.cons_append,List.nil_append])
    all_goals(try(rw[<- hg];congr 1;(repeat' split)<;>first|rfl|omega))
    all_goals(try(rw[<- hh];(repeat' split)<;>first|rfl|omega|(cases d<;>rfl)))
   ·((repeat'(first|simp only[seval,go_sem,fL,aW,bW]|(with_reducible first|refine aV (st:=[]) ?_|refine ai (by simp(disch:=omega)only[seval,go_sem,cI,fL,aW,bW];rfl) ?_))))
    all_goals(refine aP ((k+1,true,out)) (by simp only[seval,go_sem];first|((repeat'(with_reducible apply And.intro))<;>first|rfl)) ?_ ?_<;>(try(omega)))
    all_goals(try(simp only;omega))
    all_goals(refine ⟨by simp only;omega,by (first|(simp only;omega)|(simp;omega)),?_,?_⟩)
    all_goals(simp only[lR,List.cons_append,List.nil_append])
    all_goals(try(rw[<- hg];congr 1;(repeat' split)<;>first|rfl|omega))
    all_goals(try(rw[<- hh];(repeat' split)<;>first|rfl|omega|(cases d<;>rfl)))
   ·((repeat'(first|simp only[seval,go_sem,fL,aW,bW]|(with_reducible first|refine aV (st:=[]) ?_|refine ai (by simp(disch:=omega)only[seval,go_sem,cI,fL,aW,bW];rfl) ?_))))
    all_goals(refine aP ((k+1,d,out++[v])) (by simp only[seval,go_sem,aW];first|((repeat'(with_reducible apply And.intro))<;>first|rfl|(simp[aW];done))) ?_ ?_<;>(try(omega)))
    all_goals(try(simp only;omega))
    all_goals(refine ⟨by simp only;omega,by (first|(simp only;omega)|(simp;omega)),?_,?_⟩)
    all_goals(simp only[lR,List.cons_append,List.nil_append])
    all_goals(try(rw[<- hg];congr 1;(repeat' split)<;>first|rfl|omega))
    all_goals(try(rw[<- hh];(repeat' split)<;>first|rfl|omega|(cases d<;>rfl)))
  ·rw[j9 (by omega)] at hg hh;have hr:qm c l=d:=by simpa[qm] using hh.symm
   simp only[gF,yM] at hg;cases d
   ·((repeat'(first|simp only[seval,go_sem]|(with_reducible refine aB ?_;(refine aC.fT 4 40 2 (by first|(simp only[seval,go_sem])) (by first|(simp only[seval,go_sem])) (by simp only[seval,go_sem];rfl) ?_);(with_reducible refine aB ?_;refine aC.q rfl rfl (by simp only[seval,go_sem];rfl) (by decide) (by simp only[seval,go_sem];rfl) (by simp only[seval,go_sem];rfl) rfl ?_<;>(try simp only[seval,go_sem])<;>(repeat'(with_reducible apply And.intro))<;>(try rfl)))|(with_reducible first|refine aV (st:=[]) ?_|refine ai (by simp(disch:=omega)only[seval,go_sem,cI];rfl) ?_))))
    all_goals simp[jh,hz,hr]
   ·((repeat'(first|simp only[seval,go_sem]|(with_reducible refine aB ?_;refine fl (rs:=[.tmp 4,.tmp 5]) (by with_unfolding_all rfl) rfl ?_<;>simp only[seval,go_sem]<;>(repeat'(with_reducible apply And.intro))<;>(try rfl))|(with_reducible first|refine aV (st:=[]) ?_|refine ai (by simp(disch:=omega)only[seval,go_sem,cI];rfl) ?_))))
    all_goals simp[jh,hz,hr,hg]
 ·((repeat'(first|simp only[seval,go_sem]|((with_reducible refine bJ ?_);refine aq.c (jq ?_) ?_)|(with_reducible refine aD (st:=[]) ?_)|(with_reducible refine aB ?_;(refine aC.fT 4 40 2 (by first|(simp only[seval,go_sem])) (by first|(simp only[seval,go_sem])) (by simp only[seval,go_sem];rfl) ?_);(with_reducible refine aB ?_;refine aC.q rfl rfl (by simp only[seval,go_sem];rfl) (by decide) (by simp only[seval,go_sem];rfl) (by simp only[seval,go_sem];rfl) rfl ?_<;>(try simp only[seval,go_sem])<;>(repeat'(with_reducible apply And.intro))<;>(try rfl)))|(with_reducible first|refine aV (st:=[]) ?_|refine ai (by simp(disch:=omega)only[seval,go_sem,cI];rfl) ?_)))<;>(try((with_reducible assumption))))
  all_goals simp[jh,hz]
theorem Jc {l:List Pn} {c:Int} (hl:l.length<=100000):ak prog 46 [.sl 2 (l.map aW),i6 c]
  (.cT [.sl 2 ((kJ l c).1.map aW),i6 (kJ l c).2]) []:=by
 have h:=ak.freeze (D7 (c:=c) hl);simpa[j6,nj,fB] using h
theorem Jd {l:List Pn} {c:Int} (hl:l.length<=100000):ak prog 123 [.sl 2 (l.map aW),i6 c]
  (.cT [.sl 2 ((jh l c).1.map aW),i6 (jh l c).2]) []:=by
 have h:=ak.freeze (D8 (c:=c) hl);simpa[j6,nj,fB] using h
end Go.Proofs.YteemiclhnfkekaaGreat
