/- Pins: what Validate, Total and the reference's functions compute; their walks. -/
import Derived.Test.YteemiclhnfkekaaGreatZChA
set_option linter.unusedSimpArgs false
set_option linter.unusedVariables false
set_option maxRecDepth 100000
set_option maxHeartbeats 3200000
namespace Go.Proofs.YteemiclhnfkekaaGreat
open Go.RowKit Go.eB
def dK (prev:Option Pn):List Pn->Int
 | []=>0
 | p::l=>if p.commit<0\/p.count<1\/p.count>1024 then 5 else
    match prev with
    | some q=>if p.commit<=q.commit then 19 else dK (some p) l
    | none=>dK (some p) l
def rq (l:List Pn) (k:Nat):Option Pn:=if k=0 then none else l[k-1]?
theorem oL {vs:List Pn} {k:Nat} {v:Pn} (h:vs[k]? = some v):rq vs (k+1)=some v:=by simp[rq,h]
theorem qK {vs:List Pn} {k:Nat} {u:Pn} (h:0<k) (hu:vs[k-1]? = some u):rq vs k=some u:=by simp[rq,hu];omega
def ru (n c:Int):Int:=min (n+min (max c 0) 1099511627776) 1099511627776
def iL:List Pn->Int->Int
 | [],n=>n
 | p::l,n=>iL l (ru n p.count)
theorem gE {l:List Pn} (hl:l.length<=100000):ak Tryz.prog 105 [.sl 2 (l.map aW)] (i6 (dK none l)) []:=by
 refine bR [] [4] [.tmp 2] Tryz.func105 (by kernel_rfl) Tryz.ntmps105 rfl rfl rfl ⟨rfl,rfl⟩ (by simp(disch:=omega)only[seval,go_sem,cI,List.replicate,l_2,l_1];rfl) ?_;((repeat'(first|simp only[seval,go_sem]|(with_reducible refine aV (st:=[]) ?_))));(with_reducible refine ay.cX (fun (k:Nat)=>[(7,i6 k)]++aN 2 3++aN 8 31) (fun (k:Nat)=>[(4,.dead)]) (fun (k:Nat)=>k<=l.length/\dK (rq l k) (l.drop k)=dK none l) (fun (k:Nat)=>l.length-k) (0) (⟨ek _,rfl⟩) (by intro _;simp(disch:=omega)only[seval,go_sem,cI];rfl) (by simp only[seval,go_sem]) (fun k hI=>?_));obtain ⟨hk,hf⟩:=hI;by_cases hlt:k<l.length
 ·obtain ⟨v,hv⟩:=aZ hlt;have fL:=get_map aW hv;by_cases h0:k=0
  ·subst h0
   ((repeat'(first|(with_reducible refine cB ?_;intro hc;(try simp only[fG,reduceCtorEq] at hc);(try(exfalso;omega)))|simp only[seval,go_sem,fL,aW]|(with_reducible refine br ?_;refine dX mix (by kernel_rfl) ?_)|(with_reducible first|refine aV (st:=[]) ?_|refine dO (by simp(disch:=omega)only[seval,go_sem,cI,fL,aW];rfl) ?_|refine ai (by simp(disch:=omega)only[seval,go_sem,cI,fL,aW];rfl) ?_|refine dV ?_|refine cN (cL ?_) (cL ?_)|refine And.intro ?_ ?_))))
   all_goals(try(refine aP (1) ?_ ?_ ?_<;>(first|(with_reducible refine lG ?_<;>simp only[seval,go_sem]<;>(repeat'(with_reducible apply And.intro))<;>(try rfl))|skip)<;>(try(omega))))
   all_goals first|omega|(refine ⟨by omega,?_⟩;rw[<- hf,aH hv,oL hv];simp[dK,rq];omega)|(rw[<- hf,aH hv];simp[dK,rq];omega)
  ·obtain ⟨u,hu⟩:=aZ (show k-1<l.length by omega);have pM:=get_map aW hu
   ((repeat'(first|(with_reducible refine cB ?_;intro hc;(try simp only[fG,reduceCtorEq] at hc);(try(exfalso;omega)))|simp only[seval,go_sem,aW,fL,pM]|(with_reducible refine br ?_;refine dX mix (by kernel_rfl) ?_)|(with_reducible first|refine aV (st:=[]) ?_|refine dO (by simp(disch:=omega)only[seval,go_sem,cI,aW,fL,pM];rfl) ?_|refine ai (by simp(disch:=omega)only[seval,go_sem,cI,aW,fL,pM];rfl) ?_|refine dV ?_|refine cN (cL ?_) (cL ?_)|refine And.intro ?_ ?_))))
   all_goals(try(refine aP (k+1) ?_ ?_ ?_<;>(first|(with_reducible refine lG ?_<;>simp only[seval,go_sem]<;>(repeat'(with_reducible apply And.intro))<;>(try rfl))|skip)<;>(try(omega))))
   all_goals first|(refine ⟨by omega,?_⟩;rw[<- hf,aH hv,oL hv,qK (by omega) hu];simp[dK];omega)|(rw[<- hf,aH hv,qK (by omega) hu];simp[dK];omega)
 ·((repeat'(first|simp only[seval,go_sem]|(with_reducible refine aV (st:=[]) ?_)|(with_reducible refine ai (by simp(disch:=omega)only[seval,go_sem,cI];rfl) ?_))))
  all_goals(rw[<- hf,j9 (by omega)];simp[dK])
theorem jq {l:List Pn} (hl:l.length<=100000):ak Tryz.prog 110 [.sl 2 (l.map aW)] (i6 (dK none l)) []:=by
 refine bR [] [] [.tmp 2] Tryz.func110 (by kernel_rfl) Tryz.ntmps110 rfl rfl rfl ⟨rfl,rfl⟩ (by simp(disch:=omega)only[seval,go_sem,cI,List.replicate,l_2,l_1];rfl) ?_;((repeat'(first|simp only[seval,go_sem]|(with_reducible refine aV (st:=[]) ?_))));(with_reducible refine ay.cX (fun (k:Nat)=>[(3,i6 k),(2,.any)]++aN 4 44) (fun (k:Nat)=>[]) (fun (k:Nat)=>k<=l.length/\dK (rq l k) (l.drop k)=dK none l) (fun (k:Nat)=>l.length-k) (0) (⟨ek _,rfl⟩) (by intro _;simp(disch:=omega)only[seval,go_sem,cI];rfl) (by simp only[seval,go_sem]) (fun k hI=>?_));obtain ⟨hk,hf⟩:=hI;by_cases hlt:k<l.length
 ·obtain ⟨v,hv⟩:=aZ hlt;have fL:=get_map aW hv;by_cases h0:k=0
  ·subst h0
   ((repeat'(first|(with_reducible refine cB ?_;intro hc;(try simp only[fG,reduceCtorEq] at hc);(try(exfalso;omega)))|simp only[seval,go_sem,fL,aW]|(with_reducible refine br ?_;refine dX mix (by kernel_rfl) ?_)|(with_reducible first|refine aV (st:=[]) ?_|refine dO (by simp(disch:=omega)only[seval,go_sem,cI,fL,aW];rfl) ?_|refine ai (by simp(disch:=omega)only[seval,go_sem,cI,fL,aW];rfl) ?_|refine dV ?_|refine cN (cL ?_) (cL ?_)|refine And.intro ?_ ?_))))
   all_goals(try(refine aP (1) ?_ ?_ ?_<;>(first|(with_reducible refine lG ?_<;>simp only[seval,go_sem]<;>(repeat'(with_reducible apply And.intro))<;>(try rfl))|skip)<;>(try(omega))))
   all_goals first|omega|(refine ⟨by omega,?_⟩;rw[<- hf,aH hv,oL hv];simp[dK,rq];omega)|(rw[<- hf,aH hv];simp[dK,rq];omega)
  ·obtain ⟨u,hu⟩:=aZ (show k-1<l.length by omega);have pM:=get_map aW hu
   ((repeat'(first|(with_reducible refine cB ?_;intro hc;(try simp only[fG,reduceCtorEq] at hc);(try(exfalso;omega)))|simp only[seval,go_sem,aW,fL,pM]|(with_reducible refine br ?_;refine dX mix (by kernel_rfl) ?_)|(with_reducible first|refine aV (st:=[]) ?_|refine dO (by simp(disch:=omega)only[seval,go_sem,cI,aW,fL,pM];rfl) ?_|refine ai (by simp(disch:=omega)only[seval,go_sem,cI,aW,fL,pM];rfl) ?_|refine dV ?_|refine cN (cL ?_) (cL ?_)|refine And.intro ?_ ?_))))
   all_goals(try(refine aP (k+1) ?_ ?_ ?_<;>(first|(with_reducible refine lG ?_<;>simp only[seval,go_sem]<;>(repeat'(with_reducible apply And.intro))<;>(try rfl))|skip)<;>(try(omega))))
   all_goals first|(refine ⟨by omega,?_⟩;rw[<- hf,aH hv,oL hv,qK (by omega) hu];simp[dK];omega)|(rw[<- hf,aH hv,qK (by omega) hu];simp[dK];omega)
 ·((repeat'(first|simp only[seval,go_sem]|(with_reducible refine aV (st:=[]) ?_)|(with_reducible refine ai (by simp(disch:=omega)only[seval,go_sem,cI];rfl) ?_))))
  all_goals(rw[<- hf,j9 (by omega)];simp[dK])
theorem D5 {l:List Pn} (hl:l.length<=100000):ak Tryz.prog 66 [.sl 2 (l.map aW)] (i6 (iL l 0)) []:=by
 refine bR [] [5] [.tmp 2] Tryz.func66 (by kernel_rfl) Tryz.ntmps66 rfl rfl rfl ⟨rfl,rfl⟩ (by simp(disch:=omega)only[seval,go_sem,cI,List.replicate,l_2,l_1];rfl) ?_;((repeat'(first|simp only[seval,go_sem]|(with_reducible refine aV (st:=[]) ?_))))
 (with_reducible refine ay.cX (fun (t:Nat×Int)=>[(8,i6 t.1),(3,i6 t.2),(5,.any)]++aN 9 11) (fun (t:Nat×Int)=>[(5,.dead)]) (fun (t:Nat×Int)=>t.1<=l.length/\0<=t.2/\t.2<=1099511627776/\iL (l.drop t.1) t.2=iL l 0) (fun (t:Nat×Int)=>l.length-t.1) ((0,0)) (⟨ek _,by simp,by simp,rfl⟩) (by intro _;simp(disch:=omega)only[seval,go_sem,cI];rfl) (by simp only[seval,go_sem]) (fun t hI=>?_))
 obtain ⟨k,n⟩:=t;obtain ⟨hk,hn0,MJ,hf⟩:=hI;simp only at hk hn0 MJ hf;by_cases hlt:k<l.length
 ·obtain ⟨v,hv⟩:=aZ hlt;have fL:=get_map aW hv;((repeat'(first|simp only[seval,go_sem,fL,aW]|(with_reducible refine aV (st:=[]) ?_)|(with_reducible refine ai (by simp(disch:=omega)only[seval,go_sem,cI,fL,aW];rfl) ?_))));all_goals(refine aP ((k+1,ru n v.count)) (by simp only[seval,go_sem,ru];first|((repeat'(with_reducible apply And.intro))<;>first|rfl|omega)) ?_ ?_<;>(try(omega)))
  all_goals(refine ⟨by simp only;omega,by simp only[ru];omega,by simp only[ru];omega,?_⟩;simp only;rw[<- hf,aH hv];simp[iL])
 ·((repeat'(first|simp only[seval,go_sem]|(with_reducible refine aV (st:=[]) ?_)|(with_reducible refine ai (by simp(disch:=omega)only[seval,go_sem,cI];rfl) ?_))))
  all_goals(rw[<- hf,j9 (by omega)];simp[iL])
theorem zy {a:Int}:ak Tryz.prog 143 [i6 a] (i6 (max a 0)) []:=by
 refine bR [] [] [.tmp 2] Tryz.func143 (by kernel_rfl) Tryz.ntmps143 rfl rfl rfl ⟨rfl,rfl⟩ (by simp(disch:=omega)only[seval,go_sem,cI,List.replicate,l_2,l_1];rfl) ?_;((repeat'(first|simp only[seval,go_sem]|(with_reducible refine aV (st:=[]) ?_))));all_goals omega
def yb (a b m:Int):Int×Bool:=if max a 0>max m 0\/max b 0>max m 0-max a 0 then (max m 0,true) else (max a 0+max b 0,false)
theorem F4 {a b m:Int} (hm:m<=4611686018427387904):ak Tryz.prog 67 [i6 a,i6 b,i6 m] (.cT [i6 (yb a b m).1, .sc (.bool (yb a b m).2)]) []:=by
 refine bR [] [9,11,13] [.tmp 6, .tmp 7] Tryz.func67 (by kernel_rfl) Tryz.ntmps67 rfl rfl rfl ⟨rfl,rfl⟩ (by simp(disch:=omega)only[seval,go_sem,cI,List.replicate,l_2,l_1];rfl) ?_
 ((repeat'(first|(with_reducible refine cB ?_;intro hc;(try simp only[fG,reduceCtorEq] at hc);(try(exfalso;omega)))|simp only[seval,go_sem]|((with_reducible refine bJ ?_);refine aq.c (zy) ?_)|(with_reducible first|refine aD (st:=[]) ?_|refine aV (st:=[]) ?_|refine ai (by simp(disch:=omega)only[seval,go_sem,cI];rfl) ?_|refine dV ?_|refine cN (cL ?_) (cL ?_)|refine And.intro ?_ ?_))))
 all_goals(simp only[yb];split<;>(first|rfl|omega))
theorem B4 {l:List Pn} (hl:l.length<=100000):ak Tryz.prog 25 [.sl 2 (l.map aW)] (i6 (iL l 0)) []:=by
 refine bR [] [18] [.tmp 2] Tryz.func25 (by kernel_rfl) Tryz.ntmps25 rfl rfl rfl ⟨rfl,rfl⟩ (by simp(disch:=omega)only[seval,go_sem,cI,List.replicate,l_2,l_1];rfl) ?_;((repeat'(first|simp only[seval,go_sem]|(with_reducible refine aV (st:=[]) ?_))))
 (with_reducible refine ay.cX (fun (t:Nat×Int)=>[(4,i6 t.1),(3,i6 t.2)]++aN 5 16) (fun (t:Nat×Int)=>[(18,.dead)]) (fun (t:Nat×Int)=>t.1<=l.length/\0<=t.2/\t.2<=1099511627776/\iL (l.drop t.1) t.2=iL l 0) (fun (t:Nat×Int)=>l.length-t.1) ((0,0)) (⟨ek _,by simp,by simp,rfl⟩) (by intro _;simp(disch:=omega)only[seval,go_sem,cI];rfl) (by simp only[seval,go_sem]) (fun t hI=>?_))
 obtain ⟨k,n⟩:=t;obtain ⟨hk,hn0,MJ,hf⟩:=hI;simp only at hk hn0 MJ hf;by_cases hlt:k<l.length
 ·obtain ⟨v,hv⟩:=aZ hlt;have fL:=get_map aW hv
  have he:(yb n v.count 1099511627776).1=ru n v.count:=by
   simp only[yb,ru];split<;>omega
  ((repeat'(first|simp only[seval,go_sem,fL,aW]|((with_reducible refine bJ ?_);refine aq.c (F4 ?_) ?_)|(with_reducible first|refine aD (st:=[]) ?_|refine aV (st:=[]) ?_|refine ai (by simp(disch:=omega)only[seval,go_sem,cI,fL,aW];rfl) ?_))))
  all_goals(try omega)
  all_goals(refine aP ((k+1,ru n v.count)) (by simp only[seval,go_sem,he];first|((repeat'(with_reducible apply And.intro))<;>first|rfl)) ?_ ?_<;>(try(omega)))
  all_goals(refine ⟨by simp only;omega,by simp only[ru];omega,by simp only[ru];omega,?_⟩;simp only;rw[<- hf,aH hv];simp[iL])
 ·((repeat'(first|simp only[seval,go_sem]|(with_reducible refine aV (st:=[]) ?_)|(with_reducible refine ai (by simp(disch:=omega)only[seval,go_sem,cI];rfl) ?_))))
  all_goals(rw[<- hf,j9 (by omega)];simp[iL])
structure Co (l:List Pn):Prop where
 range:∀ p∈l,0<=p.commit/\1<=p.count/\p.count<=1024
 pG:l.Pairwise (fun a b=>a.commit<b.commit)
theorem AX:∀ (l:List Pn) (prev:Option Pn),dK prev l=0->Co l/\∀ q,prev=some q->∀ p∈l,q.commit<p.commit
 | [],_,_=>⟨⟨by simp,List.Pairwise.nil⟩,by simp⟩
 | v::l,prev,h=>by
   unfold dK at h
   split at h
   ·omega
   ·rename_i hr
    have key:dK (some v) l=0/\∀ q,prev=some q->q.commit<v.commit:=by
     cases prev with
     | none=>exact ⟨by simpa using h,by simp⟩
     | some q=>
       simp only at h
       split at h
       ·omega
       ·exact ⟨h,fun q' e=>by cases e;omega⟩
    obtain ⟨hl,hq⟩:=AX l (some v) key.1;refine ⟨⟨fun p hp=>?_,List.Pairwise.cons (fun p hp=>hq v rfl p hp) hl.pG⟩,fun q e p hp=>?_⟩
    ·rcases lp.1 hp with rfl|hp
     ·omega
     ·exact hl.range p hp
    ·have h1:=key.2 q e;rcases lp.1 hp with rfl|hp
     ·exact h1
     ·exact Int.lt_trans h1 (hq v rfl p hp)
theorem oJ {l:List Pn} (h:dK none l=0):Co l:=(AX l none h).1
theorem Co.tail {p:Pn} {l:List Pn} (h:Co (p::l)):Co l/\∀ q∈l,p.commit<q.commit:=by
 have:=h.pG;rw[M9] at this;exact ⟨⟨fun q hq=>h.range q (Ic _ hq),this.2⟩,this.1⟩
def gi (c:Int):List Pn->Nat
 | []=>0
 | p::l=>if p.commit<c then gi c l+1 else 0
theorem uJ (c:Int):∀ l,gi c l<=l.length
 | []=>by simp[gi]
 | p::l=>by
   unfold gi;have:=uJ c l
   split<;>simp only[List.length_cons]<;>omega
theorem AG (c:Int):∀ (l:List Pn) (i:Nat),i<=l.length->(∀ j q,j<i->l[j]? = some q->q.commit<c)->(∀ q,l[i]? = some q->c<=q.commit)->gi c l=i
 | [],i,h,_,_=>by simp only[List.length_nil,Nat.le_zero] at h;subst h;rfl
 | p::l,0,_,_,h2=>by
   have:=h2 p rfl;unfold gi;rw[aE (by omega)]
 | p::l,i+1,h,h1,h2=>by
   have h3:=h1 0 p (by omega) rfl;unfold gi;rw[bC h3,AG c l i (by simpa using h) (fun j q hj hq=>h1 (j+1) q (by omega) (by simpa using hq)) (fun q hq=>h2 q (by simpa using hq))]
theorem Ht {l:List Pn} (h:l.Pairwise (fun a b=>a.commit<b.commit)) {i j:Nat} {x y:Pn} (hx:l[i]? = some x) (hy:l[j]? = some y) (hij:i<j):x.commit<y.commit:=by
 obtain ⟨h1,rfl⟩:=jM.1 hx;obtain ⟨h2,rfl⟩:=jM.1 hy;exact JR.1 h i j h1 h2 hij
def jb (c:Int):List Pn->List Pn
 | []=>[⟨c,1⟩]
 | p::l=>if c<p.commit then ⟨c,1⟩::p::l else if p.commit=c then ⟨p.commit,p.count+1⟩::l else p::jb c l
def ko (c:Int):List Pn->Bool
 | []=>false
 | p::l=>if p.commit=c/\p.count=1024 then true else ko c l
def kJ (l:List Pn) (c:Int):List Pn×Int:=
 if dK none l≠0 then ([],dK none l) else if c<0 then ([],5) else if ko c l then ([],14) else (jb c l,0)
def qm (c:Int):List Pn->Bool
 | []=>false
 | p::l=>if p.commit=c then true else qm c l
def gF (c:Int):List Pn->List Pn
 | []=>[]
 | p::l=>if p.commit=c then (if p.count-1>0 then ⟨p.commit,p.count-1⟩::gF c l else gF c l) else if p.count>0 then p::gF c l else gF c l
def jh (l:List Pn) (c:Int):List Pn×Int:=
 if dK none l≠0 then ([],dK none l) else if qm c l then (gF c l,0) else ([],8)
theorem su {c:Int}:∀ {l:List Pn},(∀ q∈l,c<q.commit)->ko c l=false/\qm c l=false/\((∀ q∈l,1<=q.count)->gF c l=l)
 | [],_=>⟨rfl,rfl,fun _=>rfl⟩
 | p::l,h=>by
   have h1:=h p (by simp);obtain ⟨h2,h3,h4⟩:=su (fun q hq=>h q (Ic _ hq));refine ⟨?_,?_,fun hc=>?_⟩
   ·unfold ko;rw[aE (by omega)];exact h2
   ·unfold qm;rw[aE (by omega)];exact h3
   ·have:=hc p (by simp);unfold gF;rw[aE (by omega),bC (by omega),h4 (fun q hq=>hc q (Ic _ hq))]
theorem FU {c:Int}:∀ {l:List Pn} {p:Pn},Co l->l[gi c l]? = some p->p.commit=c->
  ko c l=decide (p.count=1024)/\jb c l=l.set (gi c l) ⟨p.commit,p.count+1⟩/\qm c l=true/\gF c l=if p.count-1=0 then l.take (gi c l)++l.drop (gi c l+1) else l.set (gi c l) ⟨p.commit,p.count-1⟩
 | [],p,_,h,_=>by simp at h
 | q::l,p,ok,h,hc=>by
   obtain ⟨JL,hab⟩:=ok.tail;have hr:=ok.range q (by simp);unfold gi at h ⊢;by_cases hlt:q.commit<c
   ·simp only[bC hlt] at h ⊢;rw[eg] at h;obtain ⟨h1,h2,h3,h4⟩:=FU JL h hc;refine ⟨?_,?_,?_,?_⟩
    ·unfold ko;rw[aE (by omega)];exact h1
    ·unfold jb;rw[aE (by omega),aE (by omega),h2];rfl
    ·unfold qm;rw[aE (by omega)];exact h3
    ·unfold gF;rw[aE (by omega),bC (by omega),h4];split<;>rfl
   ·simp only[aE hlt] at h ⊢;simp only[dJ,fD] at h;subst h;obtain ⟨f1,f2,f3⟩:=su (c:=c) (l:=l) (fun r hr=>by have:=hab r hr;omega);have ZU:=f3 (fun r hr=>(JL.range r hr).2.1);refine ⟨?_,?_,?_,?_⟩
    ·unfold ko;by_cases hk:q.count=1024
     ·rw[bC ⟨hc,hk⟩];simp[hk]
     ·rw[aE (by omega),f1];simp[hk]
    ·unfold jb;rw[aE (by omega),bC hc];rfl
    ·unfold qm;rw[bC hc]
    ·unfold gF;rw[bC hc,ZU];by_cases hk:q.count-1=0
     ·rw[aE (by omega),bC hk];rfl
     ·rw[bC (by omega),aE hk];rfl
theorem tE {c:Int}:∀ {l:List Pn},Co l->(∀ p,l[gi c l]? = some p->p.commit≠c)->ko c l=false/\jb c l=l.take (gi c l)++[⟨c,1⟩]++l.drop (gi c l)/\qm c l=false
 | [],_,_=>⟨rfl,rfl,rfl⟩
 | q::l,ok,h=>by
   obtain ⟨JL,hab⟩:=ok.tail;unfold gi at h ⊢;by_cases hlt:q.commit<c
   ·simp only[bC hlt] at h ⊢;obtain ⟨h1,h2,h3⟩:=tE JL (fun p hp=>h p (by simpa using hp));refine ⟨?_,?_,?_⟩
    ·unfold ko;rw[aE (by omega)];exact h1
    ·unfold jb;rw[aE (by omega),aE (by omega),h2];rfl
    ·unfold qm;rw[aE (by omega)];exact h3
   ·simp only[aE hlt] at h ⊢;have hne:=h q rfl;obtain ⟨f1,f2,_⟩:=su (c:=c) (l:=l) (fun r hr=>by have:=hab r hr;omega);refine ⟨?_,?_,?_⟩
    ·unfold ko;rw[aE (by omega)];exact f1
    ·unfold jb;rw[bC (by omega)];rfl
    ·unfold qm;rw[aE (by omega)];exact f2
theorem AY (c:Int):∀ l:List Pn,(jb c l).length<=l.length+1
 | []=>by simp[jb]
 | p::l=>by
   unfold jb;have:=AY c l
   split
   ·simp
   ·split<;>simp<;>omega
theorem AZ (c:Int):∀ l:List Pn,(gF c l).length<=l.length
 | []=>by simp[gF]
 | p::l=>by
   unfold gF;have:=AZ c l
   split
   ·split<;>simp<;>omega
   ·split<;>simp<;>omega
theorem L2 {l:List Pn} {c:Int} {n:Nat} (h:l.length<=n):(kJ l c).1.length<=n+1:=by
 have:=AY c l;unfold kJ;split
 ·simp
 ·split
  ·simp
  ·split
   ·simp
   ·simp only;omega
theorem L3 {l:List Pn} {c:Int} {n:Nat} (h:l.length<=n):(jh l c).1.length<=n:=by
 have:=AZ c l;unfold jh;split
 ·simp
 ·split
  ·simp only;omega
  ·simp
theorem A0 (l:List Pn):∀ prev:Option Pn,Co l->(∀ q,prev=some q->∀ p∈l,q.commit<p.commit)->dK prev l=0:=by
 induction l with
 | nil=>intro _ _ _;rfl
 | cons v l ih=>
   intro prev ok h;obtain ⟨JL,hab⟩:=ok.tail;have hr:=ok.range v (by simp);have:=ih (some v) JL (fun q e=>by cases e;exact hab);unfold dK;rw[aE (by omega)];cases prev with
   | none=>simpa using this
   | some q=>
     have:=h q rfl v (by simp);simp only;rw[aE (by omega)];assumption
theorem uO {c:Int}:∀ {l:List Pn} {p:Pn},p∈jb c l->p.commit=c\/p∈l
 | [],p,h=>by simp[jb] at h;subst h;exact .inl rfl
 | q::l,p,h=>by
   unfold jb at h
   split at h
   ·rcases lp.1 h with rfl|h
    ·exact .inl rfl
    ·exact .inr h
   ·split at h
    ·rcases lp.1 h with rfl|h
     ·rename_i e;exact .inl e
     ·exact .inr (Ic _ h)
    ·rcases lp.1 h with rfl|h
     ·exact .inr (by simp)
     ·rcases uO h with h|h
      ·exact .inl h
      ·exact .inr (Ic _ h)
theorem D6 {c:Int} (hc:0<=c):∀ {l:List Pn},Co l->ko c l=false->Co (jb c l)
 | [],_,_=>⟨fun p hp=>by simp[jb] at hp;subst hp;simp;exact hc,by simp[jb]⟩
 | q::l,ok,hf=>by
   obtain ⟨JL,hab⟩:=ok.tail;have hr:=ok.range q (by simp);unfold ko at hf
   split at hf
   ·cases hf
   ·rename_i hnf;unfold jb
    split
    ·rename_i hlt;refine ⟨fun p hp=>?_,List.Pairwise.cons (fun p hp=>?_) ok.pG⟩
     ·rcases lp.1 hp with rfl|hp
      ·simp;exact hc
      ·exact ok.range p hp
     ·rcases lp.1 hp with rfl|hp
      ·exact hlt
      ·exact Int.lt_trans hlt (hab p hp)
    ·split
     ·rename_i hlt heq;refine ⟨fun p hp=>?_,List.Pairwise.cons (fun p hp=>hab p hp) JL.pG⟩;rcases lp.1 hp with rfl|hp
      ·simp only;omega
      ·exact JL.range p hp
     ·rename_i hlt hne;have ih:=D6 hc JL hf;refine ⟨fun p hp=>?_,List.Pairwise.cons (fun p hp=>?_) ih.pG⟩
      ·rcases lp.1 hp with rfl|hp
       ·exact hr
       ·exact ih.range p hp
      ·rcases uO hp with h|h
       ·omega
       ·exact hab p h
end Go.Proofs.YteemiclhnfkekaaGreat
