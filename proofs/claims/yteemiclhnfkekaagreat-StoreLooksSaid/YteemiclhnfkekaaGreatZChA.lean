/- What the chain's functions and the reference's compute, as plain Lean; the walks of the first of them. -/
import Derived.Test.YteemiclhnfkekaaGreatZBase
set_option linter.unusedSimpArgs false
set_option linter.unusedVariables false
set_option maxRecDepth 100000
set_option maxHeartbeats 1600000
namespace Go.Proofs.YteemiclhnfkekaaGreat
open Go.RowKit Go.eB Go.Proofs.Tryz
def cO (z:Int):List D:=[.sc (.int .i64 z)]
structure fE where
 from_:Int
 to:Int
 size:Int
 pages:List Int
 deriving DecidableEq
def aL (v:fE):List D:=[.sc (.int .i64 v.from_), .sc (.int .i64 v.to), .sc (.int .i64 v.size), .sl 1 (v.pages.map cO)]
def me (f t c:Int):Bool:=decide (f<=c)&&(decide (c<t)||decide (t=0))
def gf (c:Int):List fE->Nat->Int×Bool
 | [],_=>(0,false)
 | v::vs,k=>if me v.from_ v.to c then (k,true) else gf c vs (k+1)
def eA (prev:Option fE):List fE->Int
 | []=>0
 | v::vs=>if v.from_<1\/v.to<0\/v.size<0 then 5 else if v.to≠0/\v.to<=v.from_ then 19 else
    match prev with
    | some p=>if p.to=0\/v.from_<p.to then 19 else eA (some v) vs
    | none=>eA (some v) vs
def rj (vs:List fE) (k:Nat):Option fE:=if k=0 then none else vs[k-1]?
theorem r7 {vs:List fE} {c:Int} (hl:vs.length<=100000):ak prog 138 [.sl 4 (vs.map aL),i6 c] (.cT [i6 (gf c vs 0).1, .sc (.bool (gf c vs 0).2)]) []:=by
 refine bR [] [7] [.tmp 4, .tmp 5] func138 (by kernel_rfl) ntmps138 rfl rfl rfl ⟨rfl,rfl⟩ (by simp(disch:=omega)only[seval,go_sem,cI,List.replicate,l_2,l_1];rfl) ?_;((repeat'(first|simp only[seval,go_sem]|(with_reducible refine aV (st:=[]) ?_))));(with_reducible refine ay.cX (fun (k:Nat)=>[(10,i6 k)]++aN 4 4++aN 11 21) (fun (k:Nat)=>[(7,.dead)]) (fun (k:Nat)=>k<=vs.length/\gf c (vs.drop k) k=gf c vs 0) (fun (k:Nat)=>vs.length-k) (0) (⟨ek _,rfl⟩) (by intro _;simp(disch:=omega)only[seval,go_sem,cI];rfl) (by simp only[seval,go_sem]) (fun k hI=>?_));obtain ⟨hk,hf⟩:=hI;by_cases hlt:k<vs.length
 ·obtain ⟨v,hv⟩:=aZ hlt;have fL:=get_map aL hv;((repeat'(first|(with_reducible refine cB ?_;intro hc;(try simp only[fG,reduceCtorEq] at hc);(try(exfalso;omega)))|simp only[seval,go_sem,fL,aL]|(with_reducible first|refine aV (st:=[]) ?_|refine ai (by simp(disch:=omega)only[seval,go_sem,cI,fL,aL];rfl) ?_|refine dV ?_|refine cN (cL ?_) (cL ?_)|refine And.intro ?_ ?_))));all_goals(try(refine aP (k+1) ?_ ?_ ?_<;>(first|(with_reducible refine lG ?_<;>simp only[seval,go_sem]<;>(repeat'(with_reducible apply And.intro))<;>(try rfl))|skip)<;>(try(omega))))
  all_goals first|omega|(refine ⟨by omega,?_⟩;rw[<- hf,aH hv];simp[gf,me, *];omega)|(rw[<- hf,aH hv];simp[gf,me, *])
 ·((repeat'(first|simp only[seval,go_sem]|(with_reducible refine aV (st:=[]) ?_)|(with_reducible refine ai (by simp(disch:=omega)only[seval,go_sem,cI];rfl) ?_)|(with_reducible refine And.intro ?_ ?_))))
  all_goals(rw[<- hf,j9 (by omega)];simp[gf])
theorem zn {f t c:Int}:ak prog 77 [i6 f,i6 t,i6 c] (.sc (.bool (me f t c))) []:=by
 refine bR [] [] [.tmp 6] func77 (by kernel_rfl) ntmps77 rfl rfl rfl ⟨rfl,rfl⟩ (by simp(disch:=omega)only[seval,go_sem,cI,List.replicate,l_2,l_1];rfl) ?_
 ((repeat'(first|(with_reducible refine cB ?_;intro hc;(try simp only[fG,reduceCtorEq] at hc);(try(exfalso;omega)))|simp only[seval,go_sem]|((with_reducible refine au ?_);((with_reducible first|refine ah.step (by simp only[seval,go_sem];rfl) ?_|refine ah.step (by simp(disch:=omega)only[seval,go_sem,cI];rfl) ?_);refine dI (st:=[16,17]) ?_))|(with_reducible first|refine aV (st:=[16,17]) ?_|refine ai (by simp(disch:=omega)only[seval,go_sem,cI];rfl) ?_|refine dV ?_|refine And.intro ?_ ?_))))
 all_goals(simp[me, *])
 all_goals omega
theorem vm {vs:List fE} {c:Int} (hl:vs.length<=100000):ak prog 141 [.sl 4 (vs.map aL),i6 c] (.cT [i6 (gf c vs 0).1, .sc (.bool (gf c vs 0).2)]) []:=by
 refine bR [] [24] [.tmp 4, .tmp 5] func141 (by kernel_rfl) ntmps141 rfl rfl rfl ⟨rfl,rfl⟩ (by simp(disch:=omega)only[seval,go_sem,cI,List.replicate,l_2,l_1];rfl) ?_;((repeat'(first|simp only[seval,go_sem]|(with_reducible refine aV (st:=[]) ?_))));(with_reducible refine ay.cX (fun (k:Nat)=>[(6,i6 k),(4,.any),(5,.any)]++aN 7 19) (fun (k:Nat)=>[(24,.dead)]) (fun (k:Nat)=>k<=vs.length/\gf c (vs.drop k) k=gf c vs 0) (fun (k:Nat)=>vs.length-k) (0) (⟨ek _,rfl⟩) (by intro _;simp(disch:=omega)only[seval,go_sem,cI];rfl) (by simp only[seval,go_sem]) (fun k hI=>?_));obtain ⟨hk,hf⟩:=hI;by_cases hlt:k<vs.length
 ·obtain ⟨v,hv⟩:=aZ hlt;have fL:=get_map aL hv
  ((repeat'(first|(with_reducible refine cB ?_;intro hc;(try simp only[fG,reduceCtorEq] at hc);(try(exfalso;omega)))|simp only[seval,go_sem,fL,aL]|(with_reducible refine br ?_;refine dX mix (by kernel_rfl) ?_)|(with_reducible refine gQ ?_)|((with_reducible refine nB ?_);refine fP.c (zn) ?_)|(with_reducible first|refine aV (st:=[]) ?_|refine dO (by simp(disch:=omega)only[seval,go_sem,cI,fL,aL];rfl) ?_|refine ai (by simp(disch:=omega)only[seval,go_sem,cI,fL,aL];rfl) ?_|refine cN (cL ?_) (cL ?_)|refine And.intro ?_ ?_))))
  all_goals(try(refine aP (k+1) ?_ ?_ ?_<;>(first|(with_reducible refine lG ?_<;>simp only[seval,go_sem]<;>(repeat'(with_reducible apply And.intro))<;>(try rfl))|skip)<;>(try(omega))))
  all_goals first|omega|(refine ⟨by omega,?_⟩;rw[<- hf,aH hv];simp[gf, *];done)|(rw[<- hf,aH hv];simp[gf, *])
 ·((repeat'(first|simp only[seval,go_sem]|(with_reducible refine aV (st:=[]) ?_)|(with_reducible refine ai (by simp(disch:=omega)only[seval,go_sem,cI];rfl) ?_)|(with_reducible refine And.intro ?_ ?_))))
  all_goals(rw[<- hf,j9 (by omega)];simp[gf])
set_option maxHeartbeats 3200000
theorem oG {vs:List fE} {k:Nat} {v:fE} (h:vs[k]? = some v):rj vs (k+1)=some v:=by simp[rj,h]
theorem qG {vs:List fE} {k:Nat} {u:fE} (h:0<k) (hu:vs[k-1]? = some u):rj vs k=some u:=by simp[rj,hu];omega
theorem mV {vs:List fE} (hl:vs.length<=100000):ak prog 159 [.sl 4 (vs.map aL)] (i6 (eA none vs)) []:=by
 refine bR [] [4] [.tmp 2] func159 (by kernel_rfl) ntmps159 rfl rfl rfl ⟨rfl,rfl⟩ (by simp(disch:=omega)only[seval,go_sem,cI,List.replicate,l_2,l_1];rfl) ?_;((repeat'(first|simp only[seval,go_sem]|(with_reducible refine aV (st:=[]) ?_))));(with_reducible refine ay.cX (fun (k:Nat)=>[(7,i6 k)]++aN 2 3++aN 8 50) (fun (k:Nat)=>[(4,.dead)]) (fun (k:Nat)=>k<=vs.length/\eA (rj vs k) (vs.drop k)=eA none vs) (fun (k:Nat)=>vs.length-k) (0) (⟨ek _,rfl⟩) (by intro _;simp(disch:=omega)only[seval,go_sem,cI];rfl) (by simp only[seval,go_sem]) (fun k hI=>?_));obtain ⟨hk,hf⟩:=hI;by_cases hlt:k<vs.length
 ·obtain ⟨v,hv⟩:=aZ hlt;have fL:=get_map aL hv;by_cases h0:k=0
  ·subst h0
   ((repeat'(first|(with_reducible refine cB ?_;intro hc;(try simp only[fG,reduceCtorEq] at hc);(try(exfalso;omega)))|simp only[seval,go_sem,fL,aL]|(with_reducible refine br ?_;refine dX mix (by kernel_rfl) ?_)|(with_reducible first|refine aV (st:=[]) ?_|refine dO (by simp(disch:=omega)only[seval,go_sem,cI,fL,aL];rfl) ?_|refine ai (by simp(disch:=omega)only[seval,go_sem,cI,fL,aL];rfl) ?_|refine dV ?_|refine cN (cL ?_) (cL ?_)|refine And.intro ?_ ?_))))
   all_goals(try(refine aP (1) ?_ ?_ ?_<;>(first|(with_reducible refine lG ?_<;>simp only[seval,go_sem]<;>(repeat'(with_reducible apply And.intro))<;>(try rfl))|skip)<;>(try(omega))))
   all_goals first|omega|(refine ⟨by omega,?_⟩;rw[<- hf,aH hv,oG hv];simp[eA,rj];omega)|(rw[<- hf,aH hv];simp[eA,rj];omega)
  ·obtain ⟨u,hu⟩:=aZ (show k-1<vs.length by omega);have pM:=get_map aL hu
   ((repeat'(first|(with_reducible refine cB ?_;intro hc;(try simp only[fG,reduceCtorEq] at hc);(try(exfalso;omega)))|simp only[seval,go_sem,aL,fL,pM]|(with_reducible refine br ?_;refine dX mix (by kernel_rfl) ?_)|(with_reducible first|refine aV (st:=[]) ?_|refine dO (by simp(disch:=omega)only[seval,go_sem,cI,aL,fL,pM];rfl) ?_|refine BT ?_|refine ai (by simp(disch:=omega)only[seval,go_sem,cI,aL,fL,pM];rfl) ?_|refine dV ?_|refine cN (cL ?_) (cL ?_)|refine And.intro ?_ ?_))))
   all_goals(try(refine aP (k+1) ?_ ?_ ?_<;>(first|(with_reducible refine lG ?_<;>simp only[seval,go_sem]<;>(repeat'(with_reducible apply And.intro))<;>(try rfl))|skip)<;>(try(omega))))
   all_goals first|(refine ⟨by omega,?_⟩;rw[<- hf,aH hv,oG hv,qG (by omega) hu];simp[eA];omega)|(rw[<- hf,aH hv,qG (by omega) hu];simp[eA];omega)
 ·((repeat'(first|simp only[seval,go_sem]|(with_reducible refine aV (st:=[]) ?_)|(with_reducible refine ai (by simp(disch:=omega)only[seval,go_sem,cI];rfl) ?_))))
  all_goals(rw[<- hf,j9 (by omega)];simp[eA])
theorem lM {vs:List fE} (hl:vs.length<=100000):ak prog 176 [.sl 4 (vs.map aL)] (i6 (eA none vs)) []:=by
 refine bR [] [4] [.tmp 2] func176 (by kernel_rfl) ntmps176 rfl rfl rfl ⟨rfl,rfl⟩ (by simp(disch:=omega)only[seval,go_sem,cI,List.replicate,l_2,l_1];rfl) ?_;((repeat'(first|simp only[seval,go_sem]|(with_reducible refine aV (st:=[]) ?_))));(with_reducible refine ay.cX (fun (k:Nat)=>[(3,i6 k),(2,.any)]++aN 4 56) (fun (k:Nat)=>[(4,.dead)]) (fun (k:Nat)=>k<=vs.length/\eA (rj vs k) (vs.drop k)=eA none vs) (fun (k:Nat)=>vs.length-k) (0) (⟨ek _,rfl⟩) (by intro _;simp(disch:=omega)only[seval,go_sem,cI];rfl) (by simp only[seval,go_sem]) (fun k hI=>?_));obtain ⟨hk,hf⟩:=hI;by_cases hlt:k<vs.length
 ·obtain ⟨v,hv⟩:=aZ hlt;have fL:=get_map aL hv;by_cases h0:k=0
  ·subst h0
   ((repeat'(first|(with_reducible refine cB ?_;intro hc;(try simp only[fG,reduceCtorEq] at hc);(try(exfalso;omega)))|simp only[seval,go_sem,fL,aL]|(with_reducible refine br ?_;refine dX mix (by kernel_rfl) ?_)|(with_reducible first|refine aV (st:=[]) ?_|refine dO (by simp(disch:=omega)only[seval,go_sem,cI,fL,aL];rfl) ?_|refine ai (by simp(disch:=omega)only[seval,go_sem,cI,fL,aL];rfl) ?_|refine dV ?_|refine cN (cL ?_) (cL ?_)|refine And.intro ?_ ?_))))
   all_goals(try(refine aP (1) ?_ ?_ ?_<;>(first|(with_reducible refine lG ?_<;>simp only[seval,go_sem]<;>(repeat'(with_reducible apply And.intro))<;>(try rfl))|skip)<;>(try(omega))))
   all_goals first|omega|(refine ⟨by omega,?_⟩;rw[<- hf,aH hv,oG hv];simp[eA,rj];omega)|(rw[<- hf,aH hv];simp[eA,rj];omega)
  ·obtain ⟨u,hu⟩:=aZ (show k-1<vs.length by omega);have pM:=get_map aL hu
   ((repeat'(first|(with_reducible refine cB ?_;intro hc;(try simp only[fG,reduceCtorEq] at hc);(try(exfalso;omega)))|simp only[seval,go_sem,aL,fL,pM]|(with_reducible refine br ?_;refine dX mix (by kernel_rfl) ?_)|(with_reducible first|refine aV (st:=[]) ?_|refine dO (by simp(disch:=omega)only[seval,go_sem,cI,aL,fL,pM];rfl) ?_|refine BT ?_|refine ai (by simp(disch:=omega)only[seval,go_sem,cI,aL,fL,pM];rfl) ?_|refine dV ?_|refine cN (cL ?_) (cL ?_)|refine And.intro ?_ ?_))))
   all_goals(try(refine aP (k+1) ?_ ?_ ?_<;>(first|(with_reducible refine lG ?_<;>simp only[seval,go_sem]<;>(repeat'(with_reducible apply And.intro))<;>(try rfl))|skip)<;>(try(omega))))
   all_goals first|(refine ⟨by omega,?_⟩;rw[<- hf,aH hv,oG hv,qG (by omega) hu];simp[eA];omega)|(rw[<- hf,aH hv,qG (by omega) hu];simp[eA];omega)
 ·((repeat'(first|simp only[seval,go_sem]|(with_reducible refine aV (st:=[]) ?_)|(with_reducible refine ai (by simp(disch:=omega)only[seval,go_sem,cI];rfl) ?_))))
  all_goals(rw[<- hf,j9 (by omega)];simp[eA])
structure Pn where
 commit:Int
 count:Int
 deriving DecidableEq
def aW (p:Pn):List D:=[.sc (.int .i64 p.commit), .sc (.int .i64 p.count)]
def dW (f t:Int):List Pn->Bool
 | []=>false
 | p::l=>if f<=p.commit/\(p.commit<t\/t=0) then true else dW f t l
theorem lN {l:List Pn} {f t:Int} (hl:l.length<=100000):ak prog 129 [.sl 2 (l.map aW),i6 f,i6 t] (.sc (.bool (dW f t l))) []:=by
 refine bR [] [8] [.tmp 6] func129 (by kernel_rfl) ntmps129 rfl rfl rfl ⟨rfl,rfl⟩ (by simp(disch:=omega)only[seval,go_sem,cI,List.replicate,l_2,l_1];rfl) ?_;((repeat'(first|simp only[seval,go_sem]|(with_reducible refine aV (st:=[]) ?_))));(with_reducible refine ay.cX (fun (k:Nat)=>[(11,i6 k),(6,.any),(8,.any)]++aN 12 18) (fun (k:Nat)=>[(8,.dead)]) (fun (k:Nat)=>k<=l.length/\dW f t (l.drop k)=dW f t l) (fun (k:Nat)=>l.length-k) (0) (⟨ek _,rfl⟩) (by intro _;simp(disch:=omega)only[seval,go_sem,cI];rfl) (by simp only[seval,go_sem]) (fun k hI=>?_));obtain ⟨hk,hf⟩:=hI;by_cases hlt:k<l.length
 ·obtain ⟨v,hv⟩:=aZ hlt;have fL:=get_map aW hv;((repeat'(first|(with_reducible refine cB ?_;intro hc;(try simp only[fG,reduceCtorEq] at hc);(try(exfalso;omega)))|simp only[seval,go_sem,fL,aW]|(with_reducible first|refine aV (st:=[]) ?_|refine ai (by simp(disch:=omega)only[seval,go_sem,cI,fL,aW];rfl) ?_|refine dV ?_|refine cN (cL ?_) (cL ?_)|refine And.intro ?_ ?_))));all_goals(try(refine aP (k+1) ?_ ?_ ?_<;>(first|(with_reducible refine lG ?_<;>simp only[seval,go_sem]<;>(repeat'(with_reducible apply And.intro))<;>(try rfl))|skip)<;>(try(omega))))
  all_goals(try(refine ⟨by omega,?_⟩)) 
  all_goals(rw[<- hf,aH hv];simp[dW];omega)
 ·((repeat'(first|simp only[seval,go_sem]|(with_reducible refine aV (st:=[]) ?_)|(with_reducible refine ai (by simp(disch:=omega)only[seval,go_sem,cI];rfl) ?_))))
  all_goals(rw[<- hf,j9 (by omega)];simp[dW])
theorem kR {l:List Pn} {f t:Int} (hl:l.length<=100000):ak prog 133 [.sl 2 (l.map aW),i6 f,i6 t] (.sc (.bool (dW f t l))) []:=by
 refine bR [] [] [.tmp 6] func133 (by kernel_rfl) ntmps133 rfl rfl rfl ⟨rfl,rfl⟩ (by simp(disch:=omega)only[seval,go_sem,cI,List.replicate,l_2,l_1];rfl) ?_;((repeat'(first|simp only[seval,go_sem]|(with_reducible refine aV (st:=[]) ?_))));(with_reducible refine ay.cX (fun (k:Nat)=>[(7,i6 k),(6,.any)]++aN 8 26) (fun (k:Nat)=>[]) (fun (k:Nat)=>k<=l.length/\dW f t (l.drop k)=dW f t l) (fun (k:Nat)=>l.length-k) (0) (⟨ek _,rfl⟩) (by intro _;simp(disch:=omega)only[seval,go_sem,cI];rfl) (by simp only[seval,go_sem]) (fun k hI=>?_));obtain ⟨hk,hf⟩:=hI;by_cases hlt:k<l.length
 ·obtain ⟨v,hv⟩:=aZ hlt;have fL:=get_map aW hv;((repeat'(first|(with_reducible refine cB ?_;intro hc;(try simp only[fG,reduceCtorEq] at hc);(try(exfalso;omega)))|simp only[seval,go_sem,fL,aW]|(with_reducible first|refine aV (st:=[]) ?_|refine ai (by simp(disch:=omega)only[seval,go_sem,cI,fL,aW];rfl) ?_|refine dV ?_|refine cN (cL ?_) (cL ?_)|refine And.intro ?_ ?_))));all_goals(try(refine aP (k+1) ?_ ?_ ?_<;>(first|(with_reducible refine lG ?_<;>simp only[seval,go_sem]<;>(repeat'(with_reducible apply And.intro))<;>(try rfl))|skip)<;>(try(omega))))
  all_goals(try(refine ⟨by omega,?_⟩)) 
  all_goals(rw[<- hf,aH hv];simp[dW];omega)
 ·((repeat'(first|simp only[seval,go_sem]|(with_reducible refine aV (st:=[]) ?_)|(with_reducible refine ai (by simp(disch:=omega)only[seval,go_sem,cI];rfl) ?_))))
  all_goals(rw[<- hf,j9 (by omega)];simp[dW])
theorem DG {b:Bd} {c:Int}:ak prog 199 [.agg (ag b), .ro [i6 c]] (.sc (.bool (decide (c<b.eo)||decide (c<b.to)))) []:=by
 simp only[ag];refine bR [] [2] [.tmp 3] func199 (by kernel_rfl) ntmps199 rfl rfl rfl ⟨rfl,rfl⟩ (by simp(disch:=omega)only[seval,go_sem,cI,List.replicate,l_2,l_1];rfl) ?_
 ((repeat'(first|(with_reducible refine cB ?_;intro hc;(try simp only[fG,reduceCtorEq] at hc);(try(exfalso;omega)))|simp only[seval,go_sem]|((with_reducible refine au ?_);((with_reducible first|refine ah.step (by simp only[seval,go_sem];rfl) ?_|refine ah.step (by simp(disch:=omega)only[seval,go_sem,cI];rfl) ?_);refine dI (st:=[12]) ?_))|(with_reducible first|refine aV (st:=[12]) ?_|refine ai (by simp(disch:=omega)only[seval,go_sem,cI];rfl) ?_|refine dV ?_|refine And.intro ?_ ?_))))
 all_goals(try(first|rfl|(simp;omega)|(simp_all;done)|(simp_all;omega)))
theorem DH {b:Bd} {n:ByteArray}:ak prog 202 [.agg (ag b), .ro [.sc (.string n)]] (.sc (.bool (gP n b))) []:=by
 unfold gP lq;simp only[ag];refine bR [] [2] [.tmp 3] func202 (by kernel_rfl) ntmps202 rfl rfl rfl ⟨rfl,rfl⟩ (by simp(disch:=omega)only[seval,go_sem,cI,List.replicate,l_2,l_1];rfl) ?_
 ((repeat'(first|(with_reducible refine cB ?_;intro hc;(try simp only[fG,reduceCtorEq] at hc);(try(exfalso;omega)))|simp only[seval,go_sem]|((with_reducible refine au ?_);((with_reducible first|refine ah.step (by simp only[seval,go_sem];rfl) ?_|refine ah.step (by simp(disch:=omega)only[seval,go_sem,cI];rfl) ?_);refine dI (st:=[11]) ?_))|(with_reducible first|refine aV (st:=[11]) ?_|refine ai (by simp(disch:=omega)only[seval,go_sem,cI];rfl) ?_|refine dV ?_|refine And.intro ?_ ?_))))
 all_goals(try(first|rfl|(simp;omega)|(simp_all;done)|(simp_all;omega)))
theorem DI {b:Bd} {n:ByteArray} {o:Int}:ak prog 155 [.agg (ag b), .ro [.sc (.string n)], .ro [i6 o]] (.sc (.bool (b.to==0&&(lq b.name n||b.obj==o)))) []:=by
 unfold lq;simp only[ag];refine bR [] [3] [.tmp 4] func155 (by kernel_rfl) ntmps155 rfl rfl rfl ⟨rfl,rfl⟩ (by simp(disch:=omega)only[seval,go_sem,cI,List.replicate,l_2,l_1];rfl) ?_
 ((repeat'(first|(with_reducible refine cB ?_;intro hc;(try simp only[fG,reduceCtorEq] at hc);(try(exfalso;omega)))|simp only[seval,go_sem]|((with_reducible refine au ?_);((with_reducible first|refine ah.step (by simp only[seval,go_sem];rfl) ?_|refine ah.step (by simp(disch:=omega)only[seval,go_sem,cI];rfl) ?_);refine dI (st:=[17,18]) ?_))|(with_reducible first|refine aV (st:=[17,18]) ?_|refine ai (by simp(disch:=omega)only[seval,go_sem,cI];rfl) ?_|refine dV ?_|refine And.intro ?_ ?_))))
 all_goals(try(first|rfl|(simp;omega)|(simp_all;done)|(simp_all;omega)))
theorem DJ {b:Bd} {n:ByteArray} {c:Int}:ak prog 156 [.agg (ag b), .ro [.sc (.string n)], .ro [i6 c]] (.sc (.bool (lq b.name n&&b.eo==c))) []:=by
 unfold lq;simp only[ag];refine bR [] [3] [.tmp 4] func156 (by kernel_rfl) ntmps156 rfl rfl rfl ⟨rfl,rfl⟩ (by simp(disch:=omega)only[seval,go_sem,cI,List.replicate,l_2,l_1];rfl) ?_
 ((repeat'(first|(with_reducible refine cB ?_;intro hc;(try simp only[fG,reduceCtorEq] at hc);(try(exfalso;omega)))|simp only[seval,go_sem]|((with_reducible refine au ?_);((with_reducible first|refine ah.step (by simp only[seval,go_sem];rfl) ?_|refine ah.step (by simp(disch:=omega)only[seval,go_sem,cI];rfl) ?_);refine dI (st:=[13]) ?_))|(with_reducible first|refine aV (st:=[13]) ?_|refine ai (by simp(disch:=omega)only[seval,go_sem,cI];rfl) ?_|refine dV ?_|refine And.intro ?_ ?_))))
 all_goals(try(first|rfl|(simp;omega)|(simp_all;done)|(simp_all;omega)))
theorem xO {p:Bd->Bool}:∀ (l:List Bd) (i:Nat),decide (0<=k7 p l i)=l.any p
 | [],_=>rfl
 | b::l,i=>by
   rw[k7,List.any_cons];cases h:p b
   ·simp only[pT,jd,wo];exact xO l (i+1)
   ·simp
theorem xP {fc:FuncId} {u:Value} {l:List Bd} {p:Bd->Bool} (hl:l.length<=100000) (h:∀ b,ak prog fc [.agg (ag b), .ro [.sc u]] (.sc (.bool (p b))) []):ak prog 200 [.sl 4 (l.map ag), .fn fc [.ro [.sc u]]] (i6 (k7 p l 0)) []:=by
 refine bR [] [16] [.tmp 4] func200 (by kernel_rfl) ntmps200 rfl rfl rfl ⟨rfl,rfl⟩ (by simp(disch:=omega)only[seval,go_sem,cI,List.replicate,l_2,l_1];rfl) ?_;((repeat'(first|simp only[seval,go_sem]|(with_reducible refine aV (st:=[]) ?_))));(with_reducible refine ay.cX (fun (k:Nat)=>[(8,i6 k),(4,.any),(5,.any)]++aN 9 10) (fun (k:Nat)=>[(16,.dead)]) (fun (k:Nat)=>k<=l.length/\k7 p (l.drop k) k=k7 p l 0) (fun (k:Nat)=>l.length-k) (0) (⟨ek _,rfl⟩) (by intro _;simp(disch:=omega)only[seval,go_sem,cI];rfl) (by simp only[seval,go_sem]) (fun k hI=>?_));obtain ⟨hk,hf⟩:=hI;by_cases hlt:k<l.length
 focus
  obtain ⟨b,hb⟩:=aZ hlt;have hb':=get_map ag hb;have hc1:=h b;simp only[ag] at hc1;rw[aH hb,k7] at hf;cases hp:p b
  ·rw[aE (by simp[hp])] at hf;rw[hp] at hc1;((repeat'(first|simp only[seval,go_sem,hb',ag]|((with_reducible refine bJ ?_);refine aq.c (hc1) ?_)|(with_reducible first|refine aD (st:=[]) ?_|refine aV (st:=[]) ?_|refine ai (by simp(disch:=omega)only[seval,go_sem,cI,hb',ag];rfl) ?_))));all_goals(try(refine aP (k+1) (by simp only[seval,go_sem];first|((repeat'(with_reducible apply And.intro))<;>first|rfl)) ?_ ?_<;>(try(omega))))
   all_goals(try(exact ⟨by omega,hf⟩))
  focus
   rw[bC hp] at hf;rw[<- hf];rw[hp] at hc1;have hZ:=hb'
  rotate_left 1
 rotate_left 1
 focus
  rw[j9 (by omega),k7] at hf;rw[<- hf];have hZ:=ek 0
 rotate_left 1;all_goals((repeat'(first|simp only[seval,go_sem,ag,hZ]|((with_reducible refine bJ ?_);refine aq.c (hc1) ?_)|(with_reducible first|refine aD (st:=[]) ?_|refine aV (st:=[]) ?_|refine ai (by simp(disch:=omega)only[seval,go_sem,cI,ag,hZ];rfl) ?_))))
theorem FO {fc:FuncId} {u v:Value} {l:List Bd} {p:Bd->Bool} (hl:l.length<=100000) (h:∀ b,ak prog fc [.agg (ag b),.ro [.sc u],.ro [.sc v]] (.sc (.bool (p b))) []):ak prog 200 [.sl 4 (l.map ag),.fn fc [.ro [.sc u],.ro [.sc v]]] (i6 (k7 p l 0)) []:=by
 refine bR [] [16] [.tmp 4] func200 (by kernel_rfl) ntmps200 rfl rfl rfl ⟨rfl,rfl⟩ (by simp(disch:=omega)only[seval,go_sem,cI,List.replicate,l_2,l_1];rfl) ?_;((repeat'(first|simp only[seval,go_sem]|(with_reducible refine aV (st:=[]) ?_))));(with_reducible refine ay.cX (fun (k:Nat)=>[(8,i6 k),(4,.any),(5,.any)]++aN 9 10) (fun (k:Nat)=>[(16,.dead)]) (fun (k:Nat)=>k<=l.length/\k7 p (l.drop k) k=k7 p l 0) (fun (k:Nat)=>l.length-k) (0) (⟨ek _,rfl⟩) (by intro _;simp(disch:=omega)only[seval,go_sem,cI];rfl) (by simp only[seval,go_sem]) (fun k hI=>?_));obtain ⟨hk,hf⟩:=hI;by_cases hlt:k<l.length
 focus
  obtain ⟨b,hb⟩:=aZ hlt;have hb':=get_map ag hb;have hc1:=h b;simp only[ag] at hc1;rw[aH hb,k7] at hf;cases hp:p b
  ·rw[aE (by simp[hp])] at hf;rw[hp] at hc1;((repeat'(first|simp only[seval,go_sem,hb',ag]|((with_reducible refine bJ ?_);refine aq.c (hc1) ?_)|(with_reducible first|refine aD (st:=[]) ?_|refine aV (st:=[]) ?_|refine ai (by simp(disch:=omega)only[seval,go_sem,cI,hb',ag];rfl) ?_))));all_goals(try(refine aP (k+1) (by simp only[seval,go_sem];first|((repeat'(with_reducible apply And.intro))<;>first|rfl)) ?_ ?_<;>(try(omega))))
   all_goals(try(exact ⟨by omega,hf⟩))
  focus
   rw[bC hp] at hf;rw[<- hf];rw[hp] at hc1;have hZ:=hb'
  rotate_left 1
 rotate_left 1
 focus
  rw[j9 (by omega),k7] at hf;rw[<- hf];have hZ:=ek 0
 rotate_left 1;all_goals((repeat'(first|simp only[seval,go_sem,ag,hZ]|((with_reducible refine bJ ?_);refine aq.c (hc1) ?_)|(with_reducible first|refine aD (st:=[]) ?_|refine aV (st:=[]) ?_|refine ai (by simp(disch:=omega)only[seval,go_sem,cI,ag,hZ];rfl) ?_))))
theorem FP {fc:FuncId} {u:Value} {l:List Bd} {p:Bd->Bool} (hl:l.length<=100000) (h:∀ b,ak prog fc [.agg (ag b), .ro [.sc u]] (.sc (.bool (p b))) []):ak prog 154 [.sl 4 (l.map ag), .fn fc [.ro [.sc u]]] (.sc (.bool (l.any p))) []:=by
 have hi:=xP hl h;rw[<- xO l 0];refine bR [] [7] [.tmp 4] func154 (by kernel_rfl) ntmps154 rfl rfl rfl ⟨rfl,rfl⟩ (by simp(disch:=omega)only[seval,go_sem,cI,List.replicate,l_2,l_1];rfl) ?_;((repeat'(first|simp only[seval,go_sem]|((with_reducible refine bJ ?_);refine aq.c (hi) ?_)|(with_reducible first|refine aD (st:=[]) ?_|refine aV (st:=[]) ?_|refine ai (by simp(disch:=omega)only[seval,go_sem,cI];rfl) ?_))))
theorem xQ {fc:FuncId} {u v:Value} {l:List Bd} {p:Bd->Bool} (hl:l.length<=100000) (h:∀ b,ak prog fc [.agg (ag b),.ro [.sc u],.ro [.sc v]] (.sc (.bool (p b))) []):ak prog 154 [.sl 4 (l.map ag),.fn fc [.ro [.sc u],.ro [.sc v]]] (.sc (.bool (l.any p))) []:=by
 have hi:=FO hl h;rw[<- xO l 0];refine bR [] [7] [.tmp 4] func154 (by kernel_rfl) ntmps154 rfl rfl rfl ⟨rfl,rfl⟩ (by simp(disch:=omega)only[seval,go_sem,cI,List.replicate,l_2,l_1];rfl) ?_;((repeat'(first|simp only[seval,go_sem]|((with_reducible refine bJ ?_);refine aq.c (hi) ?_)|(with_reducible first|refine aD (st:=[]) ?_|refine aV (st:=[]) ?_|refine ai (by simp(disch:=omega)only[seval,go_sem,cI];rfl) ?_))))
theorem mg {l:List Bd} {c:Int} (hl:l.length<=100000):ak prog 153 [.sl 4 (l.map ag),i6 c] (.sc (.bool (jm c l))) []:=by
 have hi:=FP hl (fun b=>DG (b:=b) (c:=c));unfold jm;refine bR [] [3,7] [.tmp 4] func153 (by kernel_rfl) ntmps153 rfl rfl rfl ⟨rfl,rfl⟩ (by simp(disch:=omega)only[seval,go_sem,cI,List.replicate,l_2,l_1];rfl) ?_;((repeat'(first|simp only[seval,go_sem]|((with_reducible refine bJ ?_);refine aq.c (hi) ?_)|(with_reducible refine aD (st:=[]) ?_)|(with_reducible refine aV (st:=[]) ?_))))
theorem oH {l:List Bd} {n:ByteArray} (hl:l.length<=100000):ak prog 161 [.sl 4 (l.map ag), .sc (.string n)] (i6 (ew n l)) []:=by
 have hi:=xP hl (fun b=>DH (b:=b) (n:=n));unfold ew;refine bR [] [3,7] [.tmp 4] func161 (by kernel_rfl) ntmps161 rfl rfl rfl ⟨rfl,rfl⟩ (by simp(disch:=omega)only[seval,go_sem,cI,List.replicate,l_2,l_1];rfl) ?_;((repeat'(first|simp only[seval,go_sem]|((with_reducible refine bJ ?_);refine aq.c (hi) ?_)|(with_reducible refine aD (st:=[]) ?_)|(with_reducible refine aV (st:=[]) ?_))))
theorem jF {l:List Bd} {c:Int} (hl:l.length<=100000):ak prog 174 [.sl 4 (l.map ag),i6 c] (.sc (.bool (jm c l))) []:=by
 refine bR [] [] [.tmp 4] func174 (by kernel_rfl) ntmps174 rfl rfl rfl ⟨rfl,rfl⟩ (by simp(disch:=omega)only[seval,go_sem,cI,List.replicate,l_2,l_1];rfl) ?_;((repeat'(first|simp only[seval,go_sem]|(with_reducible refine aV (st:=[]) ?_))));(with_reducible refine ay.cX (fun (k:Nat)=>[(5,i6 k),(4,.any)]++aN 6 22) (fun (k:Nat)=>[]) (fun (k:Nat)=>k<=l.length/\jm c (l.drop k)=jm c l) (fun (k:Nat)=>l.length-k) (0) (⟨ek _,rfl⟩) (by intro _;simp(disch:=omega)only[seval,go_sem,cI];rfl) (by simp only[seval,go_sem]) (fun k hI=>?_));obtain ⟨hk,hf⟩:=hI;by_cases hlt:k<l.length
 focus
  obtain ⟨b,hb⟩:=aZ hlt;have hb':=get_map ag hb;rw[aH hb,jm,List.any_cons] at hf;by_cases h1:c<b.eo
  focus
   rw[GX h1,Cm,Cm] at hf;rw[<- hf];have hZ:=hb'
  rotate_left 1
  focus
   by_cases h2:c<b.to
   focus
    rw[GX h2,Bool.or_true,Cm] at hf;rw[<- hf];have hZ:=hb'
   rotate_left 1
   ·rw[Ii h1,Ii h2,wo,wo] at hf;((repeat'(first|simp only[seval,go_sem,hb',ag]|(with_reducible refine aV (st:=[]) ?_)|(with_reducible refine ai (by simp(disch:=omega)only[seval,go_sem,cI,hb',ag];rfl) ?_))));all_goals(try(refine aP (k+1) (by simp only[seval,go_sem];first|((repeat'(with_reducible apply And.intro))<;>first|rfl)) ?_ ?_<;>(try(omega))))
    all_goals(try(exact ⟨by omega,hf⟩))
  rotate_left 1
 rotate_left 2
 focus
  rw[j9 (by omega),jm,List.any_nil] at hf;rw[<- hf];have hZ:=ek 0
 rotate_left 1;all_goals((repeat'(first|simp only[seval,go_sem,ag,hZ]|(with_reducible refine aV (st:=[]) ?_)|(with_reducible refine ai (by simp(disch:=omega)only[seval,go_sem,cI,ag,hZ];rfl) ?_))))
theorem mW {l:List Bd} {n:ByteArray} (hl:l.length<=100000):ak prog 177 [.sl 4 (l.map ag), .sc (.string n)] (i6 (ew n l)) []:=by
 refine bR [] [] [.tmp 4] func177 (by kernel_rfl) ntmps177 rfl rfl rfl ⟨rfl,rfl⟩ (by simp(disch:=omega)only[seval,go_sem,cI,List.replicate,l_2,l_1];rfl) ?_;((repeat'(first|simp only[seval,go_sem]|(with_reducible refine aV (st:=[]) ?_))));(with_reducible refine ay.cX (fun (k:Nat)=>[(5,i6 k),(4,.any)]++aN 6 22) (fun (k:Nat)=>[]) (fun (k:Nat)=>k<=l.length/\k7 (gP n) (l.drop k) k=ew n l) (fun (k:Nat)=>l.length-k) (0) (⟨ek _,rfl⟩) (by intro _;simp(disch:=omega)only[seval,go_sem,cI];rfl) (by simp only[seval,go_sem]) (fun k hI=>?_));obtain ⟨hk,hf⟩:=hI;by_cases hlt:k<l.length
 focus
  obtain ⟨b,hb⟩:=aZ hlt;have hb':=get_map ag hb;rw[aH hb,k7] at hf;cases h1:(b.name.toList==n.toList)
  ·have hp:gP n b=false:=by unfold gP lq;rw[h1];rfl
   rw[aE (by simp[hp])] at hf;((repeat'(first|simp only[seval,go_sem,ag,hb',h1]|(with_reducible first|refine aV (st:=[]) ?_|refine ai (by simp(disch:=omega)only[seval,go_sem,cI,ag,hb',h1];rfl) ?_))));all_goals(try(refine aP (k+1) (by simp only[seval,go_sem];first|((repeat'(with_reducible apply And.intro))<;>first|rfl)) ?_ ?_<;>(try(omega))))
   all_goals(try(exact ⟨by omega,hf⟩))
  focus
   by_cases h2:b.to=0
   focus
    have hp:gP n b=true:=by unfold gP lq;rw[h1,h2];rfl
    rw[bC hp] at hf;rw[<- hf];have hZ:=(And.intro hb' h1)
   rotate_left 1
   ·have hp:gP n b=false:=by unfold gP lq;rw[yX.2 h2,Bool.and_false]
    rw[aE (by simp[hp])] at hf;((repeat'(first|simp only[seval,go_sem,ag,hb',h1]|(with_reducible first|refine aV (st:=[]) ?_|refine ai (by simp(disch:=omega)only[seval,go_sem,cI,ag,hb',h1];rfl) ?_))));all_goals(try(refine aP (k+1) (by simp only[seval,go_sem];first|((repeat'(with_reducible apply And.intro))<;>first|rfl)) ?_ ?_<;>(try(omega))))
    all_goals(try(exact ⟨by omega,hf⟩))
  rotate_left 1
 rotate_left 1
 focus
  rw[j9 (by omega),k7] at hf;rw[<- hf];have hZ:=ek 0
 rotate_left 1;all_goals((repeat'(first|simp only[seval,go_sem,ag,hZ]|(with_reducible refine aV (st:=[]) ?_)|(with_reducible refine ai (by simp(disch:=omega)only[seval,go_sem,cI,ag,hZ];rfl) ?_))))
theorem mA {l:List Bd} {n:ByteArray} {c:Int} (hl:l.length<=100000):ak prog 90 [.sl 4 (l.map ag), .sc (.string n),i6 c] (.cT [i6 (b9 n c l).1, .sc (.bool (b9 n c l).2)]) []:=by
 refine bR [] [9,23] [.tmp 6, .tmp 7] func90 (by kernel_rfl) ntmps90 rfl rfl rfl ⟨rfl,rfl⟩ (by simp(disch:=omega)only[seval,go_sem,cI,List.replicate,l_2,l_1];rfl) ?_;((repeat'(first|simp only[seval,go_sem]|(with_reducible refine aV (st:=[]) ?_))));(with_reducible refine ay.cX (fun (k:Nat)=>[(12,i6 k),(6,.any),(7,.any),(9,.any)]++aN 13 15) (fun (k:Nat)=>[(9,.dead),(23,.dead)]) (fun (k:Nat)=>k<=l.length/\b9 n c (l.drop k)=b9 n c l) (fun (k:Nat)=>l.length-k) (0) (⟨ek _,rfl⟩) (by intro _;simp(disch:=omega)only[seval,go_sem,cI];rfl) (by simp only[seval,go_sem]) (fun k hI=>?_));obtain ⟨hk,hf⟩:=hI;by_cases hlt:k<l.length
 focus
  obtain ⟨b,hb⟩:=aZ hlt;have hb':=get_map ag hb;rw[aH hb,b9,lq] at hf;cases h1:(b.name.toList==n.toList)
  ·rw[h1,JT,aE (by decide)] at hf;((repeat'(first|simp only[seval,go_sem,ag,hb',h1]|(with_reducible first|refine aV (st:=[]) ?_|refine ai (by simp(disch:=omega)only[seval,go_sem,cI,ag,hb',h1];rfl) ?_))));all_goals(try(refine aP (k+1) (by simp only[seval,go_sem];first|((repeat'(with_reducible apply And.intro))<;>first|rfl)) ?_ ?_<;>(try(omega))))
   all_goals(try(exact ⟨by omega,hf⟩))
  focus
   rw[h1,CF] at hf;cases h2:eX b.eo b.to c
   ·rw[aE (by simp[h2])] at hf;((repeat'(first|simp only[seval,go_sem,ag,hb',h1,h2]|((with_reducible refine bJ ?_);refine aq.c (mU) ?_)|(with_reducible first|refine aD (st:=[]) ?_|refine aV (st:=[]) ?_|refine ai (by simp(disch:=omega)only[seval,go_sem,cI,ag,hb',h1,h2];rfl) ?_))));all_goals(try(refine aP (k+1) (by simp only[seval,go_sem];first|((repeat'(with_reducible apply And.intro))<;>first|rfl)) ?_ ?_<;>(try(omega))))
    all_goals(try(exact ⟨by omega,hf⟩))
   focus
    rw[bC h2] at hf;rw[<- hf];have hZ:=(And.intro hb' (And.intro h1 h2))
   rotate_left 1
  rotate_left 1
 rotate_left 1
 focus
  rw[j9 (by omega),b9] at hf;rw[<- hf];have hZ:=ek 0
 rotate_left 1;all_goals((repeat'(first|simp only[seval,go_sem,ag,hZ]|((with_reducible refine bJ ?_);refine aq.c (mU) ?_)|(with_reducible first|refine aD (st:=[]) ?_|refine aV (st:=[]) ?_|refine ai (by simp(disch:=omega)only[seval,go_sem,cI,ag,hZ];rfl) ?_))))
theorem vn {l:List Bd} {n:ByteArray} {c:Int} (hl:l.length<=100000):ak prog 140 [.sl 4 (l.map ag), .sc (.string n),i6 c] (.cT [i6 (b9 n c l).1, .sc (.bool (b9 n c l).2)]) []:=by
 refine bR [] [34] [.tmp 6, .tmp 7] func140 (by kernel_rfl) ntmps140 rfl rfl rfl ⟨rfl,rfl⟩ (by simp(disch:=omega)only[seval,go_sem,cI,List.replicate,l_2,l_1];rfl) ?_;((repeat'(first|simp only[seval,go_sem]|(with_reducible refine aV (st:=[]) ?_))));(with_reducible refine ay.cX (fun (k:Nat)=>[(8,i6 k),(6,.any),(7,.any)]++aN 9 32) (fun (k:Nat)=>[(34,.dead)]) (fun (k:Nat)=>k<=l.length/\b9 n c (l.drop k)=b9 n c l) (fun (k:Nat)=>l.length-k) (0) (⟨ek _,rfl⟩) (by intro _;simp(disch:=omega)only[seval,go_sem,cI];rfl) (by simp only[seval,go_sem]) (fun k hI=>?_));obtain ⟨hk,hf⟩:=hI;by_cases hlt:k<l.length
 focus
  obtain ⟨b,hb⟩:=aZ hlt;have hb':=get_map ag hb;rw[aH hb,b9,lq] at hf;cases h1:(b.name.toList==n.toList)
  ·rw[h1,JT,aE (by decide)] at hf;((repeat'(first|simp only[seval,go_sem,ag,hb',h1]|(with_reducible refine br ?_;refine dX mix (by kernel_rfl) ?_)|(with_reducible first|refine aV (st:=[]) ?_|refine dO (by simp(disch:=omega)only[seval,go_sem,cI,ag,hb',h1];rfl) ?_|refine ai (by simp(disch:=omega)only[seval,go_sem,cI,ag,hb',h1];rfl) ?_))));all_goals(try(refine aP (k+1) (by simp only[seval,go_sem];first|((repeat'(with_reducible apply And.intro))<;>first|rfl)) ?_ ?_<;>(try(omega))))
   all_goals(try(exact ⟨by omega,hf⟩))
  focus
   rw[h1,CF] at hf;cases h2:eX b.eo b.to c
   ·rw[aE (by simp[h2])] at hf
    ((repeat'(first|simp only[seval,go_sem,ag,hb',h1,h2]|(with_reducible refine br ?_;refine dX mix (by kernel_rfl) ?_)|(with_reducible refine gQ ?_)|((with_reducible refine nB ?_);refine fP.c (iA) ?_)|(with_reducible first|refine aV (st:=[]) ?_|refine dO (by simp(disch:=omega)only[seval,go_sem,cI,ag,hb',h1,h2];rfl) ?_|refine ai (by simp(disch:=omega)only[seval,go_sem,cI,ag,hb',h1,h2];rfl) ?_))))
    all_goals(try(refine aP (k+1) (by simp only[seval,go_sem];first|((repeat'(with_reducible apply And.intro))<;>first|rfl)) ?_ ?_<;>(try(omega))))
    all_goals(try(exact ⟨by omega,hf⟩))
   focus
    rw[bC h2] at hf;rw[<- hf];have hZ:=(And.intro hb' (And.intro h1 h2))
   rotate_left 1
  rotate_left 1
 rotate_left 1
 focus
  rw[j9 (by omega),b9] at hf;rw[<- hf];have hZ:=ek 0
 rotate_left 1
 all_goals((repeat'(first|simp only[seval,go_sem,ag,hZ]|(with_reducible refine br ?_;refine dX mix (by kernel_rfl) ?_)|(with_reducible refine gQ ?_)|((with_reducible refine nB ?_);refine fP.c (iA) ?_)|(with_reducible first|refine aV (st:=[]) ?_|refine dO (by simp(disch:=omega)only[seval,go_sem,cI,ag,hZ];rfl) ?_|refine ai (by simp(disch:=omega)only[seval,go_sem,cI,ag,hZ];rfl) ?_))))
def eE (s:ByteArray):List D:=[.sc (.string s)]
def tC (n:ByteArray):List ByteArray->List ByteArray
 | []=>[n]
 | y::l=>if ri y n=true then y::tC n l else if lq y n=true then y::l else n::y::l
def iV (c:Int):List Bd->List ByteArray->List ByteArray
 | [],a=>a
 | b::l,a=>if eX b.eo b.to c=true then iV c l (tC b.name a) else iV c l a
end Go.Proofs.YteemiclhnfkekaaGreat
