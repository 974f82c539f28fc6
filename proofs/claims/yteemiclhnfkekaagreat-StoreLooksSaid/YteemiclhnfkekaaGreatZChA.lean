/- What the chain's functions and the reference's compute, as plain Lean; the walks of the first of them. -/
import Derived.Test.YteemiclhnfkekaaGreatZBase
import Derived.Test.YteemiclhnfkekaaGreatZAvmX
set_option linter.unusedSimpArgs false
set_option linter.unusedVariables false
set_option maxRecDepth 100000
set_option maxHeartbeats 1600000
namespace Go.Proofs.YteemiclhnfkekaaGreat
open Go.RowKit Go.fe
def cN (z:Int):List D:=[.sc (.int .i64 z)]
structure fE where
 from_:Int
 to:Int
 size:Int
 pages:List Int
 deriving DecidableEq
def aL (v:fE):List D:=[.sc (.int .i64 v.from_), .sc (.int .i64 v.to), .sc (.int .i64 v.size), .sl 1 (v.pages.map cN)]
def mg (f t c:Int):Bool:=decide (f<=c)&&(decide (c<t)||decide (t=0))
def ga (c:Int):List fE->Nat->Int×Bool
 | [],_=>(0,false)
 | v::vs,k=>if mg v.from_ v.to c then (k,true) else ga c vs (k+1)
def er (prev:Option fE):List fE->Int
 | []=>0
 | v::vs=>if v.from_<1\/v.to<0\/v.size<0 then 5 else if v.to≠0/\v.to<=v.from_ then 19 else
    match prev with
    | some p=>if p.to=0\/v.from_<p.to then 19 else er (some v) vs
    | none=>er (some v) vs
def qY (vs:List fE) (k:Nat):Option fE:=if k=0 then none else vs[k-1]?
theorem rZ {vs:List fE} {c:Int} (hl:vs.length<=100000):ak Tryz.prog 138 [.sl 4 (vs.map aL),i6 c] (.cT [i6 (ga c vs 0).1, .sc (.bool (ga c vs 0).2)]) []:=by
 refine bR [] [7] [.tmp 4, .tmp 5] Tryz.func138 (by kernel_rfl) Tryz.ntmps138 rfl rfl rfl ⟨rfl,rfl⟩ (by simp(disch:=omega)only[seval,go_sem,cI,List.replicate,l_2,l_1];rfl) ?_;((repeat'(first|simp only[seval,go_sem]|(with_reducible refine aV (st:=[]) ?_))));(with_reducible refine ay.cX (fun (k:Nat)=>[(10,i6 k)]++aN 4 4++aN 11 21) (fun (k:Nat)=>[(7,.dead)]) (fun (k:Nat)=>k<=vs.length/\ga c (vs.drop k) k=ga c vs 0) (fun (k:Nat)=>vs.length-k) (0) (⟨ek _,rfl⟩) (by intro _;simp(disch:=omega)only[seval,go_sem,cI];rfl) (by simp only[seval,go_sem]) (fun k hI=>?_));obtain ⟨hk,hf⟩:=hI;by_cases hlt:k<vs.length
 ·obtain ⟨v,hv⟩:=aZ hlt;have fL:=get_map aL hv;((repeat'(first|(with_reducible refine cB ?_;intro hc;(try simp only[fH,reduceCtorEq] at hc);(try(exfalso;omega)))|simp only[seval,go_sem,fL,aL]|(with_reducible first|refine aV (st:=[]) ?_|refine ai (by simp(disch:=omega)only[seval,go_sem,cI,fL,aL];rfl) ?_|refine dV ?_|refine cO (cL ?_) (cL ?_)|refine And.intro ?_ ?_))));all_goals(try(refine aP (k+1) ?_ ?_ ?_<;>(first|(with_reducible refine lD ?_<;>simp only[seval,go_sem]<;>(repeat'(with_reducible apply And.intro))<;>(try rfl))|skip)<;>(try(omega))))
  all_goals first|omega|(refine ⟨by omega,?_⟩;rw[<- hf,aH hv];simp[ga,mg, *];omega)|(rw[<- hf,aH hv];simp[ga,mg, *])
 ·((repeat'(first|simp only[seval,go_sem]|(with_reducible refine aV (st:=[]) ?_)|(with_reducible refine ai (by simp(disch:=omega)only[seval,go_sem,cI];rfl) ?_)|(with_reducible refine And.intro ?_ ?_))))
  all_goals(rw[<- hf,j9 (by omega)];simp[ga])
theorem zu {f t c:Int}:ak Tryz.prog 77 [i6 f,i6 t,i6 c] (.sc (.bool (mg f t c))) []:=by
 refine bR [] [] [.tmp 6] Tryz.func77 (by kernel_rfl) Tryz.ntmps77 rfl rfl rfl ⟨rfl,rfl⟩ (by simp(disch:=omega)only[seval,go_sem,cI,List.replicate,l_2,l_1];rfl) ?_
 ((repeat'(first|(with_reducible refine cB ?_;intro hc;(try simp only[fH,reduceCtorEq] at hc);(try(exfalso;omega)))|simp only[seval,go_sem]|((with_reducible refine au ?_);((with_reducible first|refine ah.step (by simp only[seval,go_sem];rfl) ?_|refine ah.step (by simp(disch:=omega)only[seval,go_sem,cI];rfl) ?_);refine dI (st:=[16,17]) ?_))|(with_reducible first|refine aV (st:=[16,17]) ?_|refine ai (by simp(disch:=omega)only[seval,go_sem,cI];rfl) ?_|refine dV ?_|refine And.intro ?_ ?_))))
 all_goals(simp[mg, *])
 all_goals omega
theorem vk {vs:List fE} {c:Int} (hl:vs.length<=100000):ak Tryz.prog 141 [.sl 4 (vs.map aL),i6 c] (.cT [i6 (ga c vs 0).1, .sc (.bool (ga c vs 0).2)]) []:=by
 refine bR [] [24] [.tmp 4, .tmp 5] Tryz.func141 (by kernel_rfl) Tryz.ntmps141 rfl rfl rfl ⟨rfl,rfl⟩ (by simp(disch:=omega)only[seval,go_sem,cI,List.replicate,l_2,l_1];rfl) ?_;((repeat'(first|simp only[seval,go_sem]|(with_reducible refine aV (st:=[]) ?_))));(with_reducible refine ay.cX (fun (k:Nat)=>[(6,i6 k),(4,.any),(5,.any)]++aN 7 19) (fun (k:Nat)=>[(24,.dead)]) (fun (k:Nat)=>k<=vs.length/\ga c (vs.drop k) k=ga c vs 0) (fun (k:Nat)=>vs.length-k) (0) (⟨ek _,rfl⟩) (by intro _;simp(disch:=omega)only[seval,go_sem,cI];rfl) (by simp only[seval,go_sem]) (fun k hI=>?_));obtain ⟨hk,hf⟩:=hI;by_cases hlt:k<vs.length
 ·obtain ⟨v,hv⟩:=aZ hlt;have fL:=get_map aL hv
  ((repeat'(first|(with_reducible refine cB ?_;intro hc;(try simp only[fH,reduceCtorEq] at hc);(try(exfalso;omega)))|simp only[seval,go_sem,fL,aL]|(with_reducible refine br ?_;refine dX mix (by kernel_rfl) ?_)|(with_reducible refine gQ ?_)|((with_reducible refine nA ?_);refine fO.c (zu) ?_)|(with_reducible first|refine aV (st:=[]) ?_|refine dO (by simp(disch:=omega)only[seval,go_sem,cI,fL,aL];rfl) ?_|refine ai (by simp(disch:=omega)only[seval,go_sem,cI,fL,aL];rfl) ?_|refine cO (cL ?_) (cL ?_)|refine And.intro ?_ ?_))))
  all_goals(try(refine aP (k+1) ?_ ?_ ?_<;>(first|(with_reducible refine lD ?_<;>simp only[seval,go_sem]<;>(repeat'(with_reducible apply And.intro))<;>(try rfl))|skip)<;>(try(omega))))
  all_goals first|omega|(refine ⟨by omega,?_⟩;rw[<- hf,aH hv];simp[ga, *];done)|(rw[<- hf,aH hv];simp[ga, *])
 ·((repeat'(first|simp only[seval,go_sem]|(with_reducible refine aV (st:=[]) ?_)|(with_reducible refine ai (by simp(disch:=omega)only[seval,go_sem,cI];rfl) ?_)|(with_reducible refine And.intro ?_ ?_))))
  all_goals(rw[<- hf,j9 (by omega)];simp[ga])
set_option maxHeartbeats 3200000
theorem oC {vs:List fE} {k:Nat} {v:fE} (h:vs[k]? = some v):qY vs (k+1)=some v:=by simp[qY,h]
theorem qH {vs:List fE} {k:Nat} {u:fE} (h:0<k) (hu:vs[k-1]? = some u):qY vs k=some u:=by simp[qY,hu];omega
theorem mP {vs:List fE} (hl:vs.length<=100000):ak Tryz.prog 159 [.sl 4 (vs.map aL)] (i6 (er none vs)) []:=by
 refine bR [] [4] [.tmp 2] Tryz.func159 (by kernel_rfl) Tryz.ntmps159 rfl rfl rfl ⟨rfl,rfl⟩ (by simp(disch:=omega)only[seval,go_sem,cI,List.replicate,l_2,l_1];rfl) ?_;((repeat'(first|simp only[seval,go_sem]|(with_reducible refine aV (st:=[]) ?_))));(with_reducible refine ay.cX (fun (k:Nat)=>[(7,i6 k)]++aN 2 3++aN 8 50) (fun (k:Nat)=>[(4,.dead)]) (fun (k:Nat)=>k<=vs.length/\er (qY vs k) (vs.drop k)=er none vs) (fun (k:Nat)=>vs.length-k) (0) (⟨ek _,rfl⟩) (by intro _;simp(disch:=omega)only[seval,go_sem,cI];rfl) (by simp only[seval,go_sem]) (fun k hI=>?_));obtain ⟨hk,hf⟩:=hI;by_cases hlt:k<vs.length
 ·obtain ⟨v,hv⟩:=aZ hlt;have fL:=get_map aL hv;by_cases h0:k=0
  ·subst h0
   ((repeat'(first|(with_reducible refine cB ?_;intro hc;(try simp only[fH,reduceCtorEq] at hc);(try(exfalso;omega)))|simp only[seval,go_sem,fL,aL]|(with_reducible refine br ?_;refine dX mix (by kernel_rfl) ?_)|(with_reducible first|refine aV (st:=[]) ?_|refine dO (by simp(disch:=omega)only[seval,go_sem,cI,fL,aL];rfl) ?_|refine ai (by simp(disch:=omega)only[seval,go_sem,cI,fL,aL];rfl) ?_|refine dV ?_|refine cO (cL ?_) (cL ?_)|refine And.intro ?_ ?_))))
   all_goals(try(refine aP (1) ?_ ?_ ?_<;>(first|(with_reducible refine lD ?_<;>simp only[seval,go_sem]<;>(repeat'(with_reducible apply And.intro))<;>(try rfl))|skip)<;>(try(omega))))
   all_goals first|omega|(refine ⟨by omega,?_⟩;rw[<- hf,aH hv,oC hv];simp[er,qY];omega)|(rw[<- hf,aH hv];simp[er,qY];omega)
  ·obtain ⟨u,hu⟩:=aZ (show k-1<vs.length by omega);have pH:=get_map aL hu
   ((repeat'(first|(with_reducible refine cB ?_;intro hc;(try simp only[fH,reduceCtorEq] at hc);(try(exfalso;omega)))|simp only[seval,go_sem,aL,fL,pH]|(with_reducible refine br ?_;refine dX mix (by kernel_rfl) ?_)|(with_reducible first|refine aV (st:=[]) ?_|refine dO (by simp(disch:=omega)only[seval,go_sem,cI,aL,fL,pH];rfl) ?_|refine Bo ?_|refine ai (by simp(disch:=omega)only[seval,go_sem,cI,aL,fL,pH];rfl) ?_|refine dV ?_|refine cO (cL ?_) (cL ?_)|refine And.intro ?_ ?_))))
   all_goals(try(refine aP (k+1) ?_ ?_ ?_<;>(first|(with_reducible refine lD ?_<;>simp only[seval,go_sem]<;>(repeat'(with_reducible apply And.intro))<;>(try rfl))|skip)<;>(try(omega))))
   all_goals first|(refine ⟨by omega,?_⟩;rw[<- hf,aH hv,oC hv,qH (by omega) hu];simp[er];omega)|(rw[<- hf,aH hv,qH (by omega) hu];simp[er];omega)
 ·((repeat'(first|simp only[seval,go_sem]|(with_reducible refine aV (st:=[]) ?_)|(with_reducible refine ai (by simp(disch:=omega)only[seval,go_sem,cI];rfl) ?_))))
  all_goals(rw[<- hf,j9 (by omega)];simp[er])
theorem lI {vs:List fE} (hl:vs.length<=100000):ak Tryz.prog 176 [.sl 4 (vs.map aL)] (i6 (er none vs)) []:=by
 refine bR [] [4] [.tmp 2] Tryz.func176 (by kernel_rfl) Tryz.ntmps176 rfl rfl rfl ⟨rfl,rfl⟩ (by simp(disch:=omega)only[seval,go_sem,cI,List.replicate,l_2,l_1];rfl) ?_;((repeat'(first|simp only[seval,go_sem]|(with_reducible refine aV (st:=[]) ?_))));(with_reducible refine ay.cX (fun (k:Nat)=>[(3,i6 k),(2,.any)]++aN 4 56) (fun (k:Nat)=>[(4,.dead)]) (fun (k:Nat)=>k<=vs.length/\er (qY vs k) (vs.drop k)=er none vs) (fun (k:Nat)=>vs.length-k) (0) (⟨ek _,rfl⟩) (by intro _;simp(disch:=omega)only[seval,go_sem,cI];rfl) (by simp only[seval,go_sem]) (fun k hI=>?_));obtain ⟨hk,hf⟩:=hI;by_cases hlt:k<vs.length
 ·obtain ⟨v,hv⟩:=aZ hlt;have fL:=get_map aL hv;by_cases h0:k=0
  ·subst h0
   ((repeat'(first|(with_reducible refine cB ?_;intro hc;(try simp only[fH,reduceCtorEq] at hc);(try(exfalso;omega)))|simp only[seval,go_sem,fL,aL]|(with_reducible refine br ?_;refine dX mix (by kernel_rfl) ?_)|(with_reducible first|refine aV (st:=[]) ?_|refine dO (by simp(disch:=omega)only[seval,go_sem,cI,fL,aL];rfl) ?_|refine ai (by simp(disch:=omega)only[seval,go_sem,cI,fL,aL];rfl) ?_|refine dV ?_|refine cO (cL ?_) (cL ?_)|refine And.intro ?_ ?_))))
   all_goals(try(refine aP (1) ?_ ?_ ?_<;>(first|(with_reducible refine lD ?_<;>simp only[seval,go_sem]<;>(repeat'(with_reducible apply And.intro))<;>(try rfl))|skip)<;>(try(omega))))
   all_goals first|omega|(refine ⟨by omega,?_⟩;rw[<- hf,aH hv,oC hv];simp[er,qY];omega)|(rw[<- hf,aH hv];simp[er,qY];omega)
  ·obtain ⟨u,hu⟩:=aZ (show k-1<vs.length by omega);have pH:=get_map aL hu
   ((repeat'(first|(with_reducible refine cB ?_;intro hc;(try simp only[fH,reduceCtorEq] at hc);(try(exfalso;omega)))|simp only[seval,go_sem,aL,fL,pH]|(with_reducible refine br ?_;refine dX mix (by kernel_rfl) ?_)|(with_reducible first|refine aV (st:=[]) ?_|refine dO (by simp(disch:=omega)only[seval,go_sem,cI,aL,fL,pH];rfl) ?_|refine Bo ?_|refine ai (by simp(disch:=omega)only[seval,go_sem,cI,aL,fL,pH];rfl) ?_|refine dV ?_|refine cO (cL ?_) (cL ?_)|refine And.intro ?_ ?_))))
   all_goals(try(refine aP (k+1) ?_ ?_ ?_<;>(first|(with_reducible refine lD ?_<;>simp only[seval,go_sem]<;>(repeat'(with_reducible apply And.intro))<;>(try rfl))|skip)<;>(try(omega))))
   all_goals first|(refine ⟨by omega,?_⟩;rw[<- hf,aH hv,oC hv,qH (by omega) hu];simp[er];omega)|(rw[<- hf,aH hv,qH (by omega) hu];simp[er];omega)
 ·((repeat'(first|simp only[seval,go_sem]|(with_reducible refine aV (st:=[]) ?_)|(with_reducible refine ai (by simp(disch:=omega)only[seval,go_sem,cI];rfl) ?_))))
  all_goals(rw[<- hf,j9 (by omega)];simp[er])
theorem rI {rows:List (List D)} (hl:rows.length<=1000000):ak Tryz.prog 76 [.sl 1 rows] (.cW 0 1 0 rows.length) [.row 1 rows]:=by
 refine dP [] [5,7] Tryz.func76 rfl call76 rfl (by decide) (by decide) rfl rfl Tryz.ntmps76 (by simp(disch:=omega)only[seval,go_sem,cI,List.replicate,l_2,l_1];rfl) (by simp(disch:=omega)only[seval,go_sem,cI,l_2,l_1];rfl) ?_
 ((repeat'(first|(with_reducible first|refine ay.seq ?_|refine ay.skip ?_|refine ay.ret ?_|refine ah.nil ?_|refine bG ?_|refine eB ?_|refine ay.bE (by simp only[fk,eM];rfl) ?_)|((with_reducible refine au ?_);first|(with_reducible first|refine ah.step (by simp only[seval,go_sem];rfl) ?_|refine ah.step (by simp(disch:=omega)only[seval,go_sem,cI];rfl) ?_)|(with_reducible refine BG ?_;with_reducible refine ah.KD (by simp only[seval,go_sem]) (by simp only[seval,go_sem];rfl) (by simp only[seval,go_sem];rfl) (by simp only[seval,go_sem];rfl) (fun b hb=>?_)))|(with_reducible refine cg ?_;with_reducible refine ay.cond (by simp only[seval,go_sem];rfl) (cL ?_) (cL ?_))|(with_reducible refine cB ?_;intro hc;(try simp only[fH,reduceCtorEq] at hc);(try(exfalso;omega)))|(with_reducible refine aB ?_;refine aC.q rfl rfl (by simp only[seval,go_sem];rfl) (by decide) (by simp only[seval,go_sem];rfl) (by simp only[seval,go_sem];rfl) rfl ?_<;>(try simp only[seval,go_sem])<;>(repeat'(with_reducible apply And.intro))<;>(try rfl)))))
 ·have h0:rows=[]:=tY (hb hc);subst h0;(refine aC.fT 2 7 1 (by first|(simp only[seval,go_sem])) (by first|(simp only[seval,go_sem])) (by simp only[seval,go_sem];rfl) ?_);(with_reducible refine aB ?_;refine aC.q rfl rfl (by simp only[seval,go_sem];rfl) (by decide) (by simp only[seval,go_sem];rfl) (by simp only[seval,go_sem];rfl) rfl ?_<;>(try simp only[seval,go_sem])<;>(repeat'(with_reducible apply And.intro))<;>(try rfl))<;>simp
theorem jM {vs:List fE} (hl:vs.length<=100000) (hp:∀ v∈vs,v.pages.length<=1000000):ak Tryz.prog 160 [.sl 4 (vs.map aL)] (.cW 0 4 0 vs.length) [.row 4 (vs.map aL)]:=by
 refine bR [] [5,14,18,19] [.tmp 2] Tryz.func160 (by kernel_rfl) Tryz.ntmps160 rfl rfl rfl ⟨rfl,rfl⟩ (by simp(disch:=omega)only[seval,go_sem,cI,List.replicate,l_2,l_1];rfl) ?_;((repeat'(first|simp only[seval,go_sem]|(with_reducible refine aV (st:=[]) ?_))));(refine ay.fT 3 19 4 (by first|(simp only[seval,go_sem])) (by first|(simp only[seval,go_sem])) (by simp only[seval,go_sem];rfl) ?_);(with_reducible refine ay.cX (fun (k:Nat)=>[(8,i6 k),(3,.cW 19 4 0 k),(5,.any)]++aN 9 12) (fun (k:Nat)=>[(19,.row 4 ((vs.take k).map aL)),(5,.dead),(14,.dead),(18,.dead)]) (fun (k:Nat)=>k<=vs.length) (fun (k:Nat)=>vs.length-k) (0) (ek _) (by intro _;simp(disch:=omega)only[seval,go_sem,cI];rfl) (by simp only[seval,go_sem]) (fun k hI=>?_));by_cases hlt:k<vs.length
 ·obtain ⟨v,hv⟩:=aZ hlt;have fL:=get_map aL hv;have AA:=hp v (fS hv);have htl:(vs.take k).length=k:=by rw[cw];omega
  ((repeat'(first|simp only[seval,go_sem,aL,dD,Nat.reduceAdd,fL,htl]|((with_reducible refine bJ ?_);refine aq.n (rI ?_) ?_)|((with_reducible refine au ?_);first|(with_reducible refine aD (st:=[]) ?_)|(with_reducible refine ah.gu 14 (by simp only[seval,go_sem,aL,dD,Nat.reduceAdd,fL,htl];rfl) (by simp only[seval,go_sem,aL,dD,Nat.reduceAdd,fL,htl];rfl) ?_;refine dI (st:=[]) ?_))|(with_reducible first|refine aV (st:=[]) ?_|refine ai (by simp(disch:=omega)only[seval,go_sem,cI,aL,dD,Nat.reduceAdd,fL,htl];rfl) ?_)))<;>(try((with_reducible assumption))))
  all_goals(try(refine aP (k+1) ?_ ?_ ?_<;>(first|(with_reducible refine lD ?_<;>simp only[seval,go_sem]<;>(repeat'(with_reducible apply And.intro))<;>(try rfl))|skip)<;>(try(first|omega|(simp;omega)))))
  all_goals first|(simp;omega)|(rw[Cu hv];simp[aL])
 ·have hk:k=vs.length:=by omega
  subst hk;((repeat'(first|simp only[seval,go_sem]|(with_reducible refine aV (st:=[]) ?_)|(with_reducible refine ai (by simp(disch:=omega)only[seval,go_sem,cI];rfl) ?_))));all_goals simp
structure Pn where
 commit:Int
 count:Int
 deriving DecidableEq
def aW (p:Pn):List D:=[.sc (.int .i64 p.commit), .sc (.int .i64 p.count)]
def dY (f t:Int):List Pn->Bool
 | []=>false
 | p::l=>if f<=p.commit/\(p.commit<t\/t=0) then true else dY f t l
theorem lN {l:List Pn} {f t:Int} (hl:l.length<=100000):ak Tryz.prog 129 [.sl 2 (l.map aW),i6 f,i6 t] (.sc (.bool (dY f t l))) []:=by
 refine bR [] [8] [.tmp 6] Tryz.func129 (by kernel_rfl) Tryz.ntmps129 rfl rfl rfl ⟨rfl,rfl⟩ (by simp(disch:=omega)only[seval,go_sem,cI,List.replicate,l_2,l_1];rfl) ?_;((repeat'(first|simp only[seval,go_sem]|(with_reducible refine aV (st:=[]) ?_))));(with_reducible refine ay.cX (fun (k:Nat)=>[(11,i6 k),(6,.any),(8,.any)]++aN 12 18) (fun (k:Nat)=>[(8,.dead)]) (fun (k:Nat)=>k<=l.length/\dY f t (l.drop k)=dY f t l) (fun (k:Nat)=>l.length-k) (0) (⟨ek _,rfl⟩) (by intro _;simp(disch:=omega)only[seval,go_sem,cI];rfl) (by simp only[seval,go_sem]) (fun k hI=>?_));obtain ⟨hk,hf⟩:=hI;by_cases hlt:k<l.length
 ·obtain ⟨v,hv⟩:=aZ hlt;have fL:=get_map aW hv;((repeat'(first|(with_reducible refine cB ?_;intro hc;(try simp only[fH,reduceCtorEq] at hc);(try(exfalso;omega)))|simp only[seval,go_sem,fL,aW]|(with_reducible first|refine aV (st:=[]) ?_|refine ai (by simp(disch:=omega)only[seval,go_sem,cI,fL,aW];rfl) ?_|refine dV ?_|refine cO (cL ?_) (cL ?_)|refine And.intro ?_ ?_))));all_goals(try(refine aP (k+1) ?_ ?_ ?_<;>(first|(with_reducible refine lD ?_<;>simp only[seval,go_sem]<;>(repeat'(with_reducible apply And.intro))<;>(try rfl))|skip)<;>(try(omega))))
  all_goals(try(refine ⟨by omega,?_⟩)) 
  all_goals(rw[<- hf,aH hv];simp[dY];omega)
 ·((repeat'(first|simp only[seval,go_sem]|(with_reducible refine aV (st:=[]) ?_)|(with_reducible refine ai (by simp(disch:=omega)only[seval,go_sem,cI];rfl) ?_))))
  all_goals(rw[<- hf,j9 (by omega)];simp[dY])
theorem kR {l:List Pn} {f t:Int} (hl:l.length<=100000):ak Tryz.prog 133 [.sl 2 (l.map aW),i6 f,i6 t] (.sc (.bool (dY f t l))) []:=by
 refine bR [] [] [.tmp 6] Tryz.func133 (by kernel_rfl) Tryz.ntmps133 rfl rfl rfl ⟨rfl,rfl⟩ (by simp(disch:=omega)only[seval,go_sem,cI,List.replicate,l_2,l_1];rfl) ?_;((repeat'(first|simp only[seval,go_sem]|(with_reducible refine aV (st:=[]) ?_))));(with_reducible refine ay.cX (fun (k:Nat)=>[(7,i6 k),(6,.any)]++aN 8 26) (fun (k:Nat)=>[]) (fun (k:Nat)=>k<=l.length/\dY f t (l.drop k)=dY f t l) (fun (k:Nat)=>l.length-k) (0) (⟨ek _,rfl⟩) (by intro _;simp(disch:=omega)only[seval,go_sem,cI];rfl) (by simp only[seval,go_sem]) (fun k hI=>?_));obtain ⟨hk,hf⟩:=hI;by_cases hlt:k<l.length
 ·obtain ⟨v,hv⟩:=aZ hlt;have fL:=get_map aW hv;((repeat'(first|(with_reducible refine cB ?_;intro hc;(try simp only[fH,reduceCtorEq] at hc);(try(exfalso;omega)))|simp only[seval,go_sem,fL,aW]|(with_reducible first|refine aV (st:=[]) ?_|refine ai (by simp(disch:=omega)only[seval,go_sem,cI,fL,aW];rfl) ?_|refine dV ?_|refine cO (cL ?_) (cL ?_)|refine And.intro ?_ ?_))));all_goals(try(refine aP (k+1) ?_ ?_ ?_<;>(first|(with_reducible refine lD ?_<;>simp only[seval,go_sem]<;>(repeat'(with_reducible apply And.intro))<;>(try rfl))|skip)<;>(try(omega))))
  all_goals(try(refine ⟨by omega,?_⟩)) 
  all_goals(rw[<- hf,aH hv];simp[dY];omega)
 ·((repeat'(first|simp only[seval,go_sem]|(with_reducible refine aV (st:=[]) ?_)|(with_reducible refine ai (by simp(disch:=omega)only[seval,go_sem,cI];rfl) ?_))))
  all_goals(rw[<- hf,j9 (by omega)];simp[dY])
def dK (prev:Option Pn):List Pn->Int
 | []=>0
 | p::l=>if p.commit<0\/p.count<1\/p.count>1024 then 5 else
    match prev with
    | some q=>if p.commit<=q.commit then 19 else dK (some p) l
    | none=>dK (some p) l
def qZ (l:List Pn) (k:Nat):Option Pn:=if k=0 then none else l[k-1]?
theorem oD {vs:List Pn} {k:Nat} {v:Pn} (h:vs[k]? = some v):qZ vs (k+1)=some v:=by simp[qZ,h]
theorem qI {vs:List Pn} {k:Nat} {u:Pn} (h:0<k) (hu:vs[k-1]? = some u):qZ vs k=some u:=by simp[qZ,hu];omega
def q9 (n c:Int):Int:=min (n+min (max c 0) 1099511627776) 1099511627776
def iJ:List Pn->Int->Int
 | [],n=>n
 | p::l,n=>iJ l (q9 n p.count)
theorem gF {l:List Pn} (hl:l.length<=100000):ak Tryz.prog 105 [.sl 2 (l.map aW)] (i6 (dK none l)) []:=by
 refine bR [] [4] [.tmp 2] Tryz.func105 (by kernel_rfl) Tryz.ntmps105 rfl rfl rfl ⟨rfl,rfl⟩ (by simp(disch:=omega)only[seval,go_sem,cI,List.replicate,l_2,l_1];rfl) ?_;((repeat'(first|simp only[seval,go_sem]|(with_reducible refine aV (st:=[]) ?_))));(with_reducible refine ay.cX (fun (k:Nat)=>[(7,i6 k)]++aN 2 3++aN 8 31) (fun (k:Nat)=>[(4,.dead)]) (fun (k:Nat)=>k<=l.length/\dK (qZ l k) (l.drop k)=dK none l) (fun (k:Nat)=>l.length-k) (0) (⟨ek _,rfl⟩) (by intro _;simp(disch:=omega)only[seval,go_sem,cI];rfl) (by simp only[seval,go_sem]) (fun k hI=>?_));obtain ⟨hk,hf⟩:=hI;by_cases hlt:k<l.length
 ·obtain ⟨v,hv⟩:=aZ hlt;have fL:=get_map aW hv;by_cases h0:k=0
  ·subst h0
   ((repeat'(first|(with_reducible refine cB ?_;intro hc;(try simp only[fH,reduceCtorEq] at hc);(try(exfalso;omega)))|simp only[seval,go_sem,fL,aW]|(with_reducible refine br ?_;refine dX mix (by kernel_rfl) ?_)|(with_reducible first|refine aV (st:=[]) ?_|refine dO (by simp(disch:=omega)only[seval,go_sem,cI,fL,aW];rfl) ?_|refine ai (by simp(disch:=omega)only[seval,go_sem,cI,fL,aW];rfl) ?_|refine dV ?_|refine cO (cL ?_) (cL ?_)|refine And.intro ?_ ?_))))
   all_goals(try(refine aP (1) ?_ ?_ ?_<;>(first|(with_reducible refine lD ?_<;>simp only[seval,go_sem]<;>(repeat'(with_reducible apply And.intro))<;>(try rfl))|skip)<;>(try(omega))))
   all_goals first|omega|(refine ⟨by omega,?_⟩;rw[<- hf,aH hv,oD hv];simp[dK,qZ];omega)|(rw[<- hf,aH hv];simp[dK,qZ];omega)
  ·obtain ⟨u,hu⟩:=aZ (show k-1<l.length by omega);have pH:=get_map aW hu
   ((repeat'(first|(with_reducible refine cB ?_;intro hc;(try simp only[fH,reduceCtorEq] at hc);(try(exfalso;omega)))|simp only[seval,go_sem,aW,fL,pH]|(with_reducible refine br ?_;refine dX mix (by kernel_rfl) ?_)|(with_reducible first|refine aV (st:=[]) ?_|refine dO (by simp(disch:=omega)only[seval,go_sem,cI,aW,fL,pH];rfl) ?_|refine ai (by simp(disch:=omega)only[seval,go_sem,cI,aW,fL,pH];rfl) ?_|refine dV ?_|refine cO (cL ?_) (cL ?_)|refine And.intro ?_ ?_))))
   all_goals(try(refine aP (k+1) ?_ ?_ ?_<;>(first|(with_reducible refine lD ?_<;>simp only[seval,go_sem]<;>(repeat'(with_reducible apply And.intro))<;>(try rfl))|skip)<;>(try(omega))))
   all_goals first|(refine ⟨by omega,?_⟩;rw[<- hf,aH hv,oD hv,qI (by omega) hu];simp[dK];omega)|(rw[<- hf,aH hv,qI (by omega) hu];simp[dK];omega)
 ·((repeat'(first|simp only[seval,go_sem]|(with_reducible refine aV (st:=[]) ?_)|(with_reducible refine ai (by simp(disch:=omega)only[seval,go_sem,cI];rfl) ?_))))
  all_goals(rw[<- hf,j9 (by omega)];simp[dK])
theorem jq {l:List Pn} (hl:l.length<=100000):ak Tryz.prog 110 [.sl 2 (l.map aW)] (i6 (dK none l)) []:=by
 refine bR [] [] [.tmp 2] Tryz.func110 (by kernel_rfl) Tryz.ntmps110 rfl rfl rfl ⟨rfl,rfl⟩ (by simp(disch:=omega)only[seval,go_sem,cI,List.replicate,l_2,l_1];rfl) ?_;((repeat'(first|simp only[seval,go_sem]|(with_reducible refine aV (st:=[]) ?_))));(with_reducible refine ay.cX (fun (k:Nat)=>[(3,i6 k),(2,.any)]++aN 4 44) (fun (k:Nat)=>[]) (fun (k:Nat)=>k<=l.length/\dK (qZ l k) (l.drop k)=dK none l) (fun (k:Nat)=>l.length-k) (0) (⟨ek _,rfl⟩) (by intro _;simp(disch:=omega)only[seval,go_sem,cI];rfl) (by simp only[seval,go_sem]) (fun k hI=>?_));obtain ⟨hk,hf⟩:=hI;by_cases hlt:k<l.length
 ·obtain ⟨v,hv⟩:=aZ hlt;have fL:=get_map aW hv;by_cases h0:k=0
  ·subst h0
   ((repeat'(first|(with_reducible refine cB ?_;intro hc;(try simp only[fH,reduceCtorEq] at hc);(try(exfalso;omega)))|simp only[seval,go_sem,fL,aW]|(with_reducible refine br ?_;refine dX mix (by kernel_rfl) ?_)|(with_reducible first|refine aV (st:=[]) ?_|refine dO (by simp(disch:=omega)only[seval,go_sem,cI,fL,aW];rfl) ?_|refine ai (by simp(disch:=omega)only[seval,go_sem,cI,fL,aW];rfl) ?_|refine dV ?_|refine cO (cL ?_) (cL ?_)|refine And.intro ?_ ?_))))
   all_goals(try(refine aP (1) ?_ ?_ ?_<;>(first|(with_reducible refine lD ?_<;>simp only[seval,go_sem]<;>(repeat'(with_reducible apply And.intro))<;>(try rfl))|skip)<;>(try(omega))))
   all_goals first|omega|(refine ⟨by omega,?_⟩;rw[<- hf,aH hv,oD hv];simp[dK,qZ];omega)|(rw[<- hf,aH hv];simp[dK,qZ];omega)
  ·obtain ⟨u,hu⟩:=aZ (show k-1<l.length by omega);have pH:=get_map aW hu
   ((repeat'(first|(with_reducible refine cB ?_;intro hc;(try simp only[fH,reduceCtorEq] at hc);(try(exfalso;omega)))|simp only[seval,go_sem,aW,fL,pH]|(with_reducible refine br ?_;refine dX mix (by kernel_rfl) ?_)|(with_reducible first|refine aV (st:=[]) ?_|refine dO (by simp(disch:=omega)only[seval,go_sem,cI,aW,fL,pH];rfl) ?_|refine ai (by simp(disch:=omega)only[seval,go_sem,cI,aW,fL,pH];rfl) ?_|refine dV ?_|refine cO (cL ?_) (cL ?_)|refine And.intro ?_ ?_))))
   all_goals(try(refine aP (k+1) ?_ ?_ ?_<;>(first|(with_reducible refine lD ?_<;>simp only[seval,go_sem]<;>(repeat'(with_reducible apply And.intro))<;>(try rfl))|skip)<;>(try(omega))))
   all_goals first|(refine ⟨by omega,?_⟩;rw[<- hf,aH hv,oD hv,qI (by omega) hu];simp[dK];omega)|(rw[<- hf,aH hv,qI (by omega) hu];simp[dK];omega)
 ·((repeat'(first|simp only[seval,go_sem]|(with_reducible refine aV (st:=[]) ?_)|(with_reducible refine ai (by simp(disch:=omega)only[seval,go_sem,cI];rfl) ?_))))
  all_goals(rw[<- hf,j9 (by omega)];simp[dK])
theorem DA {l:List Pn} (hl:l.length<=100000):ak Tryz.prog 66 [.sl 2 (l.map aW)] (i6 (iJ l 0)) []:=by
 refine bR [] [5] [.tmp 2] Tryz.func66 (by kernel_rfl) Tryz.ntmps66 rfl rfl rfl ⟨rfl,rfl⟩ (by simp(disch:=omega)only[seval,go_sem,cI,List.replicate,l_2,l_1];rfl) ?_;((repeat'(first|simp only[seval,go_sem]|(with_reducible refine aV (st:=[]) ?_))))
 (with_reducible refine ay.cX (fun (t:Nat×Int)=>[(8,i6 t.1),(3,i6 t.2),(5,.any)]++aN 9 11) (fun (t:Nat×Int)=>[(5,.dead)]) (fun (t:Nat×Int)=>t.1<=l.length/\0<=t.2/\t.2<=1099511627776/\iJ (l.drop t.1) t.2=iJ l 0) (fun (t:Nat×Int)=>l.length-t.1) ((0,0)) (⟨ek _,by simp,by simp,rfl⟩) (by intro _;simp(disch:=omega)only[seval,go_sem,cI];rfl) (by simp only[seval,go_sem]) (fun t hI=>?_))
 obtain ⟨k,n⟩:=t;obtain ⟨hk,hn0,MH,hf⟩:=hI;simp only at hk hn0 MH hf;by_cases hlt:k<l.length
 ·obtain ⟨v,hv⟩:=aZ hlt;have fL:=get_map aW hv;((repeat'(first|simp only[seval,go_sem,fL,aW]|(with_reducible refine aV (st:=[]) ?_)|(with_reducible refine ai (by simp(disch:=omega)only[seval,go_sem,cI,fL,aW];rfl) ?_))));all_goals(refine aP ((k+1,q9 n v.count)) (by simp only[seval,go_sem,q9];first|((repeat'(with_reducible apply And.intro))<;>first|rfl|omega)) ?_ ?_<;>(try(omega)))
  all_goals(refine ⟨by simp only;omega,by simp only[q9];omega,by simp only[q9];omega,?_⟩;simp only;rw[<- hf,aH hv];simp[iJ])
 ·((repeat'(first|simp only[seval,go_sem]|(with_reducible refine aV (st:=[]) ?_)|(with_reducible refine ai (by simp(disch:=omega)only[seval,go_sem,cI];rfl) ?_))))
  all_goals(rw[<- hf,j9 (by omega)];simp[iJ])
theorem zv {a:Int}:ak Tryz.prog 143 [i6 a] (i6 (max a 0)) []:=by
 refine bR [] [] [.tmp 2] Tryz.func143 (by kernel_rfl) Tryz.ntmps143 rfl rfl rfl ⟨rfl,rfl⟩ (by simp(disch:=omega)only[seval,go_sem,cI,List.replicate,l_2,l_1];rfl) ?_;((repeat'(first|simp only[seval,go_sem]|(with_reducible refine aV (st:=[]) ?_))));all_goals omega
def xB (a b m:Int):Int×Bool:=if max a 0>max m 0\/max b 0>max m 0-max a 0 then (max m 0,true) else (max a 0+max b 0,false)
theorem FL {a b m:Int} (hm:m<=4611686018427387904):ak Tryz.prog 67 [i6 a,i6 b,i6 m] (.cT [i6 (xB a b m).1, .sc (.bool (xB a b m).2)]) []:=by
 refine bR [] [9,11,13] [.tmp 6, .tmp 7] Tryz.func67 (by kernel_rfl) Tryz.ntmps67 rfl rfl rfl ⟨rfl,rfl⟩ (by simp(disch:=omega)only[seval,go_sem,cI,List.replicate,l_2,l_1];rfl) ?_
 ((repeat'(first|(with_reducible refine cB ?_;intro hc;(try simp only[fH,reduceCtorEq] at hc);(try(exfalso;omega)))|simp only[seval,go_sem]|((with_reducible refine bJ ?_);refine aq.c (zv) ?_)|(with_reducible first|refine aD (st:=[]) ?_|refine aV (st:=[]) ?_|refine ai (by simp(disch:=omega)only[seval,go_sem,cI];rfl) ?_|refine dV ?_|refine cO (cL ?_) (cL ?_)|refine And.intro ?_ ?_))))
 all_goals(simp only[xB];split<;>(first|rfl|omega))
theorem BP {l:List Pn} (hl:l.length<=100000):ak Tryz.prog 25 [.sl 2 (l.map aW)] (i6 (iJ l 0)) []:=by
 refine bR [] [18] [.tmp 2] Tryz.func25 (by kernel_rfl) Tryz.ntmps25 rfl rfl rfl ⟨rfl,rfl⟩ (by simp(disch:=omega)only[seval,go_sem,cI,List.replicate,l_2,l_1];rfl) ?_;((repeat'(first|simp only[seval,go_sem]|(with_reducible refine aV (st:=[]) ?_))))
 (with_reducible refine ay.cX (fun (t:Nat×Int)=>[(4,i6 t.1),(3,i6 t.2)]++aN 5 16) (fun (t:Nat×Int)=>[(18,.dead)]) (fun (t:Nat×Int)=>t.1<=l.length/\0<=t.2/\t.2<=1099511627776/\iJ (l.drop t.1) t.2=iJ l 0) (fun (t:Nat×Int)=>l.length-t.1) ((0,0)) (⟨ek _,by simp,by simp,rfl⟩) (by intro _;simp(disch:=omega)only[seval,go_sem,cI];rfl) (by simp only[seval,go_sem]) (fun t hI=>?_))
 obtain ⟨k,n⟩:=t;obtain ⟨hk,hn0,MH,hf⟩:=hI;simp only at hk hn0 MH hf;by_cases hlt:k<l.length
 ·obtain ⟨v,hv⟩:=aZ hlt;have fL:=get_map aW hv
  have he:(xB n v.count 1099511627776).1=q9 n v.count:=by
   simp only[xB,q9];split<;>omega
  ((repeat'(first|simp only[seval,go_sem,fL,aW]|((with_reducible refine bJ ?_);refine aq.c (FL ?_) ?_)|(with_reducible first|refine aD (st:=[]) ?_|refine aV (st:=[]) ?_|refine ai (by simp(disch:=omega)only[seval,go_sem,cI,fL,aW];rfl) ?_))))
  all_goals(try omega)
  all_goals(refine aP ((k+1,q9 n v.count)) (by simp only[seval,go_sem,he];first|((repeat'(with_reducible apply And.intro))<;>first|rfl)) ?_ ?_<;>(try(omega)))
  all_goals(refine ⟨by simp only;omega,by simp only[q9];omega,by simp only[q9];omega,?_⟩;simp only;rw[<- hf,aH hv];simp[iJ])
 ·((repeat'(first|simp only[seval,go_sem]|(with_reducible refine aV (st:=[]) ?_)|(with_reducible refine ai (by simp(disch:=omega)only[seval,go_sem,cI];rfl) ?_))))
  all_goals(rw[<- hf,j9 (by omega)];simp[iJ])
structure Cn (l:List Pn):Prop where
 range:∀ p∈l,0<=p.commit/\1<=p.count/\p.count<=1024
 pM:l.Pairwise (fun a b=>a.commit<b.commit)
theorem AB:∀ (l:List Pn) (prev:Option Pn),dK prev l=0->Cn l/\∀ q,prev=some q->∀ p∈l,q.commit<p.commit
 | [],_,_=>⟨⟨by simp,List.Pairwise.nil⟩,by simp⟩
 | v::l,prev,h=>by
   unfold dK at h
   split at h
   ·omega
   ·rename_i hr
    have key:dK (some v) l=0/\∀ q,prev=some q->q.commit<v.commit:=by
     cases prev with
     | none=>exact ⟨by simpa using h,by simp⟩
     | some q=>
       simp only at h
       split at h
       ·omega
       ·exact ⟨h,fun q' e=>by cases e;omega⟩
    obtain ⟨hl,hq⟩:=AB l (some v) key.1;refine ⟨⟨fun p hp=>?_,List.Pairwise.cons (fun p hp=>hq v rfl p hp) hl.pM⟩,fun q e p hp=>?_⟩
    ·rcases lp.1 hp with rfl|hp
     ·omega
     ·exact hl.range p hp
    ·have h1:=key.2 q e;rcases lp.1 hp with rfl|hp
     ·exact h1
     ·exact Int.lt_trans h1 (hq v rfl p hp)
theorem oE {l:List Pn} (h:dK none l=0):Cn l:=(AB l none h).1
theorem Cn.tail {p:Pn} {l:List Pn} (h:Cn (p::l)):Cn l/\∀ q∈l,p.commit<q.commit:=by
 have:=h.pM;rw[M9] at this;exact ⟨⟨fun q hq=>h.range q (HZ _ hq),this.2⟩,this.1⟩
def gf (c:Int):List Pn->Nat
 | []=>0
 | p::l=>if p.commit<c then gf c l+1 else 0
theorem uF (c:Int):∀ l,gf c l<=l.length
 | []=>by simp[gf]
 | p::l=>by
   unfold gf;have:=uF c l
   split<;>simp only[List.length_cons]<;>omega
theorem AE (c:Int):∀ (l:List Pn) (i:Nat),i<=l.length->(∀ j q,j<i->l[j]? = some q->q.commit<c)->(∀ q,l[i]? = some q->c<=q.commit)->gf c l=i
 | [],i,h,_,_=>by simp only[List.length_nil,Nat.le_zero] at h;subst h;rfl
 | p::l,0,_,_,h2=>by
   have:=h2 p rfl;unfold gf;rw[aE (by omega)]
 | p::l,i+1,h,h1,h2=>by
   have h3:=h1 0 p (by omega) rfl;unfold gf;rw[bC h3,AE c l i (by simpa using h) (fun j q hj hq=>h1 (j+1) q (by omega) (by simpa using hq)) (fun q hq=>h2 q (by simpa using hq))]
theorem Hs {l:List Pn} (h:l.Pairwise (fun a b=>a.commit<b.commit)) {i j:Nat} {x y:Pn} (hx:l[i]? = some x) (hy:l[j]? = some y) (hij:i<j):x.commit<y.commit:=by
 obtain ⟨h1,rfl⟩:=jL.1 hx;obtain ⟨h2,rfl⟩:=jL.1 hy;exact JW.1 h i j h1 h2 hij
def i5 (c:Int):List Pn->List Pn
 | []=>[⟨c,1⟩]
 | p::l=>if c<p.commit then ⟨c,1⟩::p::l else if p.commit=c then ⟨p.commit,p.count+1⟩::l else p::i5 c l
def kn (c:Int):List Pn->Bool
 | []=>false
 | p::l=>if p.commit=c/\p.count=1024 then true else kn c l
def kH (l:List Pn) (c:Int):List Pn×Int:=
 if dK none l≠0 then ([],dK none l) else if c<0 then ([],5) else if kn c l then ([],14) else (i5 c l,0)
def qh (c:Int):List Pn->Bool
 | []=>false
 | p::l=>if p.commit=c then true else qh c l
def gG (c:Int):List Pn->List Pn
 | []=>[]
 | p::l=>if p.commit=c then (if p.count-1>0 then ⟨p.commit,p.count-1⟩::gG c l else gG c l) else if p.count>0 then p::gG c l else gG c l
def jh (l:List Pn) (c:Int):List Pn×Int:=
 if dK none l≠0 then ([],dK none l) else if qh c l then (gG c l,0) else ([],8)
theorem r7 {c:Int}:∀ {l:List Pn},(∀ q∈l,c<q.commit)->kn c l=false/\qh c l=false/\((∀ q∈l,1<=q.count)->gG c l=l)
 | [],_=>⟨rfl,rfl,fun _=>rfl⟩
 | p::l,h=>by
   have h1:=h p (by simp);obtain ⟨h2,h3,h4⟩:=r7 (fun q hq=>h q (HZ _ hq));refine ⟨?_,?_,fun hc=>?_⟩
   ·unfold kn;rw[aE (by omega)];exact h2
   ·unfold qh;rw[aE (by omega)];exact h3
   ·have:=hc p (by simp);unfold gG;rw[aE (by omega),bC (by omega),h4 (fun q hq=>hc q (HZ _ hq))]
theorem FM {c:Int}:∀ {l:List Pn} {p:Pn},Cn l->l[gf c l]? = some p->p.commit=c->
  kn c l=decide (p.count=1024)/\i5 c l=l.set (gf c l) ⟨p.commit,p.count+1⟩/\qh c l=true/\gG c l=if p.count-1=0 then l.take (gf c l)++l.drop (gf c l+1) else l.set (gf c l) ⟨p.commit,p.count-1⟩
 | [],p,_,h,_=>by simp at h
 | q::l,p,ok,h,hc=>by
   obtain ⟨JK,hab⟩:=ok.tail;have hr:=ok.range q (by simp);unfold gf at h ⊢;by_cases hlt:q.commit<c
   ·simp only[bC hlt] at h ⊢;rw[eg] at h;obtain ⟨h1,h2,h3,h4⟩:=FM JK h hc;refine ⟨?_,?_,?_,?_⟩
    ·unfold kn;rw[aE (by omega)];exact h1
    ·unfold i5;rw[aE (by omega),aE (by omega),h2];rfl
    ·unfold qh;rw[aE (by omega)];exact h3
    ·unfold gG;rw[aE (by omega),bC (by omega),h4];split<;>rfl
   ·simp only[aE hlt] at h ⊢;simp only[dJ,fF] at h;subst h;obtain ⟨f1,f2,f3⟩:=r7 (c:=c) (l:=l) (fun r hr=>by have:=hab r hr;omega);have ZD:=f3 (fun r hr=>(JK.range r hr).2.1);refine ⟨?_,?_,?_,?_⟩
    ·unfold kn;by_cases hk:q.count=1024
     ·rw[bC ⟨hc,hk⟩];simp[hk]
     ·rw[aE (by omega),f1];simp[hk]
    ·unfold i5;rw[aE (by omega),bC hc];rfl
    ·unfold qh;rw[bC hc]
    ·unfold gG;rw[bC hc,ZD];by_cases hk:q.count-1=0
     ·rw[aE (by omega),bC hk];rfl
     ·rw[bC (by omega),aE hk];rfl
theorem tj {c:Int}:∀ {l:List Pn},Cn l->(∀ p,l[gf c l]? = some p->p.commit≠c)->kn c l=false/\i5 c l=l.take (gf c l)++[⟨c,1⟩]++l.drop (gf c l)/\qh c l=false
 | [],_,_=>⟨rfl,rfl,rfl⟩
 | q::l,ok,h=>by
   obtain ⟨JK,hab⟩:=ok.tail;unfold gf at h ⊢;by_cases hlt:q.commit<c
   ·simp only[bC hlt] at h ⊢;obtain ⟨h1,h2,h3⟩:=tj JK (fun p hp=>h p (by simpa using hp));refine ⟨?_,?_,?_⟩
    ·unfold kn;rw[aE (by omega)];exact h1
    ·unfold i5;rw[aE (by omega),aE (by omega),h2];rfl
    ·unfold qh;rw[aE (by omega)];exact h3
   ·simp only[aE hlt] at h ⊢;have hne:=h q rfl;obtain ⟨f1,f2,_⟩:=r7 (c:=c) (l:=l) (fun r hr=>by have:=hab r hr;omega);refine ⟨?_,?_,?_⟩
    ·unfold kn;rw[aE (by omega)];exact f1
    ·unfold i5;rw[bC (by omega)];rfl
    ·unfold qh;rw[aE (by omega)];exact f2
theorem AF (c:Int):∀ l:List Pn,(i5 c l).length<=l.length+1
 | []=>by simp[i5]
 | p::l=>by
   unfold i5;have:=AF c l
   split
   ·simp
   ·split<;>simp<;>omega
theorem AG (c:Int):∀ l:List Pn,(gG c l).length<=l.length
 | []=>by simp[gG]
 | p::l=>by
   unfold gG;have:=AG c l
   split
   ·split<;>simp<;>omega
   ·split<;>simp<;>omega
theorem LI {l:List Pn} {c:Int} {n:Nat} (h:l.length<=n):(kH l c).1.length<=n+1:=by
 have:=AF c l;unfold kH;split
 ·simp
 ·split
  ·simp
  ·split
   ·simp
   ·simp only;omega
theorem LJ {l:List Pn} {c:Int} {n:Nat} (h:l.length<=n):(jh l c).1.length<=n:=by
 have:=AG c l;unfold jh;split
 ·simp
 ·split
  ·simp only;omega
  ·simp
theorem nP:∀ x:List UInt8,Op.bytesLess x x=false
 | []=>rfl
 | a::x=>by
   have h:¬ a<a:=by rw[Vo];omega
   simp[Op.bytesLess,h,nP x]
theorem qi:∀ {x y z:List UInt8},Op.bytesLess x y=true->Op.bytesLess y z=true->Op.bytesLess x z=true
 | _,[],_,h,_=>by cases ‹List UInt8›<;>simp[Op.bytesLess] at h
 | _,_::_,[],_,h=>by simp[Op.bytesLess] at h
 | [],_::_,_::_,_,_=>rfl
 | a::x,b::y,c::z,h,g=>by
   simp only[Op.bytesLess,vN,jl,pP,nX] at h g ⊢;rcases h with h|⟨h,h'⟩
   ·rcases g with g|⟨g,g'⟩
    ·left;rw[Vo] at h g ⊢;omega
    ·subst g;exact Or.inl h
   ·subst h;rcases g with g|⟨g,g'⟩
    ·exact Or.inl g
    ·exact Or.inr ⟨g,qi h' g'⟩
theorem mA:∀ x y:List UInt8,Op.bytesLess x y=true\/x=y\/Op.bytesLess y x=true
 | [],[]=>Or.inr (Or.inl rfl)
 | [],_::_=>Or.inl rfl
 | _::_,[]=>Or.inr (Or.inr rfl)
 | a::x,b::y=>by
   simp only[Op.bytesLess,vN,jl,pP,nX,Pu];rcases SB a.toNat b.toNat with h|h|h
   ·exact Or.inl (Or.inl (Vo.2 h))
   ·have e:a=b:=UInt8.toNat_inj.1 h;subst e;rcases mA x y with h|h|h
    ·exact Or.inl (Or.inr ⟨rfl,h⟩)
    ·exact Or.inr (Or.inl ⟨rfl,h⟩)
    ·exact Or.inr (Or.inr (Or.inr ⟨rfl,h⟩))
   ·exact Or.inr (Or.inr (Or.inl (Vo.2 h)))
theorem tn {x y:List UInt8} (h:Op.bytesLess x y=true):Op.bytesLess y x=false:=by
 cases hh:Op.bytesLess y x with
 | false=>rfl
 | true=>have:=qi h hh;rw[nP] at this;cases this
theorem LK {x y:List UInt8} (h:Op.bytesLess x y=true):x≠y:=fun e=>by subst e;rw[nP] at h;cases h
theorem uG {x y:List UInt8} (h:Op.bytesLess y x=false) (hn:x≠y):Op.bytesLess x y=true:=by
 rcases mA x y with h'|h'|h'
 ·exact h'
 ·exact absurd h' hn
 ·rw[h] at h';cases h'
end Go.Proofs.YteemiclhnfkekaaGreat
