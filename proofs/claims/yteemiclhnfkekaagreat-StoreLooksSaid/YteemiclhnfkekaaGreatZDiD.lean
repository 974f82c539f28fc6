/- Directory: the walks of Lookup, open, late of the program and of the reference, and of the searches with a test. -/
import Derived.Test.YteemiclhnfkekaaGreatZDiP
set_option linter.unusedSimpArgs false
set_option linter.unusedVariables false
set_option maxRecDepth 100000
set_option maxHeartbeats 3200000
namespace Go.Proofs.YteemiclhnfkekaaGreat
open Go.RowKit Go.fe Tryz
theorem DU {b:Bd} {c:Int}:ak prog 199 [.agg (ag b), .ro [i6 c]] (.sc (.bool (decide (c<b.eo)||decide (c<b.to)))) []:=by
 simp only[ag];refine bR [] [2] [.tmp 3] func199 (by kernel_rfl) ntmps199 rfl rfl rfl ⟨rfl,rfl⟩ (by simp(disch:=omega)only[seval,go_sem,cI,List.replicate,l_2,l_1];rfl) ?_
 ((repeat'(first|(with_reducible refine cB ?_;intro hc;(try simp only[fH,reduceCtorEq] at hc);(try(exfalso;omega)))|simp only[seval,go_sem]|((with_reducible refine au ?_);((with_reducible first|refine ah.step (by simp only[seval,go_sem];rfl) ?_|refine ah.step (by simp(disch:=omega)only[seval,go_sem,cI];rfl) ?_);refine dI (st:=[12]) ?_))|(with_reducible first|refine aV (st:=[12]) ?_|refine ai (by simp(disch:=omega)only[seval,go_sem,cI];rfl) ?_|refine dV ?_|refine And.intro ?_ ?_))))
 all_goals(try(first|rfl|(simp;omega)|(simp_all;done)|(simp_all;omega)))
theorem DV {b:Bd} {n:ByteArray}:ak prog 202 [.agg (ag b), .ro [.sc (.string n)]] (.sc (.bool (gP n b))) []:=by
 unfold gP lq;simp only[ag];refine bR [] [2] [.tmp 3] func202 (by kernel_rfl) ntmps202 rfl rfl rfl ⟨rfl,rfl⟩ (by simp(disch:=omega)only[seval,go_sem,cI,List.replicate,l_2,l_1];rfl) ?_
 ((repeat'(first|(with_reducible refine cB ?_;intro hc;(try simp only[fH,reduceCtorEq] at hc);(try(exfalso;omega)))|simp only[seval,go_sem]|((with_reducible refine au ?_);((with_reducible first|refine ah.step (by simp only[seval,go_sem];rfl) ?_|refine ah.step (by simp(disch:=omega)only[seval,go_sem,cI];rfl) ?_);refine dI (st:=[11]) ?_))|(with_reducible first|refine aV (st:=[11]) ?_|refine ai (by simp(disch:=omega)only[seval,go_sem,cI];rfl) ?_|refine dV ?_|refine And.intro ?_ ?_))))
 all_goals(try(first|rfl|(simp;omega)|(simp_all;done)|(simp_all;omega)))
theorem DW {b:Bd} {n:ByteArray} {o:Int}:ak prog 155 [.agg (ag b), .ro [.sc (.string n)], .ro [i6 o]] (.sc (.bool (b.to==0&&(lq b.name n||b.obj==o)))) []:=by
 unfold lq;simp only[ag];refine bR [] [3] [.tmp 4] func155 (by kernel_rfl) ntmps155 rfl rfl rfl ⟨rfl,rfl⟩ (by simp(disch:=omega)only[seval,go_sem,cI,List.replicate,l_2,l_1];rfl) ?_
 ((repeat'(first|(with_reducible refine cB ?_;intro hc;(try simp only[fH,reduceCtorEq] at hc);(try(exfalso;omega)))|simp only[seval,go_sem]|((with_reducible refine au ?_);((with_reducible first|refine ah.step (by simp only[seval,go_sem];rfl) ?_|refine ah.step (by simp(disch:=omega)only[seval,go_sem,cI];rfl) ?_);refine dI (st:=[17,18]) ?_))|(with_reducible first|refine aV (st:=[17,18]) ?_|refine ai (by simp(disch:=omega)only[seval,go_sem,cI];rfl) ?_|refine dV ?_|refine And.intro ?_ ?_))))
 all_goals(try(first|rfl|(simp;omega)|(simp_all;done)|(simp_all;omega)))
theorem DX {b:Bd} {n:ByteArray} {c:Int}:ak prog 156 [.agg (ag b), .ro [.sc (.string n)], .ro [i6 c]] (.sc (.bool (lq b.name n&&b.eo==c))) []:=by
 unfold lq;simp only[ag];refine bR [] [3] [.tmp 4] func156 (by kernel_rfl) ntmps156 rfl rfl rfl ⟨rfl,rfl⟩ (by simp(disch:=omega)only[seval,go_sem,cI,List.replicate,l_2,l_1];rfl) ?_
 ((repeat'(first|(with_reducible refine cB ?_;intro hc;(try simp only[fH,reduceCtorEq] at hc);(try(exfalso;omega)))|simp only[seval,go_sem]|((with_reducible refine au ?_);((with_reducible first|refine ah.step (by simp only[seval,go_sem];rfl) ?_|refine ah.step (by simp(disch:=omega)only[seval,go_sem,cI];rfl) ?_);refine dI (st:=[13]) ?_))|(with_reducible first|refine aV (st:=[13]) ?_|refine ai (by simp(disch:=omega)only[seval,go_sem,cI];rfl) ?_|refine dV ?_|refine And.intro ?_ ?_))))
 all_goals(try(first|rfl|(simp;omega)|(simp_all;done)|(simp_all;omega)))
theorem xP {p:Bd->Bool}:∀ (l:List Bd) (i:Nat),decide (0<=k8 p l i)=l.any p
 | [],_=>rfl
 | b::l,i=>by
   rw[k8,List.any_cons];cases h:p b
   ·simp only[pT,jc,wo];exact xP l (i+1)
   ·simp
theorem xQ {fc:FuncId} {u:Value} {l:List Bd} {p:Bd->Bool} (hl:l.length<=100000) (h:∀ b,ak prog fc [.agg (ag b), .ro [.sc u]] (.sc (.bool (p b))) []):ak prog 200 [.sl 4 (l.map ag), .fn fc [.ro [.sc u]]] (i6 (k8 p l 0)) []:=by
 refine bR [] [16] [.tmp 4] func200 (by kernel_rfl) ntmps200 rfl rfl rfl ⟨rfl,rfl⟩ (by simp(disch:=omega)only[seval,go_sem,cI,List.replicate,l_2,l_1];rfl) ?_;((repeat'(first|simp only[seval,go_sem]|(with_reducible refine aV (st:=[]) ?_))));(with_reducible refine ay.cX (fun (k:Nat)=>[(8,i6 k),(4,.any),(5,.any)]++aN 9 10) (fun (k:Nat)=>[(16,.dead)]) (fun (k:Nat)=>k<=l.length/\k8 p (l.drop k) k=k8 p l 0) (fun (k:Nat)=>l.length-k) (0) (⟨ek _,rfl⟩) (by intro _;simp(disch:=omega)only[seval,go_sem,cI];rfl) (by simp only[seval,go_sem]) (fun k hI=>?_));obtain ⟨hk,hf⟩:=hI;by_cases hlt:k<l.length
 focus
  obtain ⟨b,hb⟩:=aZ hlt;have hb':=get_map ag hb;have hc1:=h b;simp only[ag] at hc1;rw[aH hb,k8] at hf;cases hp:p b
  ·rw[aE (by simp[hp])] at hf;rw[hp] at hc1;((repeat'(first|simp only[seval,go_sem,hb',ag]|((with_reducible refine bJ ?_);refine aq.c (hc1) ?_)|(with_reducible first|refine aD (st:=[]) ?_|refine aV (st:=[]) ?_|refine ai (by simp(disch:=omega)only[seval,go_sem,cI,hb',ag];rfl) ?_))));all_goals(try(refine aP (k+1) (by simp only[seval,go_sem];first|((repeat'(with_reducible apply And.intro))<;>first|rfl)) ?_ ?_<;>(try(omega))))
   all_goals(try(exact ⟨by omega,hf⟩))
  focus
   rw[bC hp] at hf;rw[<- hf];rw[hp] at hc1;have hZ:=hb'
  rotate_left 1
 rotate_left 1
 focus
  rw[j9 (by omega),k8] at hf;rw[<- hf];have hZ:=ek 0
 rotate_left 1;all_goals((repeat'(first|simp only[seval,go_sem,ag,hZ]|((with_reducible refine bJ ?_);refine aq.c (hc1) ?_)|(with_reducible first|refine aD (st:=[]) ?_|refine aV (st:=[]) ?_|refine ai (by simp(disch:=omega)only[seval,go_sem,cI,ag,hZ];rfl) ?_))))
theorem FZ {fc:FuncId} {u v:Value} {l:List Bd} {p:Bd->Bool} (hl:l.length<=100000) (h:∀ b,ak prog fc [.agg (ag b),.ro [.sc u],.ro [.sc v]] (.sc (.bool (p b))) []):ak prog 200 [.sl 4 (l.map ag),.fn fc [.ro [.sc u],.ro [.sc v]]] (i6 (k8 p l 0)) []:=by
 refine bR [] [16] [.tmp 4] func200 (by kernel_rfl) ntmps200 rfl rfl rfl ⟨rfl,rfl⟩ (by simp(disch:=omega)only[seval,go_sem,cI,List.replicate,l_2,l_1];rfl) ?_;((repeat'(first|simp only[seval,go_sem]|(with_reducible refine aV (st:=[]) ?_))));(with_reducible refine ay.cX (fun (k:Nat)=>[(8,i6 k),(4,.any),(5,.any)]++aN 9 10) (fun (k:Nat)=>[(16,.dead)]) (fun (k:Nat)=>k<=l.length/\k8 p (l.drop k) k=k8 p l 0) (fun (k:Nat)=>l.length-k) (0) (⟨ek _,rfl⟩) (by intro _;simp(disch:=omega)only[seval,go_sem,cI];rfl) (by simp only[seval,go_sem]) (fun k hI=>?_));obtain ⟨hk,hf⟩:=hI;by_cases hlt:k<l.length
 focus
  obtain ⟨b,hb⟩:=aZ hlt;have hb':=get_map ag hb;have hc1:=h b;simp only[ag] at hc1;rw[aH hb,k8] at hf;cases hp:p b
  ·rw[aE (by simp[hp])] at hf;rw[hp] at hc1;((repeat'(first|simp only[seval,go_sem,hb',ag]|((with_reducible refine bJ ?_);refine aq.c (hc1) ?_)|(with_reducible first|refine aD (st:=[]) ?_|refine aV (st:=[]) ?_|refine ai (by simp(disch:=omega)only[seval,go_sem,cI,hb',ag];rfl) ?_))));all_goals(try(refine aP (k+1) (by simp only[seval,go_sem];first|((repeat'(with_reducible apply And.intro))<;>first|rfl)) ?_ ?_<;>(try(omega))))
   all_goals(try(exact ⟨by omega,hf⟩))
  focus
   rw[bC hp] at hf;rw[<- hf];rw[hp] at hc1;have hZ:=hb'
  rotate_left 1
 rotate_left 1
 focus
  rw[j9 (by omega),k8] at hf;rw[<- hf];have hZ:=ek 0
 rotate_left 1;all_goals((repeat'(first|simp only[seval,go_sem,ag,hZ]|((with_reducible refine bJ ?_);refine aq.c (hc1) ?_)|(with_reducible first|refine aD (st:=[]) ?_|refine aV (st:=[]) ?_|refine ai (by simp(disch:=omega)only[seval,go_sem,cI,ag,hZ];rfl) ?_))))
theorem F0 {fc:FuncId} {u:Value} {l:List Bd} {p:Bd->Bool} (hl:l.length<=100000) (h:∀ b,ak prog fc [.agg (ag b), .ro [.sc u]] (.sc (.bool (p b))) []):ak prog 154 [.sl 4 (l.map ag), .fn fc [.ro [.sc u]]] (.sc (.bool (l.any p))) []:=by
 have hi:=xQ hl h;rw[<- xP l 0];refine bR [] [7] [.tmp 4] func154 (by kernel_rfl) ntmps154 rfl rfl rfl ⟨rfl,rfl⟩ (by simp(disch:=omega)only[seval,go_sem,cI,List.replicate,l_2,l_1];rfl) ?_;((repeat'(first|simp only[seval,go_sem]|((with_reducible refine bJ ?_);refine aq.c (hi) ?_)|(with_reducible first|refine aD (st:=[]) ?_|refine aV (st:=[]) ?_|refine ai (by simp(disch:=omega)only[seval,go_sem,cI];rfl) ?_))))
theorem xR {fc:FuncId} {u v:Value} {l:List Bd} {p:Bd->Bool} (hl:l.length<=100000) (h:∀ b,ak prog fc [.agg (ag b),.ro [.sc u],.ro [.sc v]] (.sc (.bool (p b))) []):ak prog 154 [.sl 4 (l.map ag),.fn fc [.ro [.sc u],.ro [.sc v]]] (.sc (.bool (l.any p))) []:=by
 have hi:=FZ hl h;rw[<- xP l 0];refine bR [] [7] [.tmp 4] func154 (by kernel_rfl) ntmps154 rfl rfl rfl ⟨rfl,rfl⟩ (by simp(disch:=omega)only[seval,go_sem,cI,List.replicate,l_2,l_1];rfl) ?_;((repeat'(first|simp only[seval,go_sem]|((with_reducible refine bJ ?_);refine aq.c (hi) ?_)|(with_reducible first|refine aD (st:=[]) ?_|refine aV (st:=[]) ?_|refine ai (by simp(disch:=omega)only[seval,go_sem,cI];rfl) ?_))))
theorem mH {l:List Bd} {c:Int} (hl:l.length<=100000):ak prog 153 [.sl 4 (l.map ag),i6 c] (.sc (.bool (jj c l))) []:=by
 have hi:=F0 hl (fun b=>DU (b:=b) (c:=c));unfold jj;refine bR [] [3,7] [.tmp 4] func153 (by kernel_rfl) ntmps153 rfl rfl rfl ⟨rfl,rfl⟩ (by simp(disch:=omega)only[seval,go_sem,cI,List.replicate,l_2,l_1];rfl) ?_;((repeat'(first|simp only[seval,go_sem]|((with_reducible refine bJ ?_);refine aq.c (hi) ?_)|(with_reducible refine aD (st:=[]) ?_)|(with_reducible refine aV (st:=[]) ?_))))
theorem oH {l:List Bd} {n:ByteArray} (hl:l.length<=100000):ak prog 161 [.sl 4 (l.map ag), .sc (.string n)] (i6 (ew n l)) []:=by
 have hi:=xQ hl (fun b=>DV (b:=b) (n:=n));unfold ew;refine bR [] [3,7] [.tmp 4] func161 (by kernel_rfl) ntmps161 rfl rfl rfl ⟨rfl,rfl⟩ (by simp(disch:=omega)only[seval,go_sem,cI,List.replicate,l_2,l_1];rfl) ?_;((repeat'(first|simp only[seval,go_sem]|((with_reducible refine bJ ?_);refine aq.c (hi) ?_)|(with_reducible refine aD (st:=[]) ?_)|(with_reducible refine aV (st:=[]) ?_))))
theorem jH {l:List Bd} {c:Int} (hl:l.length<=100000):ak prog 174 [.sl 4 (l.map ag),i6 c] (.sc (.bool (jj c l))) []:=by
 refine bR [] [] [.tmp 4] func174 (by kernel_rfl) ntmps174 rfl rfl rfl ⟨rfl,rfl⟩ (by simp(disch:=omega)only[seval,go_sem,cI,List.replicate,l_2,l_1];rfl) ?_;((repeat'(first|simp only[seval,go_sem]|(with_reducible refine aV (st:=[]) ?_))));(with_reducible refine ay.cX (fun (k:Nat)=>[(5,i6 k),(4,.any)]++aN 6 22) (fun (k:Nat)=>[]) (fun (k:Nat)=>k<=l.length/\jj c (l.drop k)=jj c l) (fun (k:Nat)=>l.length-k) (0) (⟨ek _,rfl⟩) (by intro _;simp(disch:=omega)only[seval,go_sem,cI];rfl) (by simp only[seval,go_sem]) (fun k hI=>?_));obtain ⟨hk,hf⟩:=hI;by_cases hlt:k<l.length
 focus
  obtain ⟨b,hb⟩:=aZ hlt;have hb':=get_map ag hb;rw[aH hb,jj,List.any_cons] at hf;by_cases h1:c<b.eo
  focus
   rw[GQ h1,Cl,Cl] at hf;rw[<- hf];have hZ:=hb'
  rotate_left 1
  focus
   by_cases h2:c<b.to
   focus
    rw[GQ h2,Bool.or_true,Cl] at hf;rw[<- hf];have hZ:=hb'
   rotate_left 1
   ·rw[HW h1,HW h2,wo,wo] at hf;((repeat'(first|simp only[seval,go_sem,hb',ag]|(with_reducible refine aV (st:=[]) ?_)|(with_reducible refine ai (by simp(disch:=omega)only[seval,go_sem,cI,hb',ag];rfl) ?_))));all_goals(try(refine aP (k+1) (by simp only[seval,go_sem];first|((repeat'(with_reducible apply And.intro))<;>first|rfl)) ?_ ?_<;>(try(omega))))
    all_goals(try(exact ⟨by omega,hf⟩))
  rotate_left 1
 rotate_left 2
 focus
  rw[j9 (by omega),jj,List.any_nil] at hf;rw[<- hf];have hZ:=ek 0
 rotate_left 1;all_goals((repeat'(first|simp only[seval,go_sem,ag,hZ]|(with_reducible refine aV (st:=[]) ?_)|(with_reducible refine ai (by simp(disch:=omega)only[seval,go_sem,cI,ag,hZ];rfl) ?_))))
theorem mY {l:List Bd} {n:ByteArray} (hl:l.length<=100000):ak prog 177 [.sl 4 (l.map ag), .sc (.string n)] (i6 (ew n l)) []:=by
 refine bR [] [] [.tmp 4] func177 (by kernel_rfl) ntmps177 rfl rfl rfl ⟨rfl,rfl⟩ (by simp(disch:=omega)only[seval,go_sem,cI,List.replicate,l_2,l_1];rfl) ?_;((repeat'(first|simp only[seval,go_sem]|(with_reducible refine aV (st:=[]) ?_))));(with_reducible refine ay.cX (fun (k:Nat)=>[(5,i6 k),(4,.any)]++aN 6 22) (fun (k:Nat)=>[]) (fun (k:Nat)=>k<=l.length/\k8 (gP n) (l.drop k) k=ew n l) (fun (k:Nat)=>l.length-k) (0) (⟨ek _,rfl⟩) (by intro _;simp(disch:=omega)only[seval,go_sem,cI];rfl) (by simp only[seval,go_sem]) (fun k hI=>?_));obtain ⟨hk,hf⟩:=hI;by_cases hlt:k<l.length
 focus
  obtain ⟨b,hb⟩:=aZ hlt;have hb':=get_map ag hb;rw[aH hb,k8] at hf;cases h1:(b.name.toList==n.toList)
  ·have hp:gP n b=false:=by unfold gP lq;rw[h1];rfl
   rw[aE (by simp[hp])] at hf;((repeat'(first|simp only[seval,go_sem,ag,hb',h1]|(with_reducible first|refine aV (st:=[]) ?_|refine ai (by simp(disch:=omega)only[seval,go_sem,cI,ag,hb',h1];rfl) ?_))));all_goals(try(refine aP (k+1) (by simp only[seval,go_sem];first|((repeat'(with_reducible apply And.intro))<;>first|rfl)) ?_ ?_<;>(try(omega))))
   all_goals(try(exact ⟨by omega,hf⟩))
  focus
   by_cases h2:b.to=0
   focus
    have hp:gP n b=true:=by unfold gP lq;rw[h1,h2];rfl
    rw[bC hp] at hf;rw[<- hf];have hZ:=(And.intro hb' h1)
   rotate_left 1
   ·have hp:gP n b=false:=by unfold gP lq;rw[y8.2 h2,Bool.and_false]
    rw[aE (by simp[hp])] at hf;((repeat'(first|simp only[seval,go_sem,ag,hb',h1]|(with_reducible first|refine aV (st:=[]) ?_|refine ai (by simp(disch:=omega)only[seval,go_sem,cI,ag,hb',h1];rfl) ?_))));all_goals(try(refine aP (k+1) (by simp only[seval,go_sem];first|((repeat'(with_reducible apply And.intro))<;>first|rfl)) ?_ ?_<;>(try(omega))))
    all_goals(try(exact ⟨by omega,hf⟩))
  rotate_left 1
 rotate_left 1
 focus
  rw[j9 (by omega),k8] at hf;rw[<- hf];have hZ:=ek 0
 rotate_left 1;all_goals((repeat'(first|simp only[seval,go_sem,ag,hZ]|(with_reducible refine aV (st:=[]) ?_)|(with_reducible refine ai (by simp(disch:=omega)only[seval,go_sem,cI,ag,hZ];rfl) ?_))))
theorem lR {l:List Bd} {n:ByteArray} {c:Int} (hl:l.length<=100000):ak prog 90 [.sl 4 (l.map ag), .sc (.string n),i6 c] (.cT [i6 (b9 n c l).1, .sc (.bool (b9 n c l).2)]) []:=by
 refine bR [] [9,23] [.tmp 6, .tmp 7] func90 (by kernel_rfl) ntmps90 rfl rfl rfl ⟨rfl,rfl⟩ (by simp(disch:=omega)only[seval,go_sem,cI,List.replicate,l_2,l_1];rfl) ?_;((repeat'(first|simp only[seval,go_sem]|(with_reducible refine aV (st:=[]) ?_))));(with_reducible refine ay.cX (fun (k:Nat)=>[(12,i6 k),(6,.any),(7,.any),(9,.any)]++aN 13 15) (fun (k:Nat)=>[(9,.dead),(23,.dead)]) (fun (k:Nat)=>k<=l.length/\b9 n c (l.drop k)=b9 n c l) (fun (k:Nat)=>l.length-k) (0) (⟨ek _,rfl⟩) (by intro _;simp(disch:=omega)only[seval,go_sem,cI];rfl) (by simp only[seval,go_sem]) (fun k hI=>?_));obtain ⟨hk,hf⟩:=hI;by_cases hlt:k<l.length
 focus
  obtain ⟨b,hb⟩:=aZ hlt;have hb':=get_map ag hb;rw[aH hb,b9,lq] at hf;cases h1:(b.name.toList==n.toList)
  ·rw[h1,J1,aE (by decide)] at hf;((repeat'(first|simp only[seval,go_sem,ag,hb',h1]|(with_reducible first|refine aV (st:=[]) ?_|refine ai (by simp(disch:=omega)only[seval,go_sem,cI,ag,hb',h1];rfl) ?_))));all_goals(try(refine aP (k+1) (by simp only[seval,go_sem];first|((repeat'(with_reducible apply And.intro))<;>first|rfl)) ?_ ?_<;>(try(omega))))
   all_goals(try(exact ⟨by omega,hf⟩))
  focus
   rw[h1,Cz] at hf;cases h2:eW b.eo b.to c
   ·rw[aE (by simp[h2])] at hf;((repeat'(first|simp only[seval,go_sem,ag,hb',h1,h2]|((with_reducible refine bJ ?_);refine aq.c (mX) ?_)|(with_reducible first|refine aD (st:=[]) ?_|refine aV (st:=[]) ?_|refine ai (by simp(disch:=omega)only[seval,go_sem,cI,ag,hb',h1,h2];rfl) ?_))));all_goals(try(refine aP (k+1) (by simp only[seval,go_sem];first|((repeat'(with_reducible apply And.intro))<;>first|rfl)) ?_ ?_<;>(try(omega))))
    all_goals(try(exact ⟨by omega,hf⟩))
   focus
    rw[bC h2] at hf;rw[<- hf];have hZ:=(And.intro hb' (And.intro h1 h2))
   rotate_left 1
  rotate_left 1
 rotate_left 1
 focus
  rw[j9 (by omega),b9] at hf;rw[<- hf];have hZ:=ek 0
 rotate_left 1;all_goals((repeat'(first|simp only[seval,go_sem,ag,hZ]|((with_reducible refine bJ ?_);refine aq.c (mX) ?_)|(with_reducible first|refine aD (st:=[]) ?_|refine aV (st:=[]) ?_|refine ai (by simp(disch:=omega)only[seval,go_sem,cI,ag,hZ];rfl) ?_))))
theorem vq {l:List Bd} {n:ByteArray} {c:Int} (hl:l.length<=100000):ak prog 140 [.sl 4 (l.map ag), .sc (.string n),i6 c] (.cT [i6 (b9 n c l).1, .sc (.bool (b9 n c l).2)]) []:=by
 refine bR [] [34] [.tmp 6, .tmp 7] func140 (by kernel_rfl) ntmps140 rfl rfl rfl ⟨rfl,rfl⟩ (by simp(disch:=omega)only[seval,go_sem,cI,List.replicate,l_2,l_1];rfl) ?_;((repeat'(first|simp only[seval,go_sem]|(with_reducible refine aV (st:=[]) ?_))));(with_reducible refine ay.cX (fun (k:Nat)=>[(8,i6 k),(6,.any),(7,.any)]++aN 9 32) (fun (k:Nat)=>[(34,.dead)]) (fun (k:Nat)=>k<=l.length/\b9 n c (l.drop k)=b9 n c l) (fun (k:Nat)=>l.length-k) (0) (⟨ek _,rfl⟩) (by intro _;simp(disch:=omega)only[seval,go_sem,cI];rfl) (by simp only[seval,go_sem]) (fun k hI=>?_));obtain ⟨hk,hf⟩:=hI;by_cases hlt:k<l.length
 focus
  obtain ⟨b,hb⟩:=aZ hlt;have hb':=get_map ag hb;rw[aH hb,b9,lq] at hf;cases h1:(b.name.toList==n.toList)
  ·rw[h1,J1,aE (by decide)] at hf;((repeat'(first|simp only[seval,go_sem,ag,hb',h1]|(with_reducible refine br ?_;refine dX mix (by kernel_rfl) ?_)|(with_reducible first|refine aV (st:=[]) ?_|refine dO (by simp(disch:=omega)only[seval,go_sem,cI,ag,hb',h1];rfl) ?_|refine ai (by simp(disch:=omega)only[seval,go_sem,cI,ag,hb',h1];rfl) ?_))));all_goals(try(refine aP (k+1) (by simp only[seval,go_sem];first|((repeat'(with_reducible apply And.intro))<;>first|rfl)) ?_ ?_<;>(try(omega))))
   all_goals(try(exact ⟨by omega,hf⟩))
  focus
   rw[h1,Cz] at hf;cases h2:eW b.eo b.to c
   ·rw[aE (by simp[h2])] at hf
    ((repeat'(first|simp only[seval,go_sem,ag,hb',h1,h2]|(with_reducible refine br ?_;refine dX mix (by kernel_rfl) ?_)|(with_reducible refine gQ ?_)|((with_reducible refine nA ?_);refine fO.c (iC) ?_)|(with_reducible first|refine aV (st:=[]) ?_|refine dO (by simp(disch:=omega)only[seval,go_sem,cI,ag,hb',h1,h2];rfl) ?_|refine ai (by simp(disch:=omega)only[seval,go_sem,cI,ag,hb',h1,h2];rfl) ?_))))
    all_goals(try(refine aP (k+1) (by simp only[seval,go_sem];first|((repeat'(with_reducible apply And.intro))<;>first|rfl)) ?_ ?_<;>(try(omega))))
    all_goals(try(exact ⟨by omega,hf⟩))
   focus
    rw[bC h2] at hf;rw[<- hf];have hZ:=(And.intro hb' (And.intro h1 h2))
   rotate_left 1
  rotate_left 1
 rotate_left 1
 focus
  rw[j9 (by omega),b9] at hf;rw[<- hf];have hZ:=ek 0
 rotate_left 1
 all_goals((repeat'(first|simp only[seval,go_sem,ag,hZ]|(with_reducible refine br ?_;refine dX mix (by kernel_rfl) ?_)|(with_reducible refine gQ ?_)|((with_reducible refine nA ?_);refine fO.c (iC) ?_)|(with_reducible first|refine aV (st:=[]) ?_|refine dO (by simp(disch:=omega)only[seval,go_sem,cI,ag,hZ];rfl) ?_|refine ai (by simp(disch:=omega)only[seval,go_sem,cI,ag,hZ];rfl) ?_))))
set_option maxHeartbeats 6400000
theorem IY {rows xs:List (List D)} {i:Nat} (hl:rows.length<=1000000) (hx0:0<xs.length) (hx:xs.length<=1000000) (hi:i<=rows.length):aF prog 201 [.row 4 rows,.row 4 xs] [.cW 0 4 0 rows.length,i6 i,.cW 1 4 0 xs.length] (.cW 2 4 0 (rows.length+xs.length)) [.dead,.dead,.row 4 (rows.take i++xs++rows.drop i)]:=by
 have e1:((rows.length:Int)+(xs.length:Int)).toNat=rows.length+xs.length:=by omega
 have e2:((i:Int)+(xs.length:Int)).toNat=i+xs.length:=by omega
 have e3:((rows.length:Int)+(xs.length:Int)-(i:Int)).toNat=rows.length+xs.length-i:=by omega
 refine dL [1000,1001] [25,40,67,93] func201 (by kernel_rfl) ntmps201 rfl rfl ⟨rfl,rfl⟩ (by simp(disch:=omega)only[seval,go_sem,cI,List.replicate,l_2,l_1];rfl) ?_
 ((repeat'(first|(with_reducible refine cB ?_;intro hc;(try simp only[fH,reduceCtorEq] at hc);(try(exfalso;omega)))|(with_reducible refine aY 11 ?_;refine ay.bU 11 mix 9 rfl (.f 0 <| .f 1 <| .f 2 <| .f 3 <| .f 4 <| .f 5 <| .f 6 <| .f 7 <| .a <| .b 8 (.d) .e) (by kernel_rfl) ?_)|(with_reducible refine aY 15 ?_;refine ay.bU 15 mix 9 rfl (.f 0 <| .f 1 <| .f 2 <| .f 3 <| .f 4 <| .f 5 <| .f 6 <| .f 7 <| .a <| .b 8 (.d) .e) (by kernel_rfl) ?_)|(with_reducible refine cA ?_;first|refine aJ.D ?_|refine aJ.F (by simp only[seval,go_sem,eg,dJ];rfl) (by first|(simp only[seval,go_sem,e1,e2,e3,Int.toNat_natCast,bW,aj,cw,bQ,dx])) (by first|(simp only[seval,go_sem,e1,e2,e3,Int.toNat_natCast,bW,aj,cw,bQ,dx];with_reducible rfl)|(simp(disch:=omega)only[seval,go_sem,cI,e1,e2,e3,Int.toNat_natCast,bW,aj,cw,bQ,dx];with_reducible rfl)) ?_|refine aJ.A ?_)|(with_reducible first|exact aI.E|refine aI.B (by simp only[seval,go_sem,eg,dJ];rfl) ?_ ?_)|simp only[seval,go_sem,e1,e2,e3,Int.toNat_natCast,bW,aj,cw,bQ,dx]|((with_reducible refine au ?_);first|(with_reducible first|refine ah.overlaps (f:=221) (fn:=f221) (t:=27) (tR:=4) (by simp only[seval,go_sem,e1,e2,e3,Int.toNat_natCast,bW,aj,cw,bQ,dx]) func221 (by kernel_rfl) (by kernel_rfl) (by kernel_rfl) (by kernel_rfl) (by simp only[seval,go_sem,e1,e2,e3,Int.toNat_natCast,bW,aj,cw,bQ,dx];rfl) (by simp only[seval,go_sem,e1,e2,e3,Int.toNat_natCast,bW,aj,cw,bQ,dx];rfl) (by simp only[seval,go_sem,e1,e2,e3,Int.toNat_natCast,bW,aj,cw,bQ,dx];rfl) (by simp only[seval,go_sem,e1,e2,e3,Int.toNat_natCast,bW,aj,cw,bQ,dx];rfl) (by decide) (by simp only[seval,go_sem,e1,e2,e3,Int.toNat_natCast,bW,aj,cw,bQ,dx];rfl) (by decide) (by simp only[seval,go_sem,e1,e2,e3,Int.toNat_natCast,bW,aj,cw,bQ,dx];rfl) (by simp only[seval,go_sem,e1,e2,e3,Int.toNat_natCast,bW,aj,cw,bQ,dx];rfl) (by (try simp only[aj,dD,bW,List.length_cons,List.length_nil,cw,bQ,dx,splice,Nat.reduceMul]);omega) (by (try simp only[aj,dD,bW,List.length_cons,List.length_nil,cw,bQ,dx,splice,Nat.reduceMul]);omega) (dI (st:=[]) ?_))|(with_reducible refine KG ?_;with_reducible refine ah.copy (by simp only[seval,go_sem,e1,e2,e3,Int.toNat_natCast,bW,aj,cw,bQ,dx]) (by simp only[seval,go_sem,e1,e2,e3,Int.toNat_natCast,bW,aj,cw,bQ,dx];rfl) (by simp only[seval,go_sem,e1,e2,e3,Int.toNat_natCast,bW,aj,cw,bQ,dx];rfl) (by simp only[seval,go_sem,e1,e2,e3,Int.toNat_natCast,bW,aj,cw,bQ,dx];rfl) rfl (by simp only[seval,go_sem,e1,e2,e3,Int.toNat_natCast,bW,aj,cw,bQ,dx];rfl) (by simp only[seval,go_sem,e1,e2,e3,Int.toNat_natCast,bW,aj,cw,bQ,dx];rfl) (by simp(disch:=omega)only[seval,go_sem,cI,e1,e2,e3,Int.toNat_natCast,bW,aj,cw,bQ,dx];rfl) (by first|(simp(disch:=omega)only[seval,go_sem,cI,e1,e2,e3,Int.toNat_natCast,bW,aj,cw,bQ,dx,aj,dD,bW,List.length_cons,List.length_nil,cw,bQ,dx,splice,Nat.reduceMul];rfl)) (by (try simp only[aj,dD,bW,List.length_cons,List.length_nil,cw,bQ,dx,splice,Nat.reduceMul]);omega) ?_;refine dI (st:=[]) ?_)|(with_reducible refine PL ?_;with_reducible refine ah.cap (by simp only[seval,go_sem,e1,e2,e3,Int.toNat_natCast,bW,aj,cw,bQ,dx]) (by simp only[seval,go_sem,e1,e2,e3,Int.toNat_natCast,bW,aj,cw,bQ,dx];rfl) (by simp only[seval,go_sem,e1,e2,e3,Int.toNat_natCast,bW,aj,cw,bQ,dx];rfl) (by simp only[seval,go_sem,e1,e2,e3,Int.toNat_natCast,bW,aj,cw,bQ,dx];rfl) (by decide) (by simp only[seval,go_sem,e1,e2,e3,Int.toNat_natCast,bW,aj,cw,bQ,dx];rfl) (by (try simp only[aj,dD,bW,List.length_cons,List.length_nil,cw,bQ,dx,splice,Nat.reduceMul]);omega) (fun mC ZF=>?_);refine dI (st:=[]) ?_)|(with_reducible refine nM ?_;with_reducible refine ah.G9 (by simp only[seval,go_sem,e1,e2,e3,Int.toNat_natCast,bW,aj,cw,bQ,dx]) (by simp only[seval,go_sem,e1,e2,e3,Int.toNat_natCast,bW,aj,cw,bQ,dx];rfl) (by simp only[seval,go_sem,e1,e2,e3,Int.toNat_natCast,bW,aj,cw,bQ,dx];rfl) (by simp only[seval,go_sem,e1,e2,e3,Int.toNat_natCast,bW,aj,cw,bQ,dx];rfl) (by simp only[seval,go_sem,e1,e2,e3,Int.toNat_natCast,bW,aj,cw,bQ,dx];rfl) rfl rfl (by decide) (by simp only[seval,go_sem,e1,e2,e3,Int.toNat_natCast,bW,aj,cw,bQ,dx]) (by simp only[seval,go_sem,e1,e2,e3,Int.toNat_natCast,bW,aj,cw,bQ,dx]) (by decide) (by simp only[seval,go_sem,e1,e2,e3,Int.toNat_natCast,bW,aj,cw,bQ,dx]) (by simp only[seval,go_sem,e1,e2,e3,Int.toNat_natCast,bW,aj,cw,bQ,dx];rfl) (by simp only[seval,go_sem,e1,e2,e3,Int.toNat_natCast,bW,aj,cw,bQ,dx];rfl) (by simp only[seval,go_sem,e1,e2,e3,Int.toNat_natCast,bW,aj,cw,bQ,dx];rfl) (by (try simp only[aj,dD,bW,List.length_cons,List.length_nil,cw,bQ,dx,splice,Nat.reduceMul]);omega) (by (try simp only[aj,dD,bW,List.length_cons,List.length_nil,cw,bQ,dx,splice,Nat.reduceMul]);omega) (by (try simp only[aj,dD,bW,List.length_cons,List.length_nil,cw,bQ,dx,splice,Nat.reduceMul]);omega) (by (try simp only[aj,dD,bW,List.length_cons,List.length_nil,cw,bQ,dx,splice,Nat.reduceMul]);omega) (by (try simp only[aj,dD,bW,List.length_cons,List.length_nil,cw,bQ,dx,splice,Nat.reduceMul]);omega) ?_;refine dI (st:=[]) ?_)|(with_reducible refine isSlice ?_;with_reducible refine ah.wz (by simp only[seval,go_sem,e1,e2,e3,Int.toNat_natCast,bW,aj,cw,bQ,dx]) (by simp only[seval,go_sem,e1,e2,e3,Int.toNat_natCast,bW,aj,cw,bQ,dx];rfl) (by simp only[seval,go_sem,e1,e2,e3,Int.toNat_natCast,bW,aj,cw,bQ,dx];rfl) (by simp only[seval,go_sem,e1,e2,e3,Int.toNat_natCast,bW,aj,cw,bQ,dx];rfl) rfl (by decide) (by simp only[seval,go_sem,e1,e2,e3,Int.toNat_natCast,bW,aj,cw,bQ,dx];rfl) (by simp only[seval,go_sem,e1,e2,e3,Int.toNat_natCast,bW,aj,cw,bQ,dx];rfl) (by simp(disch:=omega)only[seval,go_sem,cI,e1,e2,e3,Int.toNat_natCast,bW,aj,cw,bQ,dx];rfl) (by simp(disch:=omega)only[seval,go_sem,cI,e1,e2,e3,Int.toNat_natCast,bW,aj,cw,bQ,dx];rfl) (by (try simp only[aj,dD,bW,List.length_cons,List.length_nil,cw,bQ,dx,splice,Nat.reduceMul]);omega) (by (try simp only[aj,dD,bW,List.length_cons,List.length_nil,cw,bQ,dx,splice,Nat.reduceMul]);omega) (by (try simp only[aj,dD,bW,List.length_cons,List.length_nil,cw,bQ,dx,splice,Nat.reduceMul]);omega) ?_;refine dI (st:=[]) ?_)|(with_reducible refine ah.R6 1000 (by simp only[seval,go_sem,e1,e2,e3,Int.toNat_natCast,bW,aj,cw,bQ,dx];rfl) (by simp only[seval,go_sem,e1,e2,e3,Int.toNat_natCast,bW,aj,cw,bQ,dx];rfl) ?_;refine dI (st:=[]) ?_))|(with_reducible refine aB ?_;refine fl (rs:=[.tmp 6]) (by with_unfolding_all rfl) rfl ?_<;>simp only[seval,go_sem]<;>(repeat'(with_reducible apply And.intro))<;>(try rfl)<;>(fail_if_success (with_reducible show False)))|(with_reducible refine aB ?_;(refine aC.take 6 40 (by simp only[seval,go_sem];rfl) (by simp only[seval,go_sem];rfl) (by (try simp only[aj,dD,bW,List.length_cons,List.length_nil,cw,bQ,dx,splice,Nat.reduceMul]);omega) (by first|(simp only[seval,go_sem])) (by simp only[seval,go_sem];rfl) ?_);(with_reducible refine aB ?_;refine aC.q rfl rfl (by simp only[seval,go_sem];rfl) (by decide) (by simp only[seval,go_sem];rfl) (by simp only[seval,go_sem];rfl) rfl ?_<;>(try simp only[seval,go_sem,e1,e2,e3,Int.toNat_natCast,bW,aj,cw,bQ,dx])<;>(repeat'(with_reducible apply And.intro))<;>(try rfl)))|(with_reducible first|refine aV (st:=[]) ?_|refine ai (by simp(disch:=omega)only[seval,go_sem,cI,e1,e2,e3,Int.toNat_natCast,bW,aj,cw,bQ,dx];rfl) ?_|refine cO (cL ?_) (cL ?_)))))
 ·have h:i=rows.length:=by omega
  subst h;simp
 ·omega
 ·refine Aj rows xs _ _ hi dx ?_;have h1:rows.length-i<=rows.length+mC-i:=by omega
  simp only[h1,jg,iU];omega
 ·exact Ak rows xs _ hi (by rw[aj];omega)
theorem xS {rows xs:List (List D)} {n m:Nat} {i:Int} (hn:rows.length=n) (hm:xs.length=m) (hl:n<=1000000) (hx0:0<m) (hx:m<=1000000) (h0:0<=i) (hi:i<=n):aF prog 201 [.row 4 rows,.row 4 xs] [.cW 0 4 0 n,i6 i,.cW 1 4 0 m] (.cW 2 4 0 (n+m)) [.dead,.dead,.row 4 (rows.take i.toNat++xs++rows.drop i.toNat)]:=by
 subst hn hm;obtain ⟨i',rfl⟩:=M7 h0;exact IY (i:=i') hl hx0 hx (by omega)
end Go.Proofs.YteemiclhnfkekaaGreat
