/- Directory: the walks of Bind, Unbind and Rename of the program and of the reference. -/
import Derived.Test.YteemiclhnfkekaaGreatZDiB
import Derived.Test.YteemiclhnfkekaaGreatZChA
import Derived.Test.YteemiclhnfkekaaGreatZDiQ
set_option linter.unusedSimpArgs false
set_option linter.unusedVariables false
set_option maxRecDepth 100000
set_option maxHeartbeats 6400000
namespace Go.Proofs.YteemiclhnfkekaaGreat
open Go.RowKit Go.eB Go.Proofs.Tryz
theorem F2 {l:List Bd} {n:ByteArray} {o c:Int} (hl:l.length<=100000):ak prog 86 [.sl 4 (l.map ag), .sc (.string n),i6 o,i6 c] (.cT [.sl 4 ((dw l n o c).1.map ag),i6 (dw l n o c).2]) []:=by
 have KO:=xQ hl (fun b=>DI (b:=b) (n:=n) (o:=o));have MP:=xQ hl (fun b=>DJ (b:=b) (n:=n) (c:=c));have hv:=oK hl;by_cases h1:dh l=0
 focus
  rw[h1] at hv;cases h2:bM n
  focus
   have e:dw l n o c=([],6):=by unfold dw;rw[aE (by simp[h1]),bC h2]
   rw[e];have hZ:=h2
  rotate_left 1
  focus
   by_cases h3:o<1\/c<1
   focus
    have e:dw l n o c=([],5):=by unfold dw;rw[aE (by simp[h1]),aE (by simp[h2]),bC h3]
    rw[e];by_cases h4:o<1
    focus
     have hZ:=h2
    rotate_left 1
    focus
     have h5:c<1:=by omega
     have hZ:=h2
    rotate_left 1
   rotate_left 2
   focus
    cases h4:jm c l
    focus
     cases h5:l.any (fun b=>b.to==0&&(lq b.name n||b.obj==o))
     focus
      have e:dw l n o c=(lB ⟨n,o,c,0⟩ l,0):=by unfold dw;rw[aE (by simp[h1]),aE (by simp[h2]),aE h3,aE (by simp[h4]),aE (by simp[h5])]
      rw[e];rw[h5] at KO;rw[F3 (kL _ _ (nV h1)) (uM h4) (xZ h5)] at MP;have ha:=x8 (l:=l) (b:=⟨n,o,c,0⟩) hl;simp only[ag] at ha;have hZ:=(And.intro h2 h4)
     rotate_left 1
     focus
      have e:dw l n o c=([],9):=by unfold dw;rw[aE (by simp[h1]),aE (by simp[h2]),aE h3,aE (by simp[h4]),bC h5]
      rw[e];rw[h5] at KO;have hZ:=(And.intro h2 h4)
     rotate_left 1
    rotate_left 2
    focus
     have e:dw l n o c=([],19):=by unfold dw;rw[aE (by simp[h1]),aE (by simp[h2]),aE h3,bC h4]
     rw[e];have hZ:=(And.intro h2 h4)
    rotate_left 1
   rotate_left 3
  rotate_left 5
 rotate_left 6
 focus
  have e:dw l n o c=([],dh l):=by unfold dw;rw[bC h1]
  rw[e];have hZ:=ek 0
 rotate_left 1;all_goals(refine bR [] [5,6,7,12,18,30,34,38,44] [.tmp 8, .tmp 9] func86 (by kernel_rfl) ntmps86 rfl rfl rfl ⟨rfl,rfl⟩ (by simp(disch:=omega)only[seval,go_sem,cI,List.replicate,l_2,l_1];rfl) ?_)
 all_goals((repeat'(first|simp only[seval,go_sem,hZ]|((with_reducible refine bJ ?_);first|refine aq.c (hv) ?_|refine aq.c (KO) ?_|refine aq.c (MP) ?_|refine aq.c (ha) ?_|refine aq.c (cY) ?_|refine aq.c (mg ?_) ?_)|((with_reducible refine au ?_);first|(with_reducible refine aD (st:=[25]) ?_)|((with_reducible first|refine ah.step (by simp only[seval,go_sem,hZ];rfl) ?_|refine ah.step (by simp(disch:=omega)only[seval,go_sem,cI,hZ];rfl) ?_);refine dI (st:=[25]) ?_))|(with_reducible first|refine aV (st:=[25]) ?_|refine ai (by simp(disch:=omega)only[seval,go_sem,cI,hZ];rfl) ?_)))<;>(try((with_reducible assumption))))
theorem D3 {l:List Bd} {n:ByteArray} {o c:Int} (hl:l.length<=100000) (hv:ak prog 173 [.sl 4 (l.map ag)] (i6 (dh l)) []):ak prog 115 [.sl 4 (l.map ag),.sc (.string n),i6 o,i6 c] (.cT [.sl 4 ((dw l n o c).1.map ag),i6 (dw l n o c).2]) []:=by
 by_cases h1:dh l=0
 focus
  rw[h1] at hv;cases h2:bM n
  focus
   have e:dw l n o c=([],6):=by unfold dw;rw[aE (by simp[h1]),bC h2]
   rw[e];have hZ:=h2
  rotate_left 1
  focus
   by_cases h3:o<1\/c<1
   focus
    have e:dw l n o c=([],5):=by unfold dw;rw[aE (by simp[h1]),aE (by simp[h2]),bC h3]
    rw[e];by_cases h4:o<1
    focus
     have hZ:=h2
    rotate_left 1
    focus
     have h5:c<1:=by omega
     have hZ:=h2
    rotate_left 1
   rotate_left 2
   focus
    cases h4:jm c l
    ·have e:dw l n o c=if l.any (fun b=>b.to==0&&(lq b.name n||b.obj==o))=true then ([],9) else (lB ⟨n,o,c,0⟩ l,0):=by unfold dw;rw[aE (by simp[h1]),aE (by simp[h2]),aE h3,aE (by simp[h4])]
     rw[e];generalize Yx:l.any (fun b=>b.to==0&&(lq b.name n||b.obj==o))=B;refine bR [] [13,18,28,64] [.tmp 8, .tmp 9] func115 (by kernel_rfl) ntmps115 rfl rfl rfl ⟨rfl,rfl⟩ (by simp(disch:=omega)only[seval,go_sem,cI,List.replicate,l_2,l_1];rfl) ?_;((repeat'(first|simp only[seval,go_sem,h2,h4]|((with_reducible refine bJ ?_);first|refine aq.c (hv) ?_|refine aq.c (cD) ?_|refine aq.c (jF ?_) ?_)|(with_reducible first|refine aD (st:=[]) ?_|refine aV (st:=[]) ?_|refine ai (by simp(disch:=omega)only[seval,go_sem,cI,h2,h4];rfl) ?_)))<;>(try((with_reducible assumption))));(with_reducible refine ay.cX (fun (k:Nat)=>[(11,i6 k),(8,.any),(9,.any)]++aN 29 30) (fun (k:Nat)=>[]) (fun (k:Nat)=>k<=l.length/\(l.drop k).any (fun b=>b.to==0&&(lq b.name n||b.obj==o))=B) (fun (k:Nat)=>l.length-k) (0) (⟨ek _,by rw[Pr];exact Yx⟩) (by intro _;simp(disch:=omega)only[seval,go_sem,cI];rfl) (by simp only[seval,go_sem]) (fun k hI=>?_));obtain ⟨hk,hf⟩:=hI;by_cases hlt:k<l.length
     ·obtain ⟨b,hb⟩:=aZ hlt;have hb':=get_map ag hb;rw[aH hb,List.any_cons,lq] at hf;by_cases d1:b.to=0
      ·rw[nX.2 d1,CF] at hf;cases d2:(b.name.toList==n.toList) with
       | true=>
         rw[d2,Cm,Cm] at hf;first|rw[<- hf,bC rfl]|rw[<- hf,bC trivial]
         ((repeat'(first|simp only[seval,go_sem,hb',ag,d2]|(with_reducible refine aV (st:=[]) ?_)|(with_reducible refine ai (by simp(disch:=omega)only[seval,go_sem,cI,hb',ag,d2];rfl) ?_))))
       | false=>
         rw[d2,wo] at hf;by_cases d3:b.obj=o
         ·rw[nX.2 d3,Cm] at hf;first|rw[<- hf,bC rfl]|rw[<- hf,bC trivial]
          ((repeat'(first|simp only[seval,go_sem,hb',ag,d2]|(with_reducible refine aV (st:=[]) ?_)|(with_reducible refine ai (by simp(disch:=omega)only[seval,go_sem,cI,hb',ag,d2];rfl) ?_))))
         ·rw[yX.2 d3,wo] at hf;((repeat'(first|simp only[seval,go_sem,hb',ag,d2]|(with_reducible refine aV (st:=[]) ?_)|(with_reducible refine ai (by simp(disch:=omega)only[seval,go_sem,cI,hb',ag,d2];rfl) ?_))));all_goals(try(refine aP (k+1) (by simp only[seval,go_sem];first|((repeat'(with_reducible apply And.intro))<;>first|rfl)) ?_ ?_<;>(try(omega))))
          all_goals(try(exact ⟨by omega,hf⟩))
      ·rw[yX.2 d1,JT,wo] at hf;((repeat'(first|simp only[seval,go_sem,hb',ag]|(with_reducible refine aV (st:=[]) ?_)|(with_reducible refine ai (by simp(disch:=omega)only[seval,go_sem,cI,hb',ag];rfl) ?_))));all_goals(try(refine aP (k+1) (by simp only[seval,go_sem];first|((repeat'(with_reducible apply And.intro))<;>first|rfl)) ?_ ?_<;>(try(omega))))
       all_goals(try(exact ⟨by omega,hf⟩))
     ·rw[j9 (by omega),List.any_nil] at hf;have MP:=kL _ _ (nV h1);have ha:=tJ (l:=l) (b:=⟨n,o,c,0⟩) hl (qJ _ _ (nV h1)).1 (x9 MP (uM h4) (xZ (Yx.trans hf.symm)));simp only[ag] at ha;first|rw[<- hf,aE (by decide)]|rw[<- hf,aE (by simp)]
      ((repeat'(first|simp only[seval,go_sem]|((with_reducible refine bJ ?_);refine aq.c (ha) ?_)|(with_reducible first|refine aD (st:=[]) ?_|refine aV (st:=[]) ?_|refine ai (by simp(disch:=omega)only[seval,go_sem,cI];rfl) ?_))))
    focus
     have e:dw l n o c=([],19):=by unfold dw;rw[aE (by simp[h1]),aE (by simp[h2]),aE h3,bC h4]
     rw[e];have hZ:=(And.intro h2 h4)
    rotate_left 1
   rotate_left 1
  rotate_left 3
 rotate_left 4
 focus
  have e:dw l n o c=([],dh l):=by unfold dw;rw[bC h1]
  rw[e];have hZ:=ek 0
 rotate_left 1;all_goals(refine bR [] [13,18,28,64] [.tmp 8, .tmp 9] func115 (by kernel_rfl) ntmps115 rfl rfl rfl ⟨rfl,rfl⟩ (by simp(disch:=omega)only[seval,go_sem,cI,List.replicate,l_2,l_1];rfl) ?_)
 all_goals((repeat'(first|simp only[seval,go_sem,hZ]|((with_reducible refine bJ ?_);first|refine aq.c (hv) ?_|refine aq.c (cD) ?_|refine aq.c (jF ?_) ?_)|(with_reducible first|refine aD (st:=[]) ?_|refine aV (st:=[]) ?_|refine ai (by simp(disch:=omega)only[seval,go_sem,cI,hZ];rfl) ?_)))<;>(try((with_reducible assumption))))
theorem AP:∀ (l:List Bd) (n:ByteArray) (i:Nat),0<=k7 (gP n) l i->∃ b,(i:Int)<=k7 (gP n) l i/\l[(k7 (gP n) l i).toNat-i]? = some b/\gP n b=true
 | [],n,i,h=>by simp[k7] at h
 | x::l,n,i,h=>by
   rw[k7] at h ⊢;by_cases hp:gP n x=true
   ·rw[bC hp];exact ⟨x,Nc _,by rw[Int.toNat_natCast,JI];rfl,hp⟩
   ·rw[aE hp] at h ⊢;obtain ⟨b,h1,h2,h3⟩:=AP l n (i+1) h;refine ⟨b,by omega,?_,h3⟩;rw[show (k7 (gP n) l (i+1)).toNat-i=(k7 (gP n) l (i+1)).toNat-(i+1)+1 by omega,eg];exact h2
theorem k9 {l:List Bd} {n:ByteArray} (h:¬ ew n l<0):∃ b,l[(ew n l).toNat]? = some b/\gP n b=true:=by
 obtain ⟨b,_,h2,h3⟩:=AP l n 0 (by unfold ew at h;omega);exact ⟨b,h2,h3⟩
theorem fR {l:List Bd} {i:Int} {b:Bd} (h:l[i.toNat]? = some b):zl l i=b:=by unfold zl;rw[h];rfl
theorem B2 {l:List Bd} {n:ByteArray} {c:Int} (hl:l.length<=100000):ak prog 92 [.sl 4 (l.map ag), .sc (.string n),i6 c] (.cT [.sl 4 ((bI l n c).1.map ag),i6 (bI l n c).2]) []:=by
 have hv:=oK hl;by_cases h1:dh l=0
 focus
  rw[h1] at hv;cases h2:bM n
  focus
   have e:bI l n c=([],6):=by unfold bI;rw[aE (by simp[h1]),bC h2]
   rw[e];have hZ:=h2
  rotate_left 1
  focus
   by_cases h3:c<1
   focus
    have e:bI l n c=([],5):=by unfold bI;rw[aE (by simp[h1]),aE (by simp[h2]),bC h3]
    rw[e];have hZ:=h2
   rotate_left 1
   focus
    cases h4:jm c l
    focus
     by_cases h5:ew n l<0
     focus
      have e:bI l n c=([],8):=by unfold bI;rw[aE (by simp[h1]),aE (by simp[h2]),aE h3,aE (by simp[h4]),bC h5]
      rw[e];have hZ:=(And.intro h2 h4)
     rotate_left 1
     focus
      obtain ⟨b,hb,o9⟩:=k9 h5;have hb':=get_map ag hb;have hlt:=(jM.1 hb).1;by_cases h6:c<=b.eo
      focus
       have e:bI l n c=([],19):=by unfold bI;rw[aE (by simp[h1]),aE (by simp[h2]),aE h3,aE (by simp[h4]),aE h5,bC (by rw[fR hb];exact h6)]
       rw[e];have hZ:=(And.intro h2 (And.intro h4 hb'))
      rotate_left 1
      ·have e:bI l n c=(l.set (ew n l).toNat ⟨b.name,b.obj,b.eo,c⟩,0):=by unfold bI;rw[aE (by simp[h1]),aE (by simp[h2]),aE h3,aE (by simp[h4]),aE h5,aE (by rw[fR hb];exact h6),vZ,fR hb]
       rw[e];refine dL [] [12,18,21,29,42] func92 (by kernel_rfl) ntmps92 rfl rfl ⟨rfl,rfl⟩ (by simp(disch:=omega)only[seval,go_sem,cI,List.replicate,l_2,l_1];rfl) ?_
       ((repeat'(first|simp only[seval,go_sem,ag,h2,h4,hb']|((with_reducible refine bJ ?_);first|refine aq.c (hv) ?_|refine aq.c (oH ?_) ?_|refine aq.c (cY) ?_|refine aq.c (mg ?_) ?_|refine aq.n (ql ?_) ?_)|(with_reducible refine aD (st:=[]) ?_)|(with_reducible refine aB ?_;(refine aC.gu 42 (by simp only[seval,go_sem];rfl) (by simp only[seval,go_sem,ag,h2,h4,hb'];rfl) ?_);(with_reducible refine aB ?_;refine aC.q rfl rfl (by simp only[seval,go_sem];rfl) (by decide) (by simp only[seval,go_sem];rfl) (by simp only[seval,go_sem];rfl) rfl ?_<;>(try simp only[seval,go_sem,ag,h2,h4,hb'])<;>(repeat'(with_reducible apply And.intro))<;>(try rfl)))|(with_reducible first|refine aV (st:=[]) ?_|refine ai (by simp(disch:=omega)only[seval,go_sem,cI,ag,h2,h4,hb'];rfl) ?_)))<;>(try(first|(with_reducible assumption)|((with_reducible show (_:Nat)<=_);omega))))
       all_goals(try((exact lu (by simp))))
     rotate_left 1
    rotate_left 2
    focus
     have e:bI l n c=([],19):=by unfold bI;rw[aE (by simp[h1]),aE (by simp[h2]),aE h3,bC h4]
     rw[e];have hZ:=(And.intro h2 h4)
    rotate_left 1
   rotate_left 3
  rotate_left 4
 rotate_left 5
 focus
  have e:bI l n c=([],dh l):=by unfold bI;rw[bC h1]
  rw[e];have hZ:=ek 0
 rotate_left 1;all_goals(refine dL [] [12,18,21,29,42] func92 (by kernel_rfl) ntmps92 rfl rfl ⟨rfl,rfl⟩ (by simp(disch:=omega)only[seval,go_sem,cI,List.replicate,l_2,l_1];rfl) ?_)
 all_goals((repeat'(first|simp only[seval,go_sem,ag,hZ]|((with_reducible refine bJ ?_);first|refine aq.c (hv) ?_|refine aq.c (oH ?_) ?_|refine aq.c (cY) ?_|refine aq.c (mg ?_) ?_)|(with_reducible refine aD (st:=[]) ?_)|(with_reducible refine aB ?_;refine fl (rs:=[.tmp 6,.tmp 7]) (by with_unfolding_all rfl) rfl ?_<;>simp only[seval,go_sem]<;>(repeat'(with_reducible apply And.intro))<;>(try rfl))|(with_reducible first|refine aV (st:=[]) ?_|refine ai (by simp(disch:=omega)only[seval,go_sem,cI,ag,hZ];rfl) ?_)))<;>(try((with_reducible assumption))))
theorem zw {l:List Bd} {n:ByteArray} {c:Int} (hl:l.length<=100000) (hv:ak prog 173 [.sl 4 (l.map ag)] (i6 (dh l)) []):ak prog 120 [.sl 4 (l.map ag), .sc (.string n),i6 c] (.cT [.sl 4 ((bI l n c).1.map ag),i6 (bI l n c).2]) []:=by
 by_cases h1:dh l=0
 focus
  rw[h1] at hv;cases h2:bM n
  focus
   have e:bI l n c=([],6):=by unfold bI;rw[aE (by simp[h1]),bC h2]
   rw[e];have hZ:=h2
  rotate_left 1
  focus
   by_cases h3:c<1
   focus
    have e:bI l n c=([],5):=by unfold bI;rw[aE (by simp[h1]),aE (by simp[h2]),bC h3]
    rw[e];have hZ:=h2
   rotate_left 1
   focus
    cases h4:jm c l
    focus
     by_cases h5:ew n l<0
     focus
      have e:bI l n c=([],8):=by unfold bI;rw[aE (by simp[h1]),aE (by simp[h2]),aE h3,aE (by simp[h4]),bC h5]
      rw[e];have hZ:=(And.intro h2 h4)
     rotate_left 1
     focus
      obtain ⟨b,hb,o9⟩:=k9 h5;have hb':=get_map ag hb;have hlt:=(jM.1 hb).1;by_cases h6:c<=b.eo
      focus
       have e:bI l n c=([],19):=by unfold bI;rw[aE (by simp[h1]),aE (by simp[h2]),aE h3,aE (by simp[h4]),aE h5,bC (by rw[fR hb];exact h6)]
       rw[e];have hZ:=(And.intro h2 (And.intro h4 hb'))
      rotate_left 1
      ·have e:bI l n c=(l.set (ew n l).toNat ⟨b.name,b.obj,b.eo,c⟩,0):=by unfold bI;rw[aE (by simp[h1]),aE (by simp[h2]),aE h3,aE (by simp[h4]),aE h5,aE (by rw[fR hb];exact h6),vZ,fR hb]
       rw[e];refine dL [] [12,17,23,26,37] func120 (by kernel_rfl) ntmps120 rfl rfl ⟨rfl,rfl⟩ (by simp(disch:=omega)only[seval,go_sem,cI,List.replicate,l_2,l_1];rfl) ?_
       ((repeat'(first|simp only[seval,go_sem,ag,h2,h4,hb']|((with_reducible refine bJ ?_);first|refine aq.c (hv) ?_|refine aq.c (cD) ?_|refine aq.c (jF ?_) ?_|refine aq.c (mW ?_) ?_)|(with_reducible refine aD (st:=[]) ?_)|(with_reducible refine aB ?_;(refine aC.gu 37 (by simp only[seval,go_sem];rfl) (by simp only[seval,go_sem,ag,h2,h4,hb'];rfl) ?_);(with_reducible refine aB ?_;refine aC.q rfl rfl (by simp only[seval,go_sem];rfl) (by decide) (by simp only[seval,go_sem];rfl) (by simp only[seval,go_sem];rfl) rfl ?_<;>(try simp only[seval,go_sem,ag,h2,h4,hb'])<;>(repeat'(with_reducible apply And.intro))<;>(try rfl)))|(with_reducible first|refine aV (st:=[]) ?_|refine ai (by simp(disch:=omega)only[seval,go_sem,cI,ag,h2,h4,hb'];rfl) ?_)))<;>(try((with_reducible assumption))))
       all_goals(try((exact lu (by simp))))
     rotate_left 1
    rotate_left 2
    focus
     have e:bI l n c=([],19):=by unfold bI;rw[aE (by simp[h1]),aE (by simp[h2]),aE h3,bC h4]
     rw[e];have hZ:=(And.intro h2 h4)
    rotate_left 1
   rotate_left 3
  rotate_left 4
 rotate_left 5
 focus
  have e:bI l n c=([],dh l):=by unfold bI;rw[bC h1]
  rw[e];have hZ:=ek 0
 rotate_left 1;all_goals(refine dL [] [12,17,23,26,37] func120 (by kernel_rfl) ntmps120 rfl rfl ⟨rfl,rfl⟩ (by simp(disch:=omega)only[seval,go_sem,cI,List.replicate,l_2,l_1];rfl) ?_)
 all_goals((repeat'(first|simp only[seval,go_sem,ag,hZ]|((with_reducible refine bJ ?_);first|refine aq.c (hv) ?_|refine aq.c (cD) ?_|refine aq.c (jF ?_) ?_|refine aq.c (mW ?_) ?_)|(with_reducible refine aD (st:=[]) ?_)|(with_reducible refine aB ?_;refine fl (rs:=[.tmp 6,.tmp 7]) (by with_unfolding_all rfl) rfl ?_<;>simp only[seval,go_sem]<;>(repeat'(with_reducible apply And.intro))<;>(try rfl))|(with_reducible first|refine aV (st:=[]) ?_|refine ai (by simp(disch:=omega)only[seval,go_sem,cI,ag,hZ];rfl) ?_)))<;>(try((with_reducible assumption))))
theorem OE {l:List Bd} {i:Nat} {b b':Bd} (hs:Qg l) (hb:l[i]? = some b) (hn:b'.name=b.name) (hf:b'.eo=b.eo):Qg (l.set i b'):=by
 unfold Qg at hs ⊢;rw[JR] at hs ⊢;intro j k hj hk hjk;simp only[GV] at hj hk;have h0:=hs j k hj hk hjk;obtain ⟨hi,e⟩:=jM.1 hb;simp only[List.getElem_set];have key:∀ x y:Bd,pq x y=(ri x.name y.name||(lq x.name y.name&&decide (x.eo<y.eo))):=fun _ _=>rfl
 split
 ·rename_i e1;subst e1;rw[aE (by omega)];rw[key] at h0 ⊢;rw[hn,hf, <- e];exact h0
 ·split
  ·rename_i e2;subst e2;rw[key] at h0 ⊢;rw[hn,hf, <- e];exact h0
  ·exact h0
theorem sk:∀ (l:List Bd) (n:ByteArray) (i:Nat),¬ 0<=k7 (gP n) l i->∀ x∈l,gP n x=false
 | [],_,_,_,x,hx=>by cases hx
 | y::l,n,i,h,x,hx=>by
   rw[k7] at h;by_cases hp:gP n y=true
   ·rw[bC hp] at h;omega
   ·rw[aE hp] at h;rcases lp.1 hx with rfl|hx
    ·simpa using hp
    ·exact sk l n (i+1) h x hx
theorem AQ {l:List Bd} {m:ByteArray} (h:¬ 0<=ew m l):∀ x∈l,x.name.toList=m.toList->x.to≠0:=by
 intro x hx hn h0;have:=sk l m 0 h x hx;simp[gP,lq,hn,h0] at this
theorem iB {l:List Bd} {i:Nat} {b' x:Bd} (h:x∈l.set i b'):x∈l\/x=b':=RS h
theorem B3 {l:List Bd} {n m:ByteArray} {c:Int} (hl:l.length<=100000):ak prog 93 [.sl 4 (l.map ag), .sc (.string n), .sc (.string m),i6 c] (.cT [.sl 4 ((bH l n m c).1.map ag),i6 (bH l n m c).2]) []:=by
 have hv:=oK hl;by_cases h1:dh l=0
 focus
  rw[h1] at hv;by_cases h2:bM n=false\/bM m=false
  focus
   have e:bH l n m c=([],6):=by unfold bH;rw[aE (by simp[h1]),bC h2]
   rw[e];cases h3:bM n
   focus
    have hZ:=h3
   rotate_left 1
   focus
    have h4:bM m=false:=by rw[h3] at h2;simpa using h2
    have hZ:=(And.intro h3 h4)
   rotate_left 1
  rotate_left 2
  focus
   have n1:bM n=true:=by cases h:bM n<;>simp_all
   have n2:bM m=true:=by cases h:bM m<;>simp_all
   by_cases h3:c<1
   focus
    have e:bH l n m c=([],5):=by unfold bH;rw[aE (by simp[h1]),aE h2,bC h3]
    rw[e];have hZ:=(And.intro n1 n2)
   rotate_left 1
   focus
    cases h4:jm c l
    focus
     by_cases h5:ew n l<0
     focus
      have e:bH l n m c=([],8):=by unfold bH;rw[aE (by simp[h1]),aE h2,aE h3,aE (by simp[h4]),bC h5]
      rw[e];have hZ:=(And.intro h4 (And.intro n1 n2))
     rotate_left 1
     focus
      by_cases h7:0<=ew m l
      focus
       have e:bH l n m c=([],9):=by unfold bH;rw[aE (by simp[h1]),aE h2,aE h3,aE (by simp[h4]),aE h5,bC h7]
       rw[e];have hZ:=(And.intro h4 (And.intro n1 n2))
      rotate_left 1
      focus
       obtain ⟨b,hb,o9⟩:=k9 h5;have hb':=get_map ag hb;have hlt:=(jM.1 hb).1;by_cases h6:c<=b.eo
       focus
        have e:bH l n m c=([],19):=by unfold bH;rw[aE (by simp[h1]),aE h2,aE h3,aE (by simp[h4]),aE h5,aE h7,bC (by rw[fR hb];exact h6)]
        rw[e];have hZ:=(And.intro h4 (And.intro hb' (And.intro n1 n2)))
       rotate_left 1
       ·have e:bH l n m c=(lB ⟨m,b.obj,c,0⟩ (l.set (ew n l).toNat ⟨b.name,b.obj,b.eo,c⟩),0):=by unfold bH;rw[aE (by simp[h1]),aE h2,aE h3,aE (by simp[h4]),aE h5,aE h7,aE (by rw[fR hb];exact h6),vZ,fR hb]
        rw[e];have ha:=x8 (l:=l.set (ew n l).toNat ⟨b.name,b.obj,b.eo,c⟩) (b:=⟨m,b.obj,c,0⟩) (by rw[GV];exact hl);have fm:(((l.map ag).set (ew n l).toNat (ag ⟨b.name,b.obj,b.eo,c⟩)).take l.length)=(l.map ag).set (ew n l).toNat (ag ⟨b.name,b.obj,b.eo,c⟩):=lu (by simp);simp only[qN,ag] at ha fm;refine dP [] [14,20,23,27,36,43,54,69] func93 rfl call93 rfl (by decide) (by decide) rfl rfl ntmps93 (by simp(disch:=omega)only[seval,go_sem,cI,List.replicate,l_2,l_1];rfl) (by simp(disch:=omega)only[seval,go_sem,cI,l_2,l_1];rfl) ?_
        (all_goals(try have hZ:=(And.intro h4 (And.intro hb' fm)));(repeat'(first|(with_reducible first|refine ay.seq ?_|refine ay.block ?_|refine ay.skip ?_|refine ay.ret ?_|refine ah.nil ?_|refine bG ?_|refine dg ?_|refine ay.bE (by simp only[fk,eN];rfl) ?_)|((with_reducible refine au ?_);first|(with_reducible refine ah.step (by simp only[seval,go_sem,n1,n2,ag,hZ];rfl) ?_)|((with_reducible refine cy ?_);((with_reducible (first|refine ah.dE (by simp only[seval,go_sem,n1,n2,ag,hZ];rfl) (by simp only[seval,go_sem,n1,n2,ag,hZ];rfl) ?_|refine ah.dS (by simp only[seval,go_sem,n1,n2,ag,hZ];rfl) (by simp only[seval,go_sem,n1,n2,ag,hZ];rfl) ?_));first|refine bN.c [] (hv) (by simp only[seval,go_sem,n1,n2,ag,hZ];rfl) ?_|refine bN.c [] (ha) (by simp only[seval,go_sem,n1,n2,ag,hZ];rfl) ?_|refine bN.c [] (oH ?_) (by simp only[seval,go_sem,n1,n2,ag,hZ];rfl) ?_|refine bN.c [] (cY) (by simp only[seval,go_sem,n1,n2,ag,hZ];rfl) ?_|refine bN.c [] (mg ?_) (by simp only[seval,go_sem,n1,n2,ag,hZ];rfl) ?_|refine bN.c (dst:=some 54) [54] (ql ?_) (by simp only[seval,go_sem,n1,n2,ag,hZ];rfl) ?_))|(with_reducible first|refine ah.step (by simp(disch:=omega)only[seval,go_sem,cI,n1,n2,ag,hZ];rfl) ?_|refine ah.gu 54 (by simp only[seval,go_sem,n1,n2,ag,hZ];rfl) (by simp only[seval,go_sem,n1,n2,ag,hZ];rfl) ?_))|(with_reducible refine cg ?_;with_reducible refine ay.cond (by simp only[seval,go_sem,n1,n2,ag,hZ];rfl) (cL ?_) (cL ?_))|(with_reducible refine cB ?_;intro hc;(try simp only[fG,reduceCtorEq] at hc);(try(exfalso;omega)))|(with_reducible refine aB ?_;refine aC.q rfl rfl (by simp only[seval,go_sem];rfl) (by decide) (by simp only[seval,go_sem];rfl) (by simp only[seval,go_sem];rfl) rfl ?_<;>(try simp only[seval,go_sem])<;>(repeat'(with_reducible apply And.intro))<;>(try rfl))))<;>(try((with_reducible assumption)));all_goals(try clear hZ))
        all_goals(try(first|omega|(simp;omega)|trace_state))
      rotate_left 1
     rotate_left 2
    rotate_left 3
    focus
     have e:bH l n m c=([],19):=by unfold bH;rw[aE (by simp[h1]),aE h2,aE h3,bC h4]
     rw[e];have hZ:=(And.intro h4 (And.intro n1 n2))
    rotate_left 1
   rotate_left 4
  rotate_left 5
 rotate_left 7
 focus
  have e:bH l n m c=([],dh l):=by unfold bH;rw[bC h1]
  rw[e];have hZ:=ek 0
 rotate_left 1;all_goals(refine dP [] [14,20,23,27,36,43,54,69] func93 rfl call93 rfl (by decide) (by decide) rfl rfl ntmps93 (by simp(disch:=omega)only[seval,go_sem,cI,List.replicate,l_2,l_1];rfl) (by simp(disch:=omega)only[seval,go_sem,cI,l_2,l_1];rfl) ?_)
 all_goals((repeat'(first|(with_reducible first|refine ay.seq ?_|refine ay.block ?_|refine ay.skip ?_|refine ay.ret ?_|refine ah.nil ?_|refine bG ?_|refine eC ?_|refine c8 ?_|refine ay.bE (by simp only[fk,eN];rfl) ?_)|((with_reducible refine au ?_);first|(with_reducible refine ah.step (by simp only[seval,go_sem,ag,hZ];rfl) ?_)|((with_reducible refine cy ?_);((with_reducible (refine ah.dE (by simp only[seval,go_sem,ag,hZ];rfl) (by simp only[seval,go_sem,ag,hZ];rfl) ?_));first|refine bN.c [] (hv) (by simp only[seval,go_sem,ag,hZ];rfl) ?_|refine bN.c [] (oH ?_) (by simp only[seval,go_sem,ag,hZ];rfl) ?_|refine bN.c [] (cY) (by simp only[seval,go_sem,ag,hZ];rfl) ?_|refine bN.c [] (mg ?_) (by simp only[seval,go_sem,ag,hZ];rfl) ?_))|(with_reducible refine ah.step (by simp(disch:=omega)only[seval,go_sem,cI,ag,hZ];rfl) ?_))|(with_reducible refine cg ?_;with_reducible refine ay.cond (by simp only[seval,go_sem,ag,hZ];rfl) (cL ?_) (cL ?_))|(with_reducible refine cB ?_;intro hc;(try simp only[fG,reduceCtorEq] at hc);(try(exfalso;omega)))|(with_reducible refine aB ?_;refine aC.q rfl rfl (by simp only[seval,go_sem];rfl) (by decide) (by simp only[seval,go_sem];rfl) (by simp only[seval,go_sem];rfl) rfl ?_<;>(try simp only[seval,go_sem])<;>(repeat'(with_reducible apply And.intro))<;>(try rfl))))<;>(try((with_reducible assumption))))
theorem zx {l:List Bd} {n m:ByteArray} {c:Int} (hl:l.length<=100000) (hv:ak prog 173 [.sl 4 (l.map ag)] (i6 (dh l)) []):ak prog 121 [.sl 4 (l.map ag),.sc (.string n),.sc (.string m),i6 c] (.cT [.sl 4 ((bH l n m c).1.map ag),i6 (bH l n m c).2]) []:=by
 by_cases h1:dh l=0
 focus
  rw[h1] at hv;by_cases h2:bM n=false\/bM m=false
  focus
   have e:bH l n m c=([],6):=by unfold bH;rw[aE (by simp[h1]),bC h2]
   rw[e];cases h3:bM n
   focus
    have hZ:=h3
   rotate_left 1
   focus
    have h4:bM m=false:=by rw[h3] at h2;simpa using h2
    have hZ:=(And.intro h3 h4)
   rotate_left 1
  rotate_left 2
  focus
   have n1:bM n=true:=by cases h:bM n<;>simp_all
   have n2:bM m=true:=by cases h:bM m<;>simp_all
   by_cases h3:c<1
   focus
    have e:bH l n m c=([],5):=by unfold bH;rw[aE (by simp[h1]),aE h2,bC h3]
    rw[e];have hZ:=(And.intro n1 n2)
   rotate_left 1
   focus
    cases h4:jm c l
    focus
     by_cases h5:ew n l<0
     focus
      have e:bH l n m c=([],8):=by unfold bH;rw[aE (by simp[h1]),aE h2,aE h3,aE (by simp[h4]),bC h5]
      rw[e];have hZ:=(And.intro h4 (And.intro n1 n2))
     rotate_left 1
     focus
      by_cases h7:0<=ew m l
      focus
       have e:bH l n m c=([],9):=by unfold bH;rw[aE (by simp[h1]),aE h2,aE h3,aE (by simp[h4]),aE h5,bC h7]
       rw[e];have hZ:=(And.intro h4 (And.intro n1 n2))
      rotate_left 1
      focus
       obtain ⟨b,hb,o9⟩:=k9 h5;have hb':=get_map ag hb;have hlt:=(jM.1 hb).1;by_cases h6:c<=b.eo
       focus
        have e:bH l n m c=([],19):=by unfold bH;rw[aE (by simp[h1]),aE h2,aE h3,aE (by simp[h4]),aE h5,aE h7,bC (by rw[fR hb];exact h6)]
        rw[e];have hZ:=(And.intro h4 (And.intro hb' (And.intro n1 n2)))
       rotate_left 1
       ·have e:bH l n m c=(lB ⟨m,b.obj,c,0⟩ (l.set (ew n l).toNat ⟨b.name,b.obj,b.eo,c⟩),0):=by unfold bH;rw[aE (by simp[h1]),aE h2,aE h3,aE (by simp[h4]),aE h5,aE h7,aE (by rw[fR hb];exact h6),vZ,fR hb]
        rw[e];have ZO:=kL _ _ (nV h1)
        have hne:n.toList≠m.toList:=by
         intro e2;have hx:=sk l m 0 (by unfold ew at h7;exact h7) b (fS hb);simp only[gP,lq] at hx o9;rw[e2,hx] at o9;cases o9
        have ha:=tJ (l:=l.set (ew n l).toNat ⟨b.name,b.obj,b.eo,c⟩) (b:=⟨m,b.obj,c,0⟩) (by rw[GV];exact hl) (OE (qJ _ _ (nV h1)).1 hb rfl rfl) (fun x hx=>by
         rcases iB hx with hx|rfl
         ·exact x9 ZO (uM h4) (AQ h7) x hx
         ·have Rh:b.name.toList=n.toList:=by simp only[gP,lq,jj,nX] at o9;exact o9.1
          simp only[pq,ri,lq,vP,jj,pQ,nX];rcases mc b.name.toList m.toList with h|h|h
          ·exact .inl (.inl h)
          ·exact absurd (Rh.symm.trans h) hne
          ·exact .inr (.inl h))
        have fm:(((l.map ag).set (ew n l).toNat (ag ⟨b.name,b.obj,b.eo,c⟩)).take l.length)=(l.map ag).set (ew n l).toNat (ag ⟨b.name,b.obj,b.eo,c⟩):=lu (by simp);simp only[qN,ag] at ha fm;refine dP [] [14,19,23,30,33,38,48,63] func121 rfl call121 rfl (by decide) (by decide) rfl rfl ntmps121 (by simp(disch:=omega)only[seval,go_sem,cI,List.replicate,l_2,l_1];rfl) (by simp(disch:=omega)only[seval,go_sem,cI,l_2,l_1];rfl) ?_
        (all_goals(try have hZ:=(And.intro h4 (And.intro hb' fm)));(repeat'(first|(with_reducible first|refine ay.seq ?_|refine ay.skip ?_|refine ay.ret ?_|refine ah.nil ?_|refine bG ?_|refine ay.bE (by simp only[fk,eN];rfl) ?_)|((with_reducible refine au ?_);first|(with_reducible refine ah.step (by simp only[seval,go_sem,n1,n2,ag,hZ];rfl) ?_)|((with_reducible refine cy ?_);((with_reducible (first|refine ah.dE (by simp only[seval,go_sem,n1,n2,ag,hZ];rfl) (by simp only[seval,go_sem,n1,n2,ag,hZ];rfl) ?_|refine ah.dS (by simp only[seval,go_sem,n1,n2,ag,hZ];rfl) (by simp only[seval,go_sem,n1,n2,ag,hZ];rfl) ?_));first|refine bN.c [] (hv) (by simp only[seval,go_sem,n1,n2,ag,hZ];rfl) ?_|refine bN.c [] (ha) (by simp only[seval,go_sem,n1,n2,ag,hZ];rfl) ?_|refine bN.c [] (cD) (by simp only[seval,go_sem,n1,n2,ag,hZ];rfl) ?_|refine bN.c [] (jF ?_) (by simp only[seval,go_sem,n1,n2,ag,hZ];rfl) ?_|refine bN.c [] (mW ?_) (by simp only[seval,go_sem,n1,n2,ag,hZ];rfl) ?_))|(with_reducible first|refine ah.step (by simp(disch:=omega)only[seval,go_sem,cI,n1,n2,ag,hZ];rfl) ?_|refine ah.gu 48 (by simp only[seval,go_sem,n1,n2,ag,hZ];rfl) (by simp only[seval,go_sem,n1,n2,ag,hZ];rfl) ?_))|(with_reducible refine cg ?_;with_reducible refine ay.cond (by simp only[seval,go_sem,n1,n2,ag,hZ];rfl) (cL ?_) (cL ?_))|(with_reducible refine cB ?_;intro hc;(try simp only[fG,reduceCtorEq] at hc);(try(exfalso;omega)))|(with_reducible refine aB ?_;refine aC.q rfl rfl (by simp only[seval,go_sem];rfl) (by decide) (by simp only[seval,go_sem];rfl) (by simp only[seval,go_sem];rfl) rfl ?_<;>(try simp only[seval,go_sem])<;>(repeat'(with_reducible apply And.intro))<;>(try rfl))))<;>(try((with_reducible assumption)));all_goals(try clear hZ))
        all_goals(try(first|omega|(simp;omega)|trace_state))
      rotate_left 1
     rotate_left 2
    rotate_left 3
    focus
     have e:bH l n m c=([],19):=by unfold bH;rw[aE (by simp[h1]),aE h2,aE h3,bC h4]
     rw[e];have hZ:=(And.intro h4 (And.intro n1 n2))
    rotate_left 1
   rotate_left 4
  rotate_left 5
 rotate_left 7
 focus
  have e:bH l n m c=([],dh l):=by unfold bH;rw[bC h1]
  rw[e];have hZ:=ek 0
 rotate_left 1;all_goals(refine dP [] [14,19,23,30,33,38,48,63] func121 rfl call121 rfl (by decide) (by decide) rfl rfl ntmps121 (by simp(disch:=omega)only[seval,go_sem,cI,List.replicate,l_2,l_1];rfl) (by simp(disch:=omega)only[seval,go_sem,cI,l_2,l_1];rfl) ?_)
 all_goals((repeat'(first|(with_reducible first|refine ay.seq ?_|refine ay.skip ?_|refine ay.ret ?_|refine ah.nil ?_|refine bG ?_|refine eC ?_|refine ay.bE (by simp only[fk,eN];rfl) ?_)|((with_reducible refine au ?_);first|(with_reducible refine ah.step (by simp only[seval,go_sem,ag,hZ];rfl) ?_)|((with_reducible refine cy ?_);((with_reducible (refine ah.dE (by simp only[seval,go_sem,ag,hZ];rfl) (by simp only[seval,go_sem,ag,hZ];rfl) ?_));first|refine bN.c [] (hv) (by simp only[seval,go_sem,ag,hZ];rfl) ?_|refine bN.c [] (cD) (by simp only[seval,go_sem,ag,hZ];rfl) ?_|refine bN.c [] (jF ?_) (by simp only[seval,go_sem,ag,hZ];rfl) ?_|refine bN.c [] (mW ?_) (by simp only[seval,go_sem,ag,hZ];rfl) ?_))|(with_reducible refine ah.step (by simp(disch:=omega)only[seval,go_sem,cI,ag,hZ];rfl) ?_))|(with_reducible refine cg ?_;with_reducible refine ay.cond (by simp only[seval,go_sem,ag,hZ];rfl) (cL ?_) (cL ?_))|(with_reducible refine cB ?_;intro hc;(try simp only[fG,reduceCtorEq] at hc);(try(exfalso;omega)))|(with_reducible refine aB ?_;refine aC.q rfl rfl (by simp only[seval,go_sem];rfl) (by decide) (by simp only[seval,go_sem];rfl) (by simp only[seval,go_sem];rfl) rfl ?_<;>(try simp only[seval,go_sem])<;>(repeat'(with_reducible apply And.intro))<;>(try rfl))))<;>(try((with_reducible assumption))))
end Go.Proofs.YteemiclhnfkekaaGreat
