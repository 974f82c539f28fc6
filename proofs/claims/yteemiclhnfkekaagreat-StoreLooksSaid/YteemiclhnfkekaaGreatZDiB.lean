/- Directory: the walks of Validate of the program and of the reference. -/
import Derived.Test.YteemiclhnfkekaaGreatZBase
set_option linter.unusedSimpArgs false
set_option linter.unusedVariables false
set_option maxRecDepth 100000
set_option maxHeartbeats 6400000
namespace Go.Proofs.YteemiclhnfkekaaGreat
open Go.RowKit Go.eB Go.Proofs.Tryz
def xX (l:List Bd) (k:Nat):Option Bd:=if k=0 then none else l[k-1]?
theorem kK {vs:List Bd} {k:Nat} {v:Bd} (h:vs[k]? = some v):xX vs (k+1)=some v:=by simp[xX,h]
theorem AK {vs:List Bd} {k:Nat} {u:Bd} (h:0<k) (hu:vs[k-1]? = some u):xX vs k=some u:=by simp[xX,hu];omega
theorem xY (vs:List Bd):xX vs 0=none:=rfl
def Yu (l:List Bd) (k:Nat) (b:Bd):Bool:=(l.take k).any (fun a=>a.obj==b.obj&&xN a b)
theorem oK {l:List Bd} (hl:l.length<=100000):ak prog 152 [.sl 4 (l.map ag)] (i6 (dh l)) []:=by
 refine dP [] [4,5,7,9,20,109] func152 rfl call152 rfl (by decide) (by decide) rfl rfl ntmps152 (by simp(disch:=omega)only[seval,go_sem,cI,List.replicate,l_2,l_1];rfl) (by simp(disch:=omega)only[seval,go_sem,cI,l_2,l_1];rfl) ?_;((repeat'(first|(with_reducible first|refine ay.seq ?_|refine ay.block ?_|refine ah.nil ?_|refine bG ?_|refine ay.bE (by simp only[fk,eN];rfl) ?_)|((with_reducible refine au ?_);(with_reducible refine ah.step (by simp only[seval,go_sem];rfl) ?_)))))
 (with_reducible refine ay.sX (fun (k:Nat)=>[(12,i6 k),(2,.any),(3,.any),(4,.any),(5,.any),(13,.any),(14,.any),(15,.any),(16,.any),(17,.any),(18,.any),(19,.any),(20,.any),(21,.any),(22,.any),(23,.any),(24,.any),(25,.any),(26,.any),(27,.any),(28,.any),(29,.any),(30,.any),(31,.any),(32,.any),(33,.any),(34,.any),(35,.any),(36,.any),(37,.any),(38,.any),(39,.any),(40,.any),(41,.any),(42,.any),(43,.any),(44,.any),(45,.any),(46,.any),(47,.any),(48,.any),(49,.any),(50,.any),(51,.any),(52,.any),(53,.any),(54,.any),(55,.any),(56,.any),(57,.any),(58,.any),(59,.any),(60,.any),(61,.any),(62,.any),(63,.any),(64,.any),(65,.any),(66,.any),(67,.any),(68,.any),(69,.any),(70,.any),(71,.any),(72,.any),(73,.any),(74,.any),(75,.any),(76,.any),(77,.any),(78,.any),(79,.any),(80,.any),(81,.any),(82,.any),(83,.any),(84,.any),(85,.any)]) (fun (k:Nat)=>[(4,.dead),(5,.dead),(20,.dead)]) (fun (k:Nat)=>k<=l.length/\gT (xX l k) (l.drop k)=gT none l) (fun (k:Nat)=>l.length-k) (0) (⟨ek _,rfl⟩) (by intro _;simp(disch:=omega)only[seval,go_sem,cI];rfl) (by intro _;simp(disch:=omega)only[seval,go_sem,cI];rfl) (by (refine bL ?_);(try simp only[seval,go_sem])) (by (refine bX ?_);(try simp only[seval,go_sem])) (fun k hI=>?_))
 obtain ⟨hk,hf⟩:=hI;by_cases hlt:k<l.length
 focus
  obtain ⟨b,hb⟩:=aZ hlt;have hb':=get_map ag hb;rw[aH hb,gT] at hf;by_cases hz:jZ b=0
  focus
   rw[aE (by simp[hz])] at hf;have ZH:=hz;unfold jZ at hz;have n1:bM b.name=true:=by cases h:bM b.name<;>simp_all
   rw[aE (by simp[n1])] at hz;have n2:¬ (b.obj<1\/b.eo<1\/b.to<0):=fun h=>by rw[bC h] at hz;cases hz
   rw[aE n2] at hz;have n3:¬ (b.to≠0/\b.to<=b.eo):=fun h=>by rw[bC h] at hz;cases hz
   by_cases h0:k=0
   ·subst h0;rw[xY] at hf;simp only[Option.any_none,pT,jd] at hf
    ((repeat'(first|(with_reducible first|refine ay.seq ?_|refine ay.block ?_|refine ay.skip ?_|refine ay.exit ?_|refine ah.nil ?_|refine bG ?_|refine iN ?_|refine dg ?_|refine eT ?_|refine gn ?_|refine ay.bE (by simp only[fk,eN];rfl) ?_)|((with_reducible refine au ?_);first|(with_reducible refine ah.step (by simp only[seval,go_sem,hb',ag,n1];rfl) ?_)|((with_reducible refine cy ?_);((with_reducible (refine ah.dE (by simp only[seval,go_sem,hb',ag,n1];rfl) (by simp only[seval,go_sem,hb',ag,n1];rfl) ?_));refine bN.c [] (cY) (by simp only[seval,go_sem,hb',ag,n1];rfl) ?_))|(with_reducible first|refine ah.step (by simp(disch:=omega)only[seval,go_sem,cI,hb',ag,n1];rfl) ?_|refine ah.iM (by simp only[seval,go_sem,hb',ag,n1];rfl) (by simp only[seval,go_sem,hb',ag,n1];rfl) (by (fail_if_success (with_reducible exact Iw));(fail_if_success (with_reducible exact Ix));exact Iv) (cL ?_) (cL ?_)))|(with_reducible refine cg ?_;with_reducible refine ay.cond (by simp only[seval,go_sem,hb',ag,n1];rfl) (cL ?_) (cL ?_))|(with_reducible refine cB ?_;intro hc;(try simp only[fG,reduceCtorEq] at hc);(try(exfalso;omega))))))
    all_goals(try(exfalso;omega))
    all_goals(try(refine kG (1) (by (refine bL ?_);(try simp only[seval,go_sem])) (by (refine bX ?_);(try simp only[seval,go_sem])) ?_ ?_<;>(try(omega))))
    all_goals(try(exact ⟨by omega,by rw[kK hb];exact hf⟩))
   focus
    obtain ⟨a,ha⟩:=aZ (show k-1<l.length by omega);have gN:=get_map ag ha;rw[AK (by omega) ha,Option.any_some] at hf;cases hp:vY a b
    ·rw[hp] at hf;simp only[pT,jd] at hf;unfold vY ri lq at hp;cases c1:Op.bytesLess b.name.toList a.name.toList with
     | true=>
       rw[c1] at hp;simp at hp
     | false=>
       rw[c1] at hp;cases c2:(b.name.toList==a.name.toList) with
       | false=>
         ((repeat'(first|(with_reducible first|refine ay.seq ?_|refine ay.block ?_|refine ay.skip ?_|refine ah.nil ?_|refine bG ?_|refine dg ?_|refine gn ?_|refine ay.bE (by simp only[fk,eN];rfl) ?_)|((with_reducible refine au ?_);first|(with_reducible refine ah.step (by simp only[seval,go_sem,ag,n1,c1,c2,hb',gN];rfl) ?_)|((with_reducible refine cy ?_);((with_reducible (refine ah.dE (by simp only[seval,go_sem,ag,n1,c1,c2,hb',gN];rfl) (by simp only[seval,go_sem,ag,n1,c1,c2,hb',gN];rfl) ?_));refine bN.c [] (cY) (by simp only[seval,go_sem,ag,n1,c1,c2,hb',gN];rfl) ?_))|(with_reducible first|refine ah.step (by simp(disch:=omega)only[seval,go_sem,cI,ag,n1,c1,c2,hb',gN];rfl) ?_|refine ah.iM (by simp only[seval,go_sem,ag,n1,c1,c2,hb',gN];rfl) (by simp only[seval,go_sem,ag,n1,c1,c2,hb',gN];rfl) (by (fail_if_success (with_reducible exact Iw));(fail_if_success (with_reducible exact Ix));exact Iv) (cL ?_) (cL ?_)))|(with_reducible refine cg ?_;with_reducible refine ay.cond (by simp only[seval,go_sem,ag,n1,c1,c2,hb',gN];rfl) (cL ?_) (cL ?_))|(with_reducible refine cB ?_;intro hc;(try simp only[fG,reduceCtorEq] at hc);(try(exfalso;omega))))))
         all_goals(try(refine kG (k+1) (by (refine bL ?_);(try simp only[seval,go_sem]);first|((repeat'(with_reducible apply And.intro))<;>first|rfl)) (by (refine bX ?_);(try simp only[seval,go_sem])) ?_ ?_<;>(try(omega))))
         all_goals(try(exact ⟨by omega,by rw[kK hb];exact hf⟩))
       | true=>
         simp only[c2,wo,CF,MF,Ph,yX,ne_eq] at hp;obtain ⟨⟨c3,c4⟩,c5⟩:=hp
         ((repeat'(first|(with_reducible first|refine ay.seq ?_|refine ay.block ?_|refine ay.skip ?_|refine ah.nil ?_|refine bG ?_|refine dg ?_|refine gn ?_|refine ay.bE (by simp only[fk,eN];rfl) ?_)|((with_reducible refine au ?_);first|(with_reducible refine ah.step (by simp only[seval,go_sem,ag,n1,c1,c2,hb',gN];rfl) ?_)|((with_reducible refine cy ?_);((with_reducible (refine ah.dE (by simp only[seval,go_sem,ag,n1,c1,c2,hb',gN];rfl) (by simp only[seval,go_sem,ag,n1,c1,c2,hb',gN];rfl) ?_));refine bN.c [] (cY) (by simp only[seval,go_sem,ag,n1,c1,c2,hb',gN];rfl) ?_))|(with_reducible first|refine ah.step (by simp(disch:=omega)only[seval,go_sem,cI,ag,n1,c1,c2,hb',gN];rfl) ?_|refine ah.iM (by simp only[seval,go_sem,ag,n1,c1,c2,hb',gN];rfl) (by simp only[seval,go_sem,ag,n1,c1,c2,hb',gN];rfl) (by (fail_if_success (with_reducible exact Iw));(fail_if_success (with_reducible exact Ix));exact Iv) (cL ?_) (cL ?_)))|(with_reducible refine cg ?_;with_reducible refine ay.cond (by simp only[seval,go_sem,ag,n1,c1,c2,hb',gN];rfl) (cL ?_) (cL ?_))|(with_reducible refine cB ?_;intro hc;(try simp only[fG,reduceCtorEq] at hc);(try(exfalso;omega))))))
         all_goals(try(refine kG (k+1) (by (refine bL ?_);(try simp only[seval,go_sem]);first|((repeat'(with_reducible apply And.intro))<;>first|rfl)) (by (refine bX ?_);(try simp only[seval,go_sem])) ?_ ?_<;>(try(omega))))
         all_goals(try(exact ⟨by omega,by rw[kK hb];exact hf⟩))
    focus
     rw[bC hp] at hf;have hv:dh l=19:=by unfold dh;rw[bC (by omega)];exact hf.symm
     rw[hv];unfold vY ri lq at hp;cases c1:Op.bytesLess b.name.toList a.name.toList
     focus
      rw[c1] at hp;cases c2:(b.name.toList==a.name.toList)
      ·rw[c2] at hp;simp at hp
      focus
       simp only[c2,wo,CF,vP,pQ,nX] at hp;by_cases c3:b.eo<=a.eo
       focus
        have hZ:=(And.intro hb' (And.intro gN (And.intro n1 (And.intro c1 c2))))
       rotate_left 1
       focus
        by_cases c4:a.to=0
        focus
         have hZ:=(And.intro hb' (And.intro gN (And.intro n1 (And.intro c1 c2))))
        rotate_left 1
        focus
         have c5:b.eo<a.to:=by omega
         have hZ:=(And.intro hb' (And.intro gN (And.intro n1 (And.intro c1 c2))))
        rotate_left 1
       rotate_left 2
      rotate_left 3
     rotate_left 3
     focus
      have hZ:=(And.intro hb' (And.intro gN (And.intro n1 c1)))
     rotate_left 1
    rotate_left 4
   rotate_left 4
  rotate_left 4
  focus
   rw[bC hz] at hf;have hv:dh l=jZ b:=by unfold dh;rw[bC (by omega)];exact hf.symm
   rw[hv];unfold jZ;cases n1:bM b.name
   focus
    have hZ:=(And.intro hb' n1)
   rotate_left 1
   focus
    simp only[Bool.true_eq_false,jd];by_cases n2:b.obj<1\/b.eo<1\/b.to<0
    ·rw[bC n2]
     ((repeat'(first|(with_reducible first|refine ay.seq ?_|refine ay.block ?_|refine ay.skip ?_|refine ay.ret ?_|refine ah.nil ?_|refine bG ?_|refine eC ?_|refine c8 ?_|refine jT ?_|refine ay.bE (by simp only[fk,eN];rfl) ?_)|((with_reducible refine au ?_);first|(with_reducible refine ah.step (by simp only[seval,go_sem,hb',ag,n1];rfl) ?_)|((with_reducible refine cy ?_);((with_reducible (refine ah.dE (by simp only[seval,go_sem,hb',ag,n1];rfl) (by simp only[seval,go_sem,hb',ag,n1];rfl) ?_));refine bN.c [] (cY) (by simp only[seval,go_sem,hb',ag,n1];rfl) ?_))|(with_reducible first|refine ah.step (by simp(disch:=omega)only[seval,go_sem,cI,hb',ag,n1];rfl) ?_|refine ah.iM (by simp only[seval,go_sem,hb',ag,n1];rfl) (by simp only[seval,go_sem,hb',ag,n1];rfl) (by (fail_if_success (with_reducible exact Iw));(fail_if_success (with_reducible exact Ix));exact Iv) (cL ?_) (cL ?_)))|(with_reducible refine cg ?_;with_reducible refine ay.cond (by simp only[seval,go_sem,hb',ag,n1];rfl) (cL ?_) (cL ?_))|(with_reducible refine cB ?_;intro hc;(try simp only[fG,reduceCtorEq] at hc);(try(exfalso;omega)))|(with_reducible refine aB ?_;refine aC.q rfl rfl (by simp only[seval,go_sem];rfl) (by decide) (by simp only[seval,go_sem];rfl) (by simp only[seval,go_sem];rfl) rfl ?_<;>(try simp only[seval,go_sem])<;>(repeat'(with_reducible apply And.intro))<;>(try rfl)))))
     all_goals(try(exfalso;omega))
    focus
     rw[aE n2]
     have n3:b.to≠0/\b.to<=b.eo:=by
      refine Decidable.byContradiction fun h=>hz ?_;unfold jZ;rw[aE (by simp[n1]),aE n2,aE h]
     rw[bC n3];have hZ:=(And.intro hb' n1)
    rotate_left 1
   rotate_left 1
  rotate_left 2
 rotate_left 6
 focus
  rw[j9 (by omega),gT] at hf;have hv:dh l=if rX l l 0=true then 9 else 0:=by unfold dh;rw[aE (by omega)]
  rw[hv]
  ((repeat'(first|(with_reducible first|refine ay.seq ?_|refine ay.block ?_|refine ay.exit ?_|refine ah.nil ?_|refine bG ?_|refine iN ?_|refine eT ?_|refine jU ?_|refine ay.bE (by simp only[fk,eN];rfl) ?_)|((with_reducible refine au ?_);(with_reducible first|refine ah.step (by simp only[seval,go_sem];rfl) ?_|refine ah.step (by simp(disch:=omega)only[seval,go_sem,cI];rfl) ?_))|(with_reducible refine cg ?_;with_reducible refine ay.cond (by simp only[seval,go_sem];rfl) (cL ?_) (cL ?_))|(with_reducible refine cB ?_;intro hc;(try simp only[fG,reduceCtorEq] at hc);(try(exfalso;omega))))))
  (with_reducible refine ay.sX (fun (k:Nat)=>[(88,i6 k),(2,.any),(6,.any),(7,.any),(9,.any),(89,.any),(90,.any),(91,.any),(92,.any),(93,.any),(94,.any),(95,.any),(96,.any),(97,.any),(98,.any),(99,.any),(100,.any),(101,.any),(102,.any),(103,.any),(104,.any),(105,.any),(106,.any),(107,.any),(108,.any),(109,.any),(110,.any),(111,.any),(112,.any)]) (fun (k:Nat)=>[(7,.dead),(9,.dead),(109,.dead)]) (fun (k:Nat)=>k<=l.length/\rX l (l.drop k) k=rX l l 0) (fun (k:Nat)=>l.length-k) (0) (⟨ek _,rfl⟩) (by intro _;simp(disch:=omega)only[seval,go_sem,cI];rfl) (by intro _;simp(disch:=omega)only[seval,go_sem,cI];rfl) (by (refine bL ?_);(try simp only[seval,go_sem])) (by (refine bX ?_);(try simp only[seval,go_sem])) (fun k hI=>?_))
  clear hlt hk;obtain ⟨hk,hg⟩:=hI;by_cases hlt:k<l.length
  focus
   obtain ⟨b,hb⟩:=aZ hlt;have hb':=get_map ag hb;rw[aH hb,rX] at hg;have htl:((l.map ag).take k).length=k:=by rw[cw,dD];omega
   ((repeat'(first|(with_reducible first|refine ay.seq ?_|refine ay.block ?_|refine ay.skip ?_|refine ah.nil ?_|refine bG ?_|refine ay.bE (by simp only[fk,eN];rfl) ?_)|((with_reducible refine au ?_);(with_reducible first|refine ah.step (by simp only[seval,go_sem,ag,hb',htl];rfl) ?_|refine ah.step (by simp(disch:=omega)only[seval,go_sem,cI,ag,hb',htl];rfl) ?_))|(with_reducible refine cg ?_;with_reducible refine ay.cond (by simp only[seval,go_sem,ag,hb',htl];rfl) (cL ?_) (cL ?_))|(with_reducible refine cB ?_;intro hc;(try simp only[fG,reduceCtorEq] at hc);(try(exfalso;omega))))))
   (with_reducible refine ay.sX (fun (j:Nat)=>[(97,i6 j),(2,.any),(9,.any),(98,.any),(99,.any),(100,.any),(101,.any),(102,.any),(103,.any),(104,.any),(105,.any),(106,.any),(107,.any),(108,.any),(109,.any),(110,.any),(111,.any)]) (fun (j:Nat)=>[(9,.dead),(109,.dead)]) (fun (j:Nat)=>j<=k/\((l.take k).drop j).any (fun a=>a.obj==b.obj&&xN a b)=(l.take k).any (fun a=>a.obj==b.obj&&xN a b)) (fun (j:Nat)=>k-j) (0) (⟨ek _,rfl⟩) (by intro _;simp(disch:=omega)only[seval,go_sem,cI];rfl) (by intro _;simp(disch:=omega)only[seval,go_sem,cI];rfl) (by (refine bL ?_);(try simp only[seval,go_sem])) (by (refine bX ?_);(try simp only[seval,go_sem])) (fun j hI=>?_))
   obtain ⟨hj,hh⟩:=hI;by_cases hjk:j<k
   focus
    obtain ⟨a,ha⟩:=aZ (show j<l.length by omega);have hat:(l.take k)[j]? = some a:=by rw[EK hjk];exact ha
    have gN:=get_map ag hat;rw[Qt] at gN;have EO:=zm (a:=a) (b:=b);simp only[ag] at EO;rw[aH hat,List.any_cons] at hh;by_cases c1:a.obj=b.obj
    focus
     rw[nX.2 c1,CF] at hh;cases c2:xN a b
     ·rw[c2,wo] at hh
      ((repeat'(first|(with_reducible first|refine ay.seq ?_|refine ay.block ?_|refine ay.skip ?_|refine ah.nil ?_|refine bG ?_|refine dg ?_|refine gn ?_|refine ay.bE (by simp only[fk,eN];rfl) ?_)|((with_reducible refine au ?_);first|(with_reducible refine ah.step (by simp only[seval,go_sem,gN,ag,c2];rfl) ?_)|((with_reducible refine cy ?_);((with_reducible (refine ah.dE (by simp only[seval,go_sem,gN,ag,c2];rfl) (by simp only[seval,go_sem,gN,ag,c2];rfl) ?_));refine bN.c [] (EO) (by simp only[seval,go_sem,gN,ag,c2];rfl) ?_))|(with_reducible refine ah.step (by simp(disch:=omega)only[seval,go_sem,cI,gN,ag,c2];rfl) ?_))|(with_reducible refine cg ?_;with_reducible refine ay.cond (by simp only[seval,go_sem,gN,ag,c2];rfl) (cL ?_) (cL ?_))|(with_reducible refine cB ?_;intro hc;(try simp only[fG,reduceCtorEq] at hc);(try(exfalso;omega))))))
      all_goals(try(refine kG (j+1) (by (refine bL ?_);(try simp only[seval,go_sem]);first|((repeat'(with_reducible apply And.intro))<;>first|rfl)) (by (refine bX ?_);(try simp only[seval,go_sem])) ?_ ?_<;>(try(omega))))
      all_goals(try(exact ⟨by omega,hh⟩))
     focus
      rw[c2,Cm] at hh;rw[<- hh,Cm] at hg;rw[<- hg,bC rfl];have hZ:=(And.intro gN c2)
     rotate_left 1
    rotate_left 1
    ·rw[yX.2 c1,JT,wo] at hh
     ((repeat'(first|(with_reducible first|refine ay.seq ?_|refine ay.block ?_|refine ay.skip ?_|refine ah.nil ?_|refine bG ?_|refine dg ?_|refine gn ?_|refine ay.bE (by simp only[fk,eN];rfl) ?_)|((with_reducible refine au ?_);(with_reducible first|refine ah.step (by simp only[seval,go_sem,gN,ag];rfl) ?_|refine ah.step (by simp(disch:=omega)only[seval,go_sem,cI,gN,ag];rfl) ?_))|(with_reducible refine cg ?_;with_reducible refine ay.cond (by simp only[seval,go_sem,gN,ag];rfl) (cL ?_) (cL ?_))|(with_reducible refine cB ?_;intro hc;(try simp only[fG,reduceCtorEq] at hc);(try(exfalso;omega))))))
     all_goals(try(refine kG (j+1) (by (refine bL ?_);(try simp only[seval,go_sem]);first|((repeat'(with_reducible apply And.intro))<;>first|rfl)) (by (refine bX ?_);(try simp only[seval,go_sem])) ?_ ?_<;>(try(omega))))
     all_goals(try(exact ⟨by omega,hh⟩))
   rotate_left 1
   ·have:j=k:=by omega
    subst this;rw[j9 (by rw[cw];omega),List.any_nil] at hh;rw[<- hh,wo] at hg
    ((repeat'(first|(with_reducible first|refine ay.seq ?_|refine ay.exit ?_|refine ah.nil ?_|refine bG ?_|refine iN ?_|refine dg ?_|refine eT ?_|refine gn ?_|refine jU ?_|refine ay.bE (by simp only[fk,eN];rfl) ?_)|((with_reducible refine au ?_);(with_reducible first|refine ah.step (by simp only[seval,go_sem];rfl) ?_|refine ah.step (by simp(disch:=omega)only[seval,go_sem,cI];rfl) ?_))|(with_reducible refine cg ?_;with_reducible refine ay.cond (by simp only[seval,go_sem];rfl) (cL ?_) (cL ?_))|(with_reducible refine cB ?_;intro hc;(try simp only[fG,reduceCtorEq] at hc);(try(exfalso;omega))))))
    all_goals(try(refine kG (j+1) (by (refine bL ?_);(try simp only[seval,go_sem]);first|((repeat'(with_reducible apply And.intro))<;>first|rfl)) (by (refine bX ?_);(try simp only[seval,go_sem])) ?_ ?_<;>(try(omega))))
    all_goals(try(exact ⟨by omega,hg⟩))
  rotate_left 1
  focus
   rw[j9 (by omega),rX] at hg;rw[<- hg];have hZ:=ek 0
  rotate_left 1
 rotate_left 2
 all_goals((repeat'(first|(with_reducible first|refine ay.seq ?_|refine ay.block ?_|refine ay.skip ?_|refine ay.exit ?_|refine ay.ret ?_|refine ah.nil ?_|refine bG ?_|refine eC ?_|refine iN ?_|refine dg ?_|refine c8 ?_|refine eT ?_|refine jT ?_|refine jU ?_|refine ay.bE (by simp only[fk,eN];rfl) ?_)|((with_reducible refine au ?_);first|(with_reducible refine ah.step (by simp only[seval,go_sem,ag,hZ];rfl) ?_)|((with_reducible refine cy ?_);((with_reducible (refine ah.dE (by simp only[seval,go_sem,ag,hZ];rfl) (by simp only[seval,go_sem,ag,hZ];rfl) ?_));first|refine bN.c [] (EO) (by simp only[seval,go_sem,ag,hZ];rfl) ?_|refine bN.c [] (cY) (by simp only[seval,go_sem,ag,hZ];rfl) ?_))|(with_reducible first|refine ah.step (by simp(disch:=omega)only[seval,go_sem,cI,ag,hZ];rfl) ?_|refine ah.iM (by simp only[seval,go_sem,ag,hZ];rfl) (by simp only[seval,go_sem,ag,hZ];rfl) (by (fail_if_success (with_reducible exact Iw));(fail_if_success (with_reducible exact Ix));exact Iv) (cL ?_) (cL ?_)))|(with_reducible refine cg ?_;with_reducible refine ay.cond (by simp only[seval,go_sem,ag,hZ];rfl) (cL ?_) (cL ?_))|(with_reducible refine cB ?_;intro hc;(try simp only[fG,reduceCtorEq] at hc);(try(exfalso;omega)))|(with_reducible refine aB ?_;refine aC.q rfl rfl (by simp only[seval,go_sem];rfl) (by decide) (by simp only[seval,go_sem];rfl) (by simp only[seval,go_sem];rfl) rfl ?_<;>(try simp only[seval,go_sem])<;>(repeat'(with_reducible apply And.intro))<;>(try rfl)))))
end Go.Proofs.YteemiclhnfkekaaGreat
