/- Directory: the walk of Validate of the reference. -/
import Derived.Test.YteemiclhnfkekaaGreatZDiB
import Derived.Test.YteemiclhnfkekaaGreatZDiQ
import Derived.Test.YteemiclhnfkekaaGreatZChC
import Derived.Test.YteemiclhnfkekaaGreatZPiA
set_option linter.unusedSimpArgs false
set_option linter.unusedVariables false
set_option maxRecDepth 100000
set_option maxHeartbeats 6400000
namespace Go.Proofs.YteemiclhnfkekaaGreat
open Go.RowKit Go.eB Go.Proofs.Tryz
theorem nt {l:List Bd} (hl:l.length<=100000):ak prog 173 [.sl 4 (l.map ag)] (i6 (dh l)) []:=by
 refine dP [] [4,5,20,121,138] func173 rfl call173 rfl (by decide) (by decide) rfl rfl ntmps173 (by simp(disch:=omega)only[seval,go_sem,cI,List.replicate,l_2,l_1];rfl) (by simp(disch:=omega)only[seval,go_sem,cI,l_2,l_1];rfl) ?_;((repeat'(first|(with_reducible first|refine ay.seq ?_|refine ay.block ?_|refine ah.nil ?_|refine bG ?_|refine ay.bE (by simp only[fk,eN];rfl) ?_)|((with_reducible refine au ?_);(with_reducible refine ah.step (by simp only[seval,go_sem];rfl) ?_)))))
 (with_reducible refine ay.sX (fun (k:Nat)=>[(3,i6 k),(2,.any),(4,.any),(5,.any),(8,.any),(9,.any),(10,.any),(11,.any),(12,.any),(13,.any),(14,.any),(15,.any),(16,.any),(17,.any),(18,.any),(19,.any),(20,.any),(21,.any),(22,.any),(23,.any),(24,.any),(25,.any),(26,.any),(27,.any),(28,.any),(29,.any),(30,.any),(31,.any),(32,.any),(33,.any),(34,.any),(35,.any),(36,.any),(37,.any),(38,.any),(39,.any),(40,.any),(41,.any),(42,.any),(43,.any),(44,.any),(45,.any),(46,.any),(47,.any),(48,.any),(49,.any),(50,.any),(51,.any),(52,.any),(53,.any),(54,.any),(55,.any),(56,.any),(57,.any),(58,.any),(59,.any),(60,.any),(61,.any),(62,.any),(63,.any),(64,.any),(65,.any),(66,.any),(67,.any),(68,.any),(69,.any),(70,.any),(71,.any),(72,.any),(73,.any),(74,.any),(75,.any),(76,.any),(77,.any),(78,.any),(79,.any),(80,.any),(81,.any),(82,.any)]) (fun (k:Nat)=>[(4,.dead),(5,.dead),(20,.dead)]) (fun (k:Nat)=>k<=l.length/\gT (xX l k) (l.drop k)=gT none l) (fun (k:Nat)=>l.length-k) (0) (⟨ek _,rfl⟩) (by intro _;simp(disch:=omega)only[seval,go_sem,cI];rfl) (by intro _;simp(disch:=omega)only[seval,go_sem,cI];rfl) (by (refine bL ?_);(try simp only[seval,go_sem])) (by (refine bX ?_);(try simp only[seval,go_sem])) (fun k hI=>?_))
 obtain ⟨hk,hf⟩:=hI;by_cases hlt:k<l.length
 ·obtain ⟨b,hb⟩:=aZ hlt;have hb':=get_map ag hb;rw[aH hb,gT] at hf;by_cases hz:jZ b=0
  ·rw[aE (by simp[hz])] at hf;have ZH:=hz;unfold jZ at hz;have n1:bM b.name=true:=by cases h:bM b.name<;>simp_all
   rw[aE (by simp[n1])] at hz;have n2:¬ (b.obj<1\/b.eo<1\/b.to<0):=fun h=>by rw[bC h] at hz;cases hz
   rw[aE n2] at hz;have n3:¬ (b.to≠0/\b.to<=b.eo):=fun h=>by rw[bC h] at hz;cases hz
   by_cases h0:k=0
   ·subst h0;rw[xY] at hf;simp only[Option.any_none,pT,jd] at hf
    ((repeat'(first|(with_reducible first|refine ay.seq ?_|refine ay.block ?_|refine ay.skip ?_|refine ay.exit ?_|refine ah.nil ?_|refine bG ?_|refine iN ?_|refine eT ?_|refine gn ?_|refine ay.bE (by simp only[fk,eN];rfl) ?_)|((with_reducible refine au ?_);first|(with_reducible refine ah.step (by simp only[seval,go_sem,hb',ag,n1];rfl) ?_)|((with_reducible refine cy ?_);((with_reducible (refine ah.dE (by simp only[seval,go_sem,hb',ag,n1];rfl) (by simp only[seval,go_sem,hb',ag,n1];rfl) ?_));refine bN.c [] (cD) (by simp only[seval,go_sem,hb',ag,n1];rfl) ?_))|(with_reducible first|refine ah.step (by simp(disch:=omega)only[seval,go_sem,cI,hb',ag,n1];rfl) ?_|refine ah.iM (by simp only[seval,go_sem,hb',ag,n1];rfl) (by simp only[seval,go_sem,hb',ag,n1];rfl) (by (fail_if_success (with_reducible exact Iw));(fail_if_success (with_reducible exact Ix));exact Iv) (cL ?_) (cL ?_)))|(with_reducible refine cg ?_;with_reducible refine ay.cond (by simp only[seval,go_sem,hb',ag,n1];rfl) (cL ?_) (cL ?_))|(with_reducible refine cB ?_;intro hc;(try simp only[fG,reduceCtorEq] at hc);(try(exfalso;omega))))))
    all_goals(try(exfalso;omega))
    all_goals(try(refine kG (1) (by (refine bL ?_);(try simp only[seval,go_sem])) (by (refine bX ?_);(try simp only[seval,go_sem])) ?_ ?_<;>(try(omega))))
    all_goals(try(exact ⟨by omega,by rw[kK hb];exact hf⟩))
   ·obtain ⟨a,ha⟩:=aZ (show k-1<l.length by omega);have gN:=get_map ag ha;rw[AK (by omega) ha,Option.any_some] at hf;cases hp:vY a b with
    | true=>
      rw[bC hp] at hf;have hv:dh l=19:=by unfold dh;rw[bC (by omega)];exact hf.symm
      rw[hv];unfold vY ri lq at hp;cases c1:Op.bytesLess b.name.toList a.name.toList with
      | true=>
        have hg:=HF a.name.toList b.name.toList;rw[c1] at hg
        (all_goals(try have hZ:=(And.intro hb' (And.intro gN hg)));(repeat'(first|(with_reducible first|refine ay.seq ?_|refine ay.block ?_|refine ay.skip ?_|refine ay.ret ?_|refine ah.nil ?_|refine bG ?_|refine eC ?_|refine c8 ?_|refine jT ?_|refine ay.bE (by simp only[fk,eN];rfl) ?_)|((with_reducible refine au ?_);first|(with_reducible refine ah.step (by simp only[seval,go_sem,ag,n1,hZ];rfl) ?_)|((with_reducible refine cy ?_);((with_reducible (refine ah.dE (by simp only[seval,go_sem,ag,n1,hZ];rfl) (by simp only[seval,go_sem,ag,n1,hZ];rfl) ?_));refine bN.c [] (cD) (by simp only[seval,go_sem,ag,n1,hZ];rfl) ?_))|(with_reducible first|refine ah.step (by simp(disch:=omega)only[seval,go_sem,cI,ag,n1,hZ];rfl) ?_|refine ah.iM (by simp only[seval,go_sem,ag,n1,hZ];rfl) (by simp only[seval,go_sem,ag,n1,hZ];rfl) (by (fail_if_success (with_reducible exact Iw));(fail_if_success (with_reducible exact Ix));exact Iv) (cL ?_) (cL ?_)))|(with_reducible refine cg ?_;with_reducible refine ay.cond (by simp only[seval,go_sem,ag,n1,hZ];rfl) (cL ?_) (cL ?_))|(with_reducible refine cB ?_;intro hc;(try simp only[fG,reduceCtorEq] at hc);(try(exfalso;omega)))|(with_reducible refine aB ?_;refine aC.q rfl rfl (by simp only[seval,go_sem];rfl) (by decide) (by simp only[seval,go_sem];rfl) (by simp only[seval,go_sem];rfl) rfl ?_<;>(try simp only[seval,go_sem])<;>(repeat'(with_reducible apply And.intro))<;>(try rfl)))))
      | false=>
        rw[c1] at hp;cases c2:(b.name.toList==a.name.toList) with
        | false=>rw[c2] at hp;simp at hp
        | true=>
          simp only[c2,wo,CF,vP,pQ,nX] at hp;have hg:=HF a.name.toList b.name.toList;rw[c1] at hg;have hs:(a.name.toList==b.name.toList)=true:=by rw[nX] at c2 ⊢;exact c2.symm
          by_cases c3:b.eo<=a.eo
          ·((repeat'(first|(with_reducible first|refine ay.seq ?_|refine ay.block ?_|refine ay.skip ?_|refine ay.ret ?_|refine ah.nil ?_|refine bG ?_|refine eC ?_|refine c8 ?_|refine jT ?_|refine ay.bE (by simp only[fk,eN];rfl) ?_)|((with_reducible refine au ?_);first|(with_reducible refine ah.step (by simp only[seval,go_sem,ag,n1,hb',gN,hg,hs];rfl) ?_)|((with_reducible refine cy ?_);((with_reducible (refine ah.dE (by simp only[seval,go_sem,ag,n1,hb',gN,hg,hs];rfl) (by simp only[seval,go_sem,ag,n1,hb',gN,hg,hs];rfl) ?_));refine bN.c [] (cD) (by simp only[seval,go_sem,ag,n1,hb',gN,hg,hs];rfl) ?_))|(with_reducible first|refine ah.step (by simp(disch:=omega)only[seval,go_sem,cI,ag,n1,hb',gN,hg,hs];rfl) ?_|refine ah.iM (by simp only[seval,go_sem,ag,n1,hb',gN,hg,hs];rfl) (by simp only[seval,go_sem,ag,n1,hb',gN,hg,hs];rfl) (by (fail_if_success (with_reducible exact Iw));(fail_if_success (with_reducible exact Ix));exact Iv) (cL ?_) (cL ?_)))|(with_reducible refine cg ?_;with_reducible refine ay.cond (by simp only[seval,go_sem,ag,n1,hb',gN,hg,hs];rfl) (cL ?_) (cL ?_))|(with_reducible refine cB ?_;intro hc;(try simp only[fG,reduceCtorEq] at hc);(try(exfalso;omega)))|(with_reducible refine aB ?_;refine aC.q rfl rfl (by simp only[seval,go_sem];rfl) (by decide) (by simp only[seval,go_sem];rfl) (by simp only[seval,go_sem];rfl) rfl ?_<;>(try simp only[seval,go_sem])<;>(repeat'(with_reducible apply And.intro))<;>(try rfl)))))
          ·by_cases c4:a.to=0
           ·((repeat'(first|(with_reducible first|refine ay.seq ?_|refine ay.block ?_|refine ay.skip ?_|refine ay.ret ?_|refine ah.nil ?_|refine bG ?_|refine eC ?_|refine c8 ?_|refine jT ?_|refine ay.bE (by simp only[fk,eN];rfl) ?_)|((with_reducible refine au ?_);first|(with_reducible refine ah.step (by simp only[seval,go_sem,ag,n1,hb',gN,hg,hs];rfl) ?_)|((with_reducible refine cy ?_);((with_reducible (refine ah.dE (by simp only[seval,go_sem,ag,n1,hb',gN,hg,hs];rfl) (by simp only[seval,go_sem,ag,n1,hb',gN,hg,hs];rfl) ?_));refine bN.c [] (cD) (by simp only[seval,go_sem,ag,n1,hb',gN,hg,hs];rfl) ?_))|(with_reducible first|refine ah.step (by simp(disch:=omega)only[seval,go_sem,cI,ag,n1,hb',gN,hg,hs];rfl) ?_|refine ah.iM (by simp only[seval,go_sem,ag,n1,hb',gN,hg,hs];rfl) (by simp only[seval,go_sem,ag,n1,hb',gN,hg,hs];rfl) (by (fail_if_success (with_reducible exact Iw));(fail_if_success (with_reducible exact Ix));exact Iv) (cL ?_) (cL ?_)))|(with_reducible refine cg ?_;with_reducible refine ay.cond (by simp only[seval,go_sem,ag,n1,hb',gN,hg,hs];rfl) (cL ?_) (cL ?_))|(with_reducible refine cB ?_;intro hc;(try simp only[fG,reduceCtorEq] at hc);(try(exfalso;omega)))|(with_reducible refine aB ?_;refine aC.q rfl rfl (by simp only[seval,go_sem];rfl) (by decide) (by simp only[seval,go_sem];rfl) (by simp only[seval,go_sem];rfl) rfl ?_<;>(try simp only[seval,go_sem])<;>(repeat'(with_reducible apply And.intro))<;>(try rfl)))))
           ·have c5:b.eo<a.to:=by omega
            (all_goals(try have hZ:=(And.intro hb' (And.intro gN (And.intro hg hs))));(repeat'(first|(with_reducible first|refine ay.seq ?_|refine ay.block ?_|refine ay.skip ?_|refine ay.ret ?_|refine ah.nil ?_|refine bG ?_|refine eC ?_|refine c8 ?_|refine jT ?_|refine ay.bE (by simp only[fk,eN];rfl) ?_)|((with_reducible refine au ?_);first|(with_reducible refine ah.step (by simp only[seval,go_sem,ag,n1,hZ];rfl) ?_)|((with_reducible refine cy ?_);((with_reducible (refine ah.dE (by simp only[seval,go_sem,ag,n1,hZ];rfl) (by simp only[seval,go_sem,ag,n1,hZ];rfl) ?_));refine bN.c [] (cD) (by simp only[seval,go_sem,ag,n1,hZ];rfl) ?_))|(with_reducible first|refine ah.step (by simp(disch:=omega)only[seval,go_sem,cI,ag,n1,hZ];rfl) ?_|refine ah.iM (by simp only[seval,go_sem,ag,n1,hZ];rfl) (by simp only[seval,go_sem,ag,n1,hZ];rfl) (by (fail_if_success (with_reducible exact Iw));(fail_if_success (with_reducible exact Ix));exact Iv) (cL ?_) (cL ?_)))|(with_reducible refine cg ?_;with_reducible refine ay.cond (by simp only[seval,go_sem,ag,n1,hZ];rfl) (cL ?_) (cL ?_))|(with_reducible refine cB ?_;intro hc;(try simp only[fG,reduceCtorEq] at hc);(try(exfalso;omega)))|(with_reducible refine aB ?_;refine aC.q rfl rfl (by simp only[seval,go_sem];rfl) (by decide) (by simp only[seval,go_sem];rfl) (by simp only[seval,go_sem];rfl) rfl ?_<;>(try simp only[seval,go_sem])<;>(repeat'(with_reducible apply And.intro))<;>(try rfl)))))
    | false=>
      rw[hp] at hf;simp only[pT,jd] at hf;unfold vY ri lq at hp;cases c1:Op.bytesLess b.name.toList a.name.toList with
      | true=>rw[c1] at hp;simp at hp
      | false=>
        rw[c1] at hp;cases c2:(b.name.toList==a.name.toList) with
        | false=>
          have hg:=HF a.name.toList b.name.toList;rw[c1] at hg;have hs:(a.name.toList==b.name.toList)=false:=by rw[yX] at c2 ⊢;exact fun e=>c2 e.symm
          have h1:=uH c1 (fun e=>by rw[e] at hs;simp at hs)
          ((repeat'(first|(with_reducible first|refine ay.seq ?_|refine ay.block ?_|refine ay.skip ?_|refine ah.nil ?_|refine bG ?_|refine dg ?_|refine gn ?_|refine ay.bE (by simp only[fk,eN];rfl) ?_)|((with_reducible refine au ?_);first|(with_reducible refine ah.step (by simp only[seval,go_sem,ag,n1,hb',gN,h1,hs];rfl) ?_)|((with_reducible refine cy ?_);((with_reducible (refine ah.dE (by simp only[seval,go_sem,ag,n1,hb',gN,h1,hs];rfl) (by simp only[seval,go_sem,ag,n1,hb',gN,h1,hs];rfl) ?_));refine bN.c [] (cD) (by simp only[seval,go_sem,ag,n1,hb',gN,h1,hs];rfl) ?_))|(with_reducible first|refine ah.step (by simp(disch:=omega)only[seval,go_sem,cI,ag,n1,hb',gN,h1,hs];rfl) ?_|refine ah.iM (by simp only[seval,go_sem,ag,n1,hb',gN,h1,hs];rfl) (by simp only[seval,go_sem,ag,n1,hb',gN,h1,hs];rfl) (by (fail_if_success (with_reducible exact Iw));(fail_if_success (with_reducible exact Ix));exact Iv) (cL ?_) (cL ?_)))|(with_reducible refine cg ?_;with_reducible refine ay.cond (by simp only[seval,go_sem,ag,n1,hb',gN,h1,hs];rfl) (cL ?_) (cL ?_))|(with_reducible refine cB ?_;intro hc;(try simp only[fG,reduceCtorEq] at hc);(try(exfalso;omega))))))
          all_goals(try(refine kG (k+1) (by (refine bL ?_);(try simp only[seval,go_sem]);first|((repeat'(with_reducible apply And.intro))<;>first|rfl)) (by (refine bX ?_);(try simp only[seval,go_sem])) ?_ ?_<;>(try(omega))))
          all_goals(try(exact ⟨by omega,by rw[kK hb];exact hf⟩))
        | true=>
          simp only[c2,wo,CF,MF,Ph,yX,ne_eq] at hp;obtain ⟨⟨c3,c4⟩,c5⟩:=hp;have hg:=HF a.name.toList b.name.toList;rw[c1] at hg;have hs:(a.name.toList==b.name.toList)=true:=by rw[nX] at c2 ⊢;exact c2.symm
          ((repeat'(first|(with_reducible first|refine ay.seq ?_|refine ay.block ?_|refine ay.skip ?_|refine ah.nil ?_|refine bG ?_|refine dg ?_|refine gn ?_|refine ay.bE (by simp only[fk,eN];rfl) ?_)|((with_reducible refine au ?_);first|(with_reducible refine ah.step (by simp only[seval,go_sem,ag,n1,hb',gN,hg,hs];rfl) ?_)|((with_reducible refine cy ?_);((with_reducible (refine ah.dE (by simp only[seval,go_sem,ag,n1,hb',gN,hg,hs];rfl) (by simp only[seval,go_sem,ag,n1,hb',gN,hg,hs];rfl) ?_));refine bN.c [] (cD) (by simp only[seval,go_sem,ag,n1,hb',gN,hg,hs];rfl) ?_))|(with_reducible first|refine ah.step (by simp(disch:=omega)only[seval,go_sem,cI,ag,n1,hb',gN,hg,hs];rfl) ?_|refine ah.iM (by simp only[seval,go_sem,ag,n1,hb',gN,hg,hs];rfl) (by simp only[seval,go_sem,ag,n1,hb',gN,hg,hs];rfl) (by (fail_if_success (with_reducible exact Iw));(fail_if_success (with_reducible exact Ix));exact Iv) (cL ?_) (cL ?_)))|(with_reducible refine cg ?_;with_reducible refine ay.cond (by simp only[seval,go_sem,ag,n1,hb',gN,hg,hs];rfl) (cL ?_) (cL ?_))|(with_reducible refine cB ?_;intro hc;(try simp only[fG,reduceCtorEq] at hc);(try(exfalso;omega))))))
          all_goals(try(refine kG (k+1) (by (refine bL ?_);(try simp only[seval,go_sem]);first|((repeat'(with_reducible apply And.intro))<;>first|rfl)) (by (refine bX ?_);(try simp only[seval,go_sem])) ?_ ?_<;>(try(omega))))
          all_goals(try(exact ⟨by omega,by rw[kK hb];exact hf⟩))
  ·rw[bC hz] at hf;have hv:dh l=jZ b:=by unfold dh;rw[bC (by omega)];exact hf.symm
   rw[hv];unfold jZ;cases n1:bM b.name with
   | false=>((repeat'(first|(with_reducible first|refine ay.seq ?_|refine ay.block ?_|refine ay.skip ?_|refine ay.ret ?_|refine ah.nil ?_|refine bG ?_|refine eC ?_|refine c8 ?_|refine jT ?_|refine ay.bE (by simp only[fk,eN];rfl) ?_)|((with_reducible refine au ?_);first|(with_reducible refine ah.step (by simp only[seval,go_sem,hb',ag,n1];rfl) ?_)|((with_reducible refine cy ?_);((with_reducible (refine ah.dE (by simp only[seval,go_sem,hb',ag,n1];rfl) (by simp only[seval,go_sem,hb',ag,n1];rfl) ?_));refine bN.c [] (cD) (by simp only[seval,go_sem,hb',ag,n1];rfl) ?_))|(with_reducible refine ah.step (by simp(disch:=omega)only[seval,go_sem,cI,hb',ag,n1];rfl) ?_))|(with_reducible refine cg ?_;with_reducible refine ay.cond (by simp only[seval,go_sem,hb',ag,n1];rfl) (cL ?_) (cL ?_))|(with_reducible refine cB ?_;intro hc;(try simp only[fG,reduceCtorEq] at hc);(try(exfalso;omega)))|(with_reducible refine aB ?_;refine aC.q rfl rfl (by simp only[seval,go_sem];rfl) (by decide) (by simp only[seval,go_sem];rfl) (by simp only[seval,go_sem];rfl) rfl ?_<;>(try simp only[seval,go_sem])<;>(repeat'(with_reducible apply And.intro))<;>(try rfl)))))
   | true=>
     simp only[Bool.true_eq_false,jd];by_cases n2:b.obj<1\/b.eo<1\/b.to<0
     ·rw[bC n2]
      ((repeat'(first|(with_reducible first|refine ay.seq ?_|refine ay.block ?_|refine ay.skip ?_|refine ay.ret ?_|refine ah.nil ?_|refine bG ?_|refine eC ?_|refine c8 ?_|refine jT ?_|refine ay.bE (by simp only[fk,eN];rfl) ?_)|((with_reducible refine au ?_);first|(with_reducible refine ah.step (by simp only[seval,go_sem,hb',ag,n1];rfl) ?_)|((with_reducible refine cy ?_);((with_reducible (refine ah.dE (by simp only[seval,go_sem,hb',ag,n1];rfl) (by simp only[seval,go_sem,hb',ag,n1];rfl) ?_));refine bN.c [] (cD) (by simp only[seval,go_sem,hb',ag,n1];rfl) ?_))|(with_reducible first|refine ah.step (by simp(disch:=omega)only[seval,go_sem,cI,hb',ag,n1];rfl) ?_|refine ah.iM (by simp only[seval,go_sem,hb',ag,n1];rfl) (by simp only[seval,go_sem,hb',ag,n1];rfl) (by (fail_if_success (with_reducible exact Iw));(fail_if_success (with_reducible exact Ix));exact Iv) (cL ?_) (cL ?_)))|(with_reducible refine cg ?_;with_reducible refine ay.cond (by simp only[seval,go_sem,hb',ag,n1];rfl) (cL ?_) (cL ?_))|(with_reducible refine cB ?_;intro hc;(try simp only[fG,reduceCtorEq] at hc);(try(exfalso;omega)))|(with_reducible refine aB ?_;refine aC.q rfl rfl (by simp only[seval,go_sem];rfl) (by decide) (by simp only[seval,go_sem];rfl) (by simp only[seval,go_sem];rfl) rfl ?_<;>(try simp only[seval,go_sem])<;>(repeat'(with_reducible apply And.intro))<;>(try rfl)))))
      all_goals(try(exfalso;omega))
     ·rw[aE n2]
      have n3:b.to≠0/\b.to<=b.eo:=by
       refine Decidable.byContradiction fun h=>hz ?_;unfold jZ;rw[aE (by simp[n1]),aE n2,aE h]
      rw[bC n3]
      ((repeat'(first|(with_reducible first|refine ay.seq ?_|refine ay.block ?_|refine ay.skip ?_|refine ay.ret ?_|refine ah.nil ?_|refine bG ?_|refine eC ?_|refine c8 ?_|refine jT ?_|refine ay.bE (by simp only[fk,eN];rfl) ?_)|((with_reducible refine au ?_);first|(with_reducible refine ah.step (by simp only[seval,go_sem,hb',ag,n1];rfl) ?_)|((with_reducible refine cy ?_);((with_reducible (refine ah.dE (by simp only[seval,go_sem,hb',ag,n1];rfl) (by simp only[seval,go_sem,hb',ag,n1];rfl) ?_));refine bN.c [] (cD) (by simp only[seval,go_sem,hb',ag,n1];rfl) ?_))|(with_reducible refine ah.step (by simp(disch:=omega)only[seval,go_sem,cI,hb',ag,n1];rfl) ?_))|(with_reducible refine cg ?_;with_reducible refine ay.cond (by simp only[seval,go_sem,hb',ag,n1];rfl) (cL ?_) (cL ?_))|(with_reducible refine cB ?_;intro hc;(try simp only[fG,reduceCtorEq] at hc);(try(exfalso;omega)))|(with_reducible refine aB ?_;refine aC.q rfl rfl (by simp only[seval,go_sem];rfl) (by decide) (by simp only[seval,go_sem];rfl) (by simp only[seval,go_sem];rfl) rfl ?_<;>(try simp only[seval,go_sem])<;>(repeat'(with_reducible apply And.intro))<;>(try rfl)))))
 ·rw[j9 (by omega),gT] at hf;have hv:dh l=if rX l l 0=true then 9 else 0:=by unfold dh;rw[aE (by omega)]
  rw[hv]
  ((repeat'(first|(with_reducible first|refine ay.seq ?_|refine ay.block ?_|refine ay.exit ?_|refine ah.nil ?_|refine bG ?_|refine iN ?_|refine eT ?_|refine jU ?_|refine ay.bE (by simp only[fk,eN];rfl) ?_)|((with_reducible refine au ?_);(with_reducible first|refine ah.step (by simp only[seval,go_sem];rfl) ?_|refine ah.step (by simp(disch:=omega)only[seval,go_sem,cI];rfl) ?_))|(with_reducible refine cg ?_;with_reducible refine ay.cond (by simp only[seval,go_sem];rfl) (cL ?_) (cL ?_))|(with_reducible refine cB ?_;intro hc;(try simp only[fG,reduceCtorEq] at hc);(try(exfalso;omega))))))
  (with_reducible refine ay.sX (fun (k:Nat)=>[(6,i6 k),(2,.any),(7,.any),(83,.any),(84,.any),(85,.any),(86,.any),(87,.any),(88,.any),(89,.any),(90,.any),(91,.any),(92,.any),(93,.any),(94,.any),(95,.any),(96,.any),(97,.any),(98,.any),(99,.any),(100,.any),(101,.any),(102,.any),(103,.any),(104,.any),(105,.any),(106,.any),(107,.any),(108,.any),(109,.any),(110,.any),(111,.any),(112,.any),(113,.any),(114,.any),(115,.any),(116,.any),(117,.any),(118,.any),(119,.any),(120,.any),(121,.any),(122,.any),(123,.any),(124,.any),(125,.any),(126,.any),(127,.any),(128,.any),(129,.any),(130,.any),(131,.any),(132,.any),(133,.any),(134,.any),(135,.any),(136,.any),(137,.any),(138,.any),(139,.any),(140,.any)]) (fun (k:Nat)=>[(121,.dead),(138,.dead)]) (fun (k:Nat)=>k<=l.length/\rX l (l.drop k) k=rX l l 0) (fun (k:Nat)=>l.length-k) (0) (⟨ek _,rfl⟩) (by intro _;simp(disch:=omega)only[seval,go_sem,cI];rfl) (by intro _;simp(disch:=omega)only[seval,go_sem,cI];rfl) (by (refine bL ?_);(try simp only[seval,go_sem])) (by (refine bX ?_);(try simp only[seval,go_sem])) (fun k hI=>?_))
  clear hlt hk;obtain ⟨hk,hg⟩:=hI;by_cases hlt:k<l.length
  ·obtain ⟨b,hb⟩:=aZ hlt;have hb':=get_map ag hb;rw[aH hb,rX] at hg
   ((repeat'(first|(with_reducible first|refine ay.seq ?_|refine ay.block ?_|refine ay.skip ?_|refine ah.nil ?_|refine bG ?_|refine ay.bE (by simp only[fk,eN];rfl) ?_)|((with_reducible refine au ?_);(with_reducible first|refine ah.step (by simp only[seval,go_sem,hb',ag];rfl) ?_|refine ah.step (by simp(disch:=omega)only[seval,go_sem,cI,hb',ag];rfl) ?_))|(with_reducible refine cg ?_;with_reducible refine ay.cond (by simp only[seval,go_sem,hb',ag];rfl) (cL ?_) (cL ?_))|(with_reducible refine cB ?_;intro hc;(try simp only[fG,reduceCtorEq] at hc);(try(exfalso;omega))))))
   (with_reducible refine ay.sX (fun (j:Nat)=>[(7,i6 j),(2,.any),(89,.any),(90,.any),(91,.any),(92,.any),(93,.any),(94,.any),(95,.any),(96,.any),(97,.any),(98,.any),(99,.any),(100,.any),(101,.any),(102,.any),(103,.any),(104,.any),(105,.any),(106,.any),(107,.any),(108,.any),(109,.any),(110,.any),(111,.any),(112,.any),(113,.any),(114,.any),(115,.any),(116,.any),(117,.any),(118,.any),(119,.any),(120,.any),(121,.any),(122,.any),(123,.any),(124,.any),(125,.any),(126,.any),(127,.any),(128,.any),(129,.any),(130,.any),(131,.any),(132,.any),(133,.any),(134,.any),(135,.any),(136,.any),(137,.any),(138,.any),(139,.any),(140,.any)]) (fun (j:Nat)=>[(121,.dead),(138,.dead)]) (fun (j:Nat)=>j<=k/\((l.take k).drop j).any (fun a=>a.obj==b.obj&&xN a b)=(l.take k).any (fun a=>a.obj==b.obj&&xN a b)) (fun (j:Nat)=>k-j) (0) (⟨ek _,rfl⟩) (by intro _;simp(disch:=omega)only[seval,go_sem,cI];rfl) (by intro _;simp(disch:=omega)only[seval,go_sem,cI];rfl) (by (refine bL ?_);(try simp only[seval,go_sem])) (by (refine bX ?_);(try simp only[seval,go_sem])) (fun j hI=>?_))
   obtain ⟨hj,hh⟩:=hI;by_cases hjk:j<k
   ·obtain ⟨a,ha⟩:=aZ (show j<l.length by omega);have hat:(l.take k)[j]? = some a:=by rw[EK hjk];exact ha
    have gN:=get_map ag ha;have EO:=ov_holds (kL _ _ hf.symm a (fS ha)) (kL _ _ hf.symm b (fS hb));rw[aH hat,List.any_cons] at hh;by_cases c1:a.obj=b.obj
    ·rw[nX.2 c1,CF] at hh;cases c2:xN a b with
     | false=>
       rw[c2,MF] at EO;obtain ⟨o1,o2⟩:=EO;rw[c2,wo] at hh
       ((repeat'(first|(with_reducible first|refine ay.seq ?_|refine ay.block ?_|refine ay.skip ?_|refine ah.nil ?_|refine bz.nil ?_|refine bG ?_|refine dg ?_|refine gn ?_|refine ay.bE (by simp only[fk,eN];rfl) ?_)|((with_reducible refine au ?_);(with_reducible first|refine ah.step (by simp only[seval,go_sem,ag,o1,o2,gN,hb'];rfl) ?_|refine ah.step (by simp(disch:=omega)only[seval,go_sem,cI,ag,o1,o2,gN,hb'];rfl) ?_))|((with_reducible refine gD ?_);first|(with_reducible refine bz.step (by simp only[seval,go_sem,ag,o1,o2,gN,hb'];rfl) ?_)|((with_reducible refine lI ?_);((with_reducible (refine bz.dE (by simp only[seval,go_sem,ag,o1,o2,gN,hb'];rfl) (by simp only[seval,go_sem,ag,o1,o2,gN,hb'];rfl) ?_));refine iO.c (iA) (by simp only[seval,go_sem,ag,o1,o2,gN,hb'];rfl) ?_))|(with_reducible refine bz.step (by simp(disch:=omega)only[seval,go_sem,cI,ag,o1,o2,gN,hb'];rfl) ?_))|(with_reducible refine cg ?_;with_reducible refine ay.cond (by simp only[seval,go_sem,ag,o1,o2,gN,hb'];rfl) (cL ?_) (cL ?_))|(with_reducible refine cB ?_;intro hc;(try simp only[fG,reduceCtorEq] at hc);(try(exfalso;omega)))|(with_reducible refine br ?_;refine ay.iK mix (by kernel_rfl) (by simp only[fk,eN];rfl) ?_))))
       all_goals(try(refine kG (j+1) (by (refine bL ?_);(try simp only[seval,go_sem]);first|((repeat'(with_reducible apply And.intro))<;>first|rfl)) (by (refine bX ?_);(try simp only[seval,go_sem])) ?_ ?_<;>(try(omega))))
       all_goals(try(exact ⟨by omega,hh⟩))
     | true=>
       rw[c2,Cm] at hh;rw[<- hh,Cm] at hg;rw[<- hg,bC rfl];rw[c2] at EO;cases o1:eX a.eo a.to b.eo with
       | true=>(all_goals(try have hZ:=(And.intro gN hb'));(repeat'(first|(with_reducible first|refine ay.seq ?_|refine ay.block ?_|refine ay.skip ?_|refine ay.ret ?_|refine ah.nil ?_|refine bz.nil ?_|refine bG ?_|refine eC ?_|refine c8 ?_|refine jT ?_|refine ay.bE (by simp only[fk,eN];rfl) ?_)|((with_reducible refine au ?_);(with_reducible first|refine ah.step (by simp only[seval,go_sem,ag,o1,hZ];rfl) ?_|refine ah.step (by simp(disch:=omega)only[seval,go_sem,cI,ag,o1,hZ];rfl) ?_))|((with_reducible refine gD ?_);first|(with_reducible refine bz.step (by simp only[seval,go_sem,ag,o1,hZ];rfl) ?_)|((with_reducible refine lI ?_);((with_reducible (refine bz.dE (by simp only[seval,go_sem,ag,o1,hZ];rfl) (by simp only[seval,go_sem,ag,o1,hZ];rfl) ?_));refine iO.c (iA) (by simp only[seval,go_sem,ag,o1,hZ];rfl) ?_))|(with_reducible refine bz.step (by simp(disch:=omega)only[seval,go_sem,cI,ag,o1,hZ];rfl) ?_))|(with_reducible refine cg ?_;with_reducible refine ay.cond (by simp only[seval,go_sem,ag,o1,hZ];rfl) (cL ?_) (cL ?_))|(with_reducible refine cB ?_;intro hc;(try simp only[fG,reduceCtorEq] at hc);(try(exfalso;omega)))|(with_reducible refine br ?_;refine ay.iK mix (by kernel_rfl) (by simp only[fk,eN];rfl) ?_)|(with_reducible refine aB ?_;refine aC.q rfl rfl (by simp only[seval,go_sem];rfl) (by decide) (by simp only[seval,go_sem];rfl) (by simp only[seval,go_sem];rfl) rfl ?_<;>(try simp only[seval,go_sem])<;>(repeat'(with_reducible apply And.intro))<;>(try rfl))));all_goals(try clear hZ))
       | false=>
         rw[o1,wo] at EO
         (all_goals(try have hZ:=(And.intro gN (And.intro hb' EO)));(repeat'(first|(with_reducible first|refine ay.seq ?_|refine ay.block ?_|refine ay.skip ?_|refine ay.ret ?_|refine ah.nil ?_|refine bz.nil ?_|refine bG ?_|refine eC ?_|refine c8 ?_|refine jT ?_|refine ay.bE (by simp only[fk,eN];rfl) ?_)|((with_reducible refine au ?_);(with_reducible first|refine ah.step (by simp only[seval,go_sem,ag,o1,hZ];rfl) ?_|refine ah.step (by simp(disch:=omega)only[seval,go_sem,cI,ag,o1,hZ];rfl) ?_))|((with_reducible refine gD ?_);first|(with_reducible refine bz.step (by simp only[seval,go_sem,ag,o1,hZ];rfl) ?_)|((with_reducible refine lI ?_);((with_reducible (refine bz.dE (by simp only[seval,go_sem,ag,o1,hZ];rfl) (by simp only[seval,go_sem,ag,o1,hZ];rfl) ?_));refine iO.c (iA) (by simp only[seval,go_sem,ag,o1,hZ];rfl) ?_))|(with_reducible refine bz.step (by simp(disch:=omega)only[seval,go_sem,cI,ag,o1,hZ];rfl) ?_))|(with_reducible refine cg ?_;with_reducible refine ay.cond (by simp only[seval,go_sem,ag,o1,hZ];rfl) (cL ?_) (cL ?_))|(with_reducible refine cB ?_;intro hc;(try simp only[fG,reduceCtorEq] at hc);(try(exfalso;omega)))|(with_reducible refine br ?_;refine ay.iK mix (by kernel_rfl) (by simp only[fk,eN];rfl) ?_)|(with_reducible refine aB ?_;refine aC.q rfl rfl (by simp only[seval,go_sem];rfl) (by decide) (by simp only[seval,go_sem];rfl) (by simp only[seval,go_sem];rfl) rfl ?_<;>(try simp only[seval,go_sem])<;>(repeat'(with_reducible apply And.intro))<;>(try rfl)))))
    ·rw[yX.2 c1,JT,wo] at hh
     ((repeat'(first|(with_reducible first|refine ay.seq ?_|refine ay.block ?_|refine ay.skip ?_|refine ah.nil ?_|refine bz.nil ?_|refine bG ?_|refine dg ?_|refine gn ?_|refine ay.bE (by simp only[fk,eN];rfl) ?_)|((with_reducible refine au ?_);(with_reducible first|refine ah.step (by simp only[seval,go_sem,ag,gN,hb'];rfl) ?_|refine ah.step (by simp(disch:=omega)only[seval,go_sem,cI,ag,gN,hb'];rfl) ?_))|((with_reducible refine gD ?_);(with_reducible first|refine bz.step (by simp only[seval,go_sem,ag,gN,hb'];rfl) ?_|refine bz.step (by simp(disch:=omega)only[seval,go_sem,cI,ag,gN,hb'];rfl) ?_))|(with_reducible refine cg ?_;with_reducible refine ay.cond (by simp only[seval,go_sem,ag,gN,hb'];rfl) (cL ?_) (cL ?_))|(with_reducible refine cB ?_;intro hc;(try simp only[fG,reduceCtorEq] at hc);(try(exfalso;omega)))|(with_reducible refine br ?_;refine ay.iK mix (by kernel_rfl) (by simp only[fk,eN];rfl) ?_))))
     all_goals(try(refine kG (j+1) (by (refine bL ?_);(try simp only[seval,go_sem]);first|((repeat'(with_reducible apply And.intro))<;>first|rfl)) (by (refine bX ?_);(try simp only[seval,go_sem])) ?_ ?_<;>(try(omega))))
     all_goals(try(exact ⟨by omega,hh⟩))
   ·have:j=k:=by omega
    subst this;rw[j9 (by rw[cw];omega),List.any_nil] at hh;rw[<- hh,wo] at hg
    ((repeat'(first|(with_reducible first|refine ay.seq ?_|refine ay.exit ?_|refine ah.nil ?_|refine bG ?_|refine iN ?_|refine dg ?_|refine eT ?_|refine gn ?_|refine jU ?_|refine ay.bE (by simp only[fk,eN];rfl) ?_)|((with_reducible refine au ?_);(with_reducible first|refine ah.step (by simp only[seval,go_sem];rfl) ?_|refine ah.step (by simp(disch:=omega)only[seval,go_sem,cI];rfl) ?_))|(with_reducible refine cg ?_;with_reducible refine ay.cond (by simp only[seval,go_sem];rfl) (cL ?_) (cL ?_))|(with_reducible refine cB ?_;intro hc;(try simp only[fG,reduceCtorEq] at hc);(try(exfalso;omega))))))
    all_goals(try(refine kG (j+1) (by (refine bL ?_);(try simp only[seval,go_sem]);first|((repeat'(with_reducible apply And.intro))<;>first|rfl)) (by (refine bX ?_);(try simp only[seval,go_sem])) ?_ ?_<;>(try(omega))))
    all_goals(try(exact ⟨by omega,hg⟩))
  ·rw[j9 (by omega),rX] at hg;rw[<- hg]
   ((repeat'(first|(with_reducible first|refine ay.seq ?_|refine ay.exit ?_|refine ay.ret ?_|refine ah.nil ?_|refine bG ?_|refine iN ?_|refine eT ?_|refine jU ?_|refine ay.bE (by simp only[fk,eN];rfl) ?_)|((with_reducible refine au ?_);(with_reducible first|refine ah.step (by simp only[seval,go_sem];rfl) ?_|refine ah.step (by simp(disch:=omega)only[seval,go_sem,cI];rfl) ?_))|(with_reducible refine cg ?_;with_reducible refine ay.cond (by simp only[seval,go_sem];rfl) (cL ?_) (cL ?_))|(with_reducible refine cB ?_;intro hc;(try simp only[fG,reduceCtorEq] at hc);(try(exfalso;omega)))|(with_reducible refine aB ?_;refine aC.q rfl rfl (by simp only[seval,go_sem];rfl) (by decide) (by simp only[seval,go_sem];rfl) (by simp only[seval,go_sem];rfl) rfl ?_<;>(try simp only[seval,go_sem])<;>(repeat'(with_reducible apply And.intro))<;>(try rfl)))))
structure Cf where
 tV:Int
 qI:Int
 nu:Int
 fF:Int
 kf:Int
 com:Int
 tW:Int
 deriving DecidableEq
def UH (c:Cf):List D:=[.sc (.int .i64 c.tV), .sc (.int .i64 c.qI), .sc (.int .i64 c.nu), .sc (.int .i64 c.fF), .sc (.int .i64 c.kf), .sc (.int .i64 c.com), .sc (.int .i64 c.tW)]
structure Pg where
 num:Int
 refs:Int
 data:List Int
 deriving DecidableEq
def cF (z:Int):List D:=[.sc (.int .u8 z)]
def bt (p:Pg):List D:=[.sc (.int .i64 p.num), .sc (.int .i64 p.refs), .sl 1 (p.data.map cF)]
structure Ob where
 id:Int
 bu:List fE
 deriving DecidableEq
def aK (o:Ob):List D:=[.sc (.int .i64 o.id), .sl 4 (o.bu.map aL)]
structure Dm where
 commit:Int
 objs:List Ob
 binds:List Bd
 pins:List Pn
 pages:List Pg
def Qc (d:Dm):List D:=[.sc (.int .i64 d.commit), .sl 2 (d.objs.map aK), .sl 4 (d.binds.map ag), .sl 2 (d.pins.map aW), .sl 3 (d.pages.map bt)]
def mO (n lo hi:Int):Bool:=decide (lo<=n)&&decide (n<=hi)
def qO (c:Cf):Bool:=mO c.tV 1 64&&mO c.qI 1 64&&mO c.nu 1 16384&&mO c.fF 8 1024&&mO c.kf 1 1024&&mO c.com 1 1048576&&mO c.tW 1 64
def yV (n sz:Int):Int:=if n%sz>0 then n/sz+1 else n/sz
def Qd (c:Cf) (com:Int) (l:List Pn):Int:=if dK none l≠0 then dK none l else if l.any (fun p=>decide (com<p.commit))=true then 5 else if c.kf<iL l 0 then 14 else 0
def LQ:List Bd->Int
 | []=>0
 | b::l=>if b.to=0 then LQ l+1 else LQ l
def LR (c:Cf) (com:Int) (l:List Bd):Int:=if dh l≠0 then dh l else if jm com l=true then 5 else if c.qI<LQ l then 14 else 0
def UO (com:Int) (l:List fE):Bool:=l.any fun v=>decide (com<v.from_)||decide (com<v.to)
def XR (fF:Int) (l:List fE):Bool:=l.all fun v=>yV v.size fF==(v.pages.length:Int)
def Yv (fF com:Int) (prev:Option Int) (o:Ob):Int:=
 if o.id<1 then 5 else if prev.any (fun p=>decide (o.id<=p))=true then 19 else if (o.bu.length:Int)=0 then 18 else if eA none o.bu≠0 then eA none o.bu else
 if UO com o.bu=true then 5 else if XR fF o.bu=false then 18 else 0
def LS (fF com:Int):Option Int->List Ob->Int
 | _,[]=>0
 | prev,o::l=>if Yv fF com prev o≠0 then Yv fF com prev o else LS fF com (some o.id) l
def Yw (fF:Int) (prev:Option Int) (p:Pg):Int:=if p.num<1 then 5 else if prev.any (fun q=>decide (p.num<=q))=true then 19 else if fF<(p.data.length:Int) then 18 else 0
def Rx (fF:Int):Option Int->List Pg->Int
 | _,[]=>0
 | prev,p::l=>if Yw fF prev p≠0 then Yw fF prev p else Rx fF (some p.num) l
def LU (c:Cf) (l:List Pg):Int:=if Rx c.fF none l≠0 then Rx c.fF none l else if c.nu<(l.length:Int) then 14 else 0
def eP (n:Int):List Pg->Nat->Int
 | [],_=> -1
 | p::l,k=>if p.num=n then (k:Int) else eP n l (k+1)
def UQ (ps:List Pg) (n:Int):Option Int:=if eP n ps 0<0 then none else some ((((ps[(eP n ps 0).toNat]?).map (·.data)).getD []).length:Int)
def wr (n:Int):Int:=IntKind.i64.wrap n
def Ry (ps:List Pg) (size:Int):List Int->Int->Int
 | [],s=>if s≠size then 18 else 0
 | n::l,s=>match UQ ps n with
   | none=>8
   | some k=>Ry ps size l (wr (s+k))
def LW (ps:List Pg):List fE->Int
 | []=>0
 | v::l=>if Ry ps v.size v.pages 0≠0 then Ry ps v.size v.pages 0 else LW ps l
def LY (ps:List Pg):List Ob->Int
 | []=>0
 | o::l=>if LW ps o.bu≠0 then LW ps o.bu else LY ps l
def OB (n:Int):List Int->Int->Int
 | [],s=>s
 | x::l,s=>if x=n then OB n l (wr (s+1)) else OB n l s
def ia (l:List fE):List Int:=l.flatMap (·.pages)
def gp (l:List Ob):List Int:=l.flatMap fun o=>ia o.bu
def Rz (d:Dm):Bool:=d.pages.all fun p=>p.refs==OB p.num (gp d.objs) 0
def OC (o:Ob):Bool:=((o.bu[o.bu.length-1]?).map (·.to)).getD 0==0
def LZ (id:Int):List Bd->Int
 | []=>0
 | b::l=>if b.obj=id/\b.to=0 then LZ id l+1 else LZ id l
def cU (id:Int):List Ob->Nat->Int
 | [],_=> -1
 | o::l,k=>if o.id=id then (k:Int) else cU id l (k+1)
def RA (id:Int) (l:List Ob):List fE:=if cU id l 0<0 then [] else ((l[(cU id l 0).toNat]?).map (·.bu)).getD []
def HG (d:Dm):Bool:=d.objs.all fun o=> !OC o||LZ o.id d.binds==1
def OD (d:Dm):Bool:=d.binds.all fun b=> !(b.to==0)||(!decide (cU b.obj d.objs 0<0)&&((d.objs[(cU b.obj d.objs 0).toNat]?).map OC).getD false)
def Qe (d:Dm) (b:Bd):Bool:=d.pins.all fun p=> !eX b.eo b.to p.commit||(gf p.commit (RA b.obj d.objs) 0).2
def RB (d:Dm):Bool:=d.binds.all (Qe d)
def XS (c:Cf) (d:Dm):Int:=
 if qO c=false then 5 else if mO d.commit 0 c.com=false then 5 else if Qd c d.commit d.pins≠0 then Qd c d.commit d.pins else if LR c d.commit d.binds≠0 then LR c d.commit d.binds else
 if LS c.fF d.commit none d.objs≠0 then LS c.fF d.commit none d.objs else if LU c d.pages≠0 then LU c d.pages else if LY d.pages d.objs≠0 then LY d.pages d.objs else
 if (Rz d&&HG d&&OD d&&RB d)=true then 0 else 20
def ZM (l:List (Int×Int)):List (Value×D):=l.map fun x=>(.int .i64 x.1, .sc (.int .i64 x.2))
def Qf (n:Int):List (Int×Int)->Option Int
 | []=>none
 | x::l=>if x.1=n then some x.2 else Qf n l
def F1 (n v:Int):List (Int×Int)->List (Int×Int)
 | []=>[(n,v)]
 | x::l=>if x.1=n then (n,v)::l else x::F1 n v l
def UR (n:Int):List (Int×Int)->List (Int×Int)
 | []=>[]
 | x::l=>if x.1=n then l else x::UR n l
def US (n:Int) (l:List (Int×Int)):Int:=(Qf n l).getD 0
def bump (l:List (Int×Int)) (n:Int):List (Int×Int):=F1 n (wr (US n l+1)) l
def vO (l:List Int):Prop:=l.Pairwise (· < ·)
theorem qj {l:List Int} (h:vO l) {i j:Nat} {x y:Int} (hx:l[i]? = some x) (hy:l[j]? = some y) (hij:i<j):x<y:=by
 obtain ⟨h1,rfl⟩:=jM.1 hx;obtain ⟨h2,rfl⟩:=jM.1 hy;exact JR.1 h i j h1 h2 hij
def szM (ps:List Pg):List (Int×Int):=ps.map fun p=>(p.num,(p.data.length:Int))
theorem gb (n:Int):∀ (l:List Pg) (k:Nat),(eP n l k = -1/\∀ p∈l,p.num≠n)\/∃ j p,l[j]? = some p/\p.num=n/\eP n l k=((k+j:Nat):Int)/\∀ i q,i<j->l[i]? = some q->q.num≠n
 | [],k=> .inl ⟨rfl,by simp⟩
 | p::l,k=>by
   unfold eP;by_cases h:p.num=n
   ·exact .inr ⟨0,p,rfl,h,by rw[bC h];simp,by omega⟩
   ·rw[aE h];rcases gb n l (k+1) with ⟨h1,pJ⟩|⟨j,u,h1,h2,h3,h4⟩
    ·exact .inl ⟨h1,fun q hq=>by rcases lp.1 hq with rfl|hq;exact h;exact pJ q hq⟩
    ·refine .inr ⟨j+1,u,by simpa using h1,h2,by rw[h3];congr 1;omega,fun i q hi hq=>?_⟩;cases i with
     | zero=>simp only[dJ,fD] at hq;subst hq;exact h
     | succ i=>exact h4 i q (by omega) (by simpa using hq)
def ZN (left:Int):List Pn->Bool
 | []=>false
 | p::l=>decide (left<p.count)||ZN (left-p.count) l
def UT:List Ob->List (Int×Int)->Bool
 | [],l=>decide ((l.length:Int)=0)
 | o::os,l=>if OC o=true then (if US o.id l=1 then UT os (UR o.id l) else false) else UT os l
def opens (l:List Bd):List Int:=(l.filter fun b=>b.to==0).map (·.obj)
def KN (l:List (Int×Int)):Prop:=(l.map (·.1)).Nodup
theorem AO (n v:Int):∀ l,((F1 n v l).map (·.1))=if n∈l.map (·.1) then l.map (·.1) else l.map (·.1)++[n]
 | []=>by simp[F1]
 | x::l=>by
   have ih:=AO n v l;by_cases h:x.1=n
   ·rw[F1,bC h];simp[h]
   ·rw[F1,aE h,fk,ih];by_cases h2:n∈l.map (·.1)
    ·rw[bC h2,bC (by simp only[fk,lp];exact .inr h2)];rfl
    ·rw[aE h2,aE (by simp only[fk,lp,vQ];exact ⟨sF h,h2⟩)];rfl
theorem KN.set {n v:Int} {l:List (Int×Int)} (h:KN l):KN (F1 n v l):=by
 unfold KN;rw[AO]
 split
 ·exact h
 ·rename_i hn;rw[List.nodup_append];exact ⟨h,by simp,fun a ha b hb=>by rw[rG] at hb;subst hb;exact fun e=>hn (e▸ha)⟩
theorem jH (n:Int):∀ (l:List Ob) (k:Nat),(cU n l k = -1/\∀ p∈l,p.id≠n)\/∃ j p,l[j]? = some p/\p.id=n/\cU n l k=((k+j:Nat):Int)/\∀ i q,i<j->l[i]? = some q->q.id≠n
 | [],k=> .inl ⟨rfl,by simp⟩
 | p::l,k=>by
   unfold cU;by_cases h:p.id=n
   ·exact .inr ⟨0,p,rfl,h,by rw[bC h];simp,by omega⟩
   ·rw[aE h];rcases jH n l (k+1) with ⟨h1,pJ⟩|⟨j,u,h1,h2,h3,h4⟩
    ·exact .inl ⟨h1,fun q hq=>by rcases lp.1 hq with rfl|hq;exact h;exact pJ q hq⟩
    ·refine .inr ⟨j+1,u,by simpa using h1,h2,by rw[h3];congr 1;omega,fun i q hi hq=>?_⟩;cases i with
     | zero=>simp only[dJ,fD] at hq;subst hq;exact h
     | succ i=>exact h4 i q (by omega) (by simpa using hq)
theorem OA {l:List Ob} (h:vO (l.map (·.id))) {i j:Nat} {x y:Ob} (hx:l[i]? = some x) (hy:l[j]? = some y) (e:x.id=y.id):i=j:=by
 rcases SF i j with hlt|rfl|hlt
 ·have:=qj h (x:=x.id) (y:=y.id) (by rw[wR,hx];rfl) (by rw[wR,hy];rfl) hlt;omega
 ·rfl
 ·have:=qj h (x:=y.id) (y:=x.id) (by rw[wR,hy];rfl) (by rw[wR,hx];rfl) hlt;omega
def obM (os:List Ob):List (Value×D):=os.map fun o=>(.int .i64 o.id, .sl 4 (o.bu.map aL))
end Go.Proofs.YteemiclhnfkekaaGreat
