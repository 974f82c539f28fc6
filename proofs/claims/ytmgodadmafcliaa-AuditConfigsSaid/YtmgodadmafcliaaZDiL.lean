/- Directory: the walk of List of the reference. -/
import Derived.Test.YtmgodadmafcliaaZDiG
import Derived.Test.YtmgodadmafcliaaZSrC
set_option linter.unusedSimpArgs false
set_option linter.unusedVariables false
namespace Go.Proofs.Ytmgodadmafcliaa
open Go.RowKit Go.Avm
theorem insN_len (n:ByteArray): ∀ l:List ByteArray,(insN n l).length≤l.length+1
 | []=>Nat.le_refl _
 | y::l=>by
   have:=insN_len n l
   unfold insN
   split
   ·simp only [List.length_cons];omega
   ·split<;>simp only [List.length_cons]<;>omega
set_option maxRecDepth 100000 in set_option maxHeartbeats 6400000 in
theorem rlist_calls {l:List Bd} {c:Int} (hl:l.length≤100000):ACalls Try.prog 105 [.sl 4 (l.map rowBd), .sc (.int .i64 c)] (.sl 1 ((listR c l []).map rowN)) []:=by
 refine of_tri [] [25,64,70,71,75] Try.func105 rfl call105 rfl (by decide) (by decide) rfl rfl Try.ntmps105 (by simp (disch:=omega) only [seval,go_sem,cnd,intV,shV,convV,strV,List.replicate,l_2,l_1];rfl) (by simp (disch:=omega) only [seval,go_sem,cnd,intV,shV,convV,strV,l_2,l_1];rfl) ?_
 ((repeat' (first|(with_reducible (first|refine Tri.seq ?_|refine Tri.block ?_|refine TriD.nil ?_|refine thenQ_n ?_|refine Tri.regionD (by simp only [l_3,l_4];rfl) ?_))|((with_reducible refine isTriD ?_);(with_reducible refine TriD.step (by simp only [seval,go_sem];rfl) ?_))))<;>(try (fail)))
 (with_reducible refine Tri.loopV (fun (t:Nat×List ByteArray)=>[(6,.sc (.int .i64 t.1)),(5,.sl 1 (t.2.map rowN)),(7,.any),(8,.any),(9,.any),(10,.any),(11,.any),(12,.any),(13,.any),(14,.any),(15,.any),(16,.any),(17,.any),(18,.any),(19,.any),(20,.any),(21,.any),(22,.any),(23,.any),(24,.any),(25,.any),(26,.any),(27,.any),(28,.any),(29,.any),(30,.any),(31,.any),(32,.any),(33,.any),(34,.any),(35,.any),(36,.any),(37,.any),(38,.any),(39,.any),(40,.any),(41,.any),(42,.any),(43,.any),(44,.any),(45,.any),(46,.any),(47,.any),(48,.any),(49,.any),(50,.any),(51,.any),(52,.any),(53,.any),(54,.any),(55,.any),(56,.any),(57,.any),(58,.any),(59,.any),(60,.any),(61,.any),(62,.any),(63,.any),(64,.any),(65,.any),(66,.any),(67,.any),(68,.any),(69,.any),(70,.any),(71,.any),(72,.any),(73,.any),(74,.any),(75,.any)]) (fun (t:Nat×List ByteArray)=>[(25,.dead),(64,.dead),(70,.dead),(71,.dead),(75,.dead)]) (fun (t:Nat×List ByteArray)=>t.1≤l.length∧t.2.length≤t.1∧listR c (l.drop t.1) t.2=listR c l []) (fun (t:Nat×List ByteArray)=>l.length-t.1) ((0,[])) (⟨Nat.zero_le _,by simp,rfl⟩) (by intro _;simp (disch:=omega) only [seval,go_sem,cnd,intV,shV,convV,strV];rfl) (by intro _;simp (disch:=omega) only [seval,go_sem,cnd,intV,shV,convV,strV];rfl) (by (refine leQL_spec ?_);(try simp only [seval,go_sem]);done) (by (refine leQH_spec ?_);(try simp only [seval,go_sem]);done) (fun t hI=>?_))
 obtain ⟨i,ns⟩:=t
 obtain ⟨hk,hnl,hf⟩:=hI
 simp only at hk hnl hf
 by_cases hlt:i<l.length
 ·obtain ⟨b,hb⟩:=get_lt hlt
  have hb':=get_map rowBd hb
  rw [drop_get hb,listR] at hf
  cases hh:holdsB b.frm b.to c with
  | false=>
    rw [if_neg (by simp [hh])] at hf
    (all_goals (try have hZ:=(And.intro hb' hh));(repeat' (first|(with_reducible (first|refine Tri.seq ?_|refine Tri.block ?_|refine Tri.skip ?_|refine Tri.exit ?_|refine TriD.nil ?_|refine ListD.nil ?_|refine thenQ_n ?_|refine thenQ_e ?_|refine inBlockQ_e ?_|refine loopQ_n ?_|refine Tri.regionD (by simp only [l_3,l_4];rfl) ?_))|((with_reducible refine isTriD ?_);(with_reducible first|refine TriD.step (by simp only [seval,go_sem,rowBd,hZ];rfl) ?_|refine TriD.step (by simp (disch:=omega) only [seval,go_sem,cnd,intV,shV,convV,strV,rowBd,hZ];rfl) ?_))|((with_reducible refine isListD ?_);first|(with_reducible refine ListD.step (by simp only [seval,go_sem,rowBd,hZ];rfl) ?_)|((with_reducible refine isCallV ?_);((with_reducible (refine ListD.dE (by simp only [seval,go_sem,rowBd,hZ];rfl) (by simp only [seval,go_sem,rowBd,hZ];rfl) ?_));refine CallW.c (rholds_calls) (by simp only [seval,go_sem,rowBd,hZ];rfl) ?_))|(with_reducible refine ListD.step (by simp (disch:=omega) only [seval,go_sem,cnd,intV,shV,convV,strV,rowBd,hZ];rfl) ?_))|(with_reducible refine isCond ?_;with_reducible refine Tri.cond (by simp only [seval,go_sem,rowBd,hZ];rfl) (cvI ?_) (cvI ?_))|(with_reducible refine isCv ?_;intro hc;(try simp only [bls,reduceCtorEq] at hc);(try (exfalso;omega)))|(with_reducible refine isDrawn ?_;refine Tri.drawnD mix (by kernel_rfl) (by simp only [l_3,l_4];rfl) ?_)))<;>(try (fail));all_goals (try clear hZ))
    all_goals (try ((refine isNextV ((i+1,ns)) (Imp.les (by (refine leQL_spec ?_);(try simp only [seval,go_sem]);first|((repeat' (with_reducible apply And.intro))<;>first|rfl);done) (by (refine leQH_spec ?_);(try simp only [seval,go_sem]);done)) ?_ ?_)<;>(try (omega))))
    all_goals (try (exact ⟨by simp only;omega,by simp only;omega,hf⟩))
  | true=>
    rw [if_pos hh] at hf
    (all_goals (try have hZ:=(And.intro hb' hh));(repeat' (first|(with_reducible (first|refine Tri.seq ?_|refine Tri.block ?_|refine Tri.skip ?_|refine TriD.nil ?_|refine ListD.nil ?_|refine thenQ_n ?_|refine Tri.regionD (by simp only [l_3,l_4];rfl) ?_))|((with_reducible refine isTriD ?_);(with_reducible first|refine TriD.step (by simp only [seval,go_sem,rowBd,hZ];rfl) ?_|refine TriD.step (by simp (disch:=omega) only [seval,go_sem,cnd,intV,shV,convV,strV,rowBd,hZ];rfl) ?_))|((with_reducible refine isListD ?_);first|(with_reducible refine ListD.step (by simp only [seval,go_sem,rowBd,hZ];rfl) ?_)|((with_reducible refine isCallV ?_);((with_reducible (refine ListD.dE (by simp only [seval,go_sem,rowBd,hZ];rfl) (by simp only [seval,go_sem,rowBd,hZ];rfl) ?_));refine CallW.c (rholds_calls) (by simp only [seval,go_sem,rowBd,hZ];rfl) ?_))|(with_reducible refine ListD.step (by simp (disch:=omega) only [seval,go_sem,cnd,intV,shV,convV,strV,rowBd,hZ];rfl) ?_))|(with_reducible refine isCond ?_;with_reducible refine Tri.cond (by simp only [seval,go_sem,rowBd,hZ];rfl) (cvI ?_) (cvI ?_))|(with_reducible refine isCv ?_;intro hc;(try simp only [bls,reduceCtorEq] at hc);(try (exfalso;omega)))|(with_reducible refine isDrawn ?_;refine Tri.drawnD mix (by kernel_rfl) (by simp only [l_3,l_4];rfl) ?_)))<;>(try (fail));all_goals (try clear hZ))
    (with_reducible refine Tri.loopU (fun (j:Nat)=>[(7,.sc (.int .i64 j)),(27,.any),(28,.any),(29,.any),(30,.any),(31,.any),(32,.any),(33,.any),(34,.any),(35,.any),(36,.any),(37,.any),(38,.any),(39,.any),(40,.any),(41,.any),(42,.any),(43,.any),(44,.any)]) (fun (j:Nat)=>[]) (fun (j:Nat)=>j≤ns.length∧insN b.name ns=ns.take j++insN b.name (ns.drop j)) (fun (j:Nat)=>ns.length-j) (0) (⟨Nat.zero_le _,rfl⟩) (by intro _;simp (disch:=omega) only [seval,go_sem,cnd,intV,shV,convV,strV];rfl) (by intro _;simp (disch:=omega) only [seval,go_sem,cnd,intV,shV,convV,strV];rfl) (by (refine leQL_spec ?_);(try simp only [seval,go_sem]);done) (by (refine leQH_spec ?_);(try simp only [seval,go_sem]);done) (fun j hI=>?_))
    obtain ⟨hj,hg⟩:=hI
    have htl:((ns.map rowN).take j).length=j:=by rw [List.length_take,List.length_map];omega
    have hdl:((ns.map rowN).drop j).length=ns.length-j:=by rw [List.length_drop,List.length_map]
    have h71:(((ns.map rowN).take j)++[[D.sc (.string b.name)]]).length=j+1:=by rw [List.length_append,htl];rfl
    have hE:(((ns.map rowN).take j)++[[D.sc (.string b.name)]]++(ns.map rowN).drop j)=(ns.take j++b.name::ns.drop j).map rowN:=by simp [rowN]
    have h75:((ns.take j++b.name::ns.drop j).map rowN).length=ns.length+1:=by rw [← hE,List.length_append,h71,hdl];omega
    have htk:((ns.take j++b.name::ns.drop j).map rowN).take (ns.length+1)=(ns.take j++b.name::ns.drop j).map rowN:=List.take_of_length_le (by rw [h75];exact Nat.le_refl _)
    by_cases hjl:j<ns.length
    ·obtain ⟨y,hy⟩:=get_lt hjl
     have hy':=get_map rowN hy
     rw [drop_get hy,insN,ltN,eqN] at hg
     cases c1:Op.bytesLess y.toList b.name.toList with
     | true=>
       rw [c1,if_pos rfl] at hg
       (all_goals (try have hZ:=(And.intro hb' hy'));(repeat' (first|(with_reducible (first|refine Tri.seq ?_|refine Tri.block ?_|refine Tri.skip ?_|refine TriD.nil ?_|refine ListD.nil ?_|refine thenQ_n ?_|refine inBlockQ_n ?_|refine loopQ_n ?_|refine Tri.regionD (by simp only [l_3,l_4];rfl) ?_))|((with_reducible refine isTriD ?_);(with_reducible first|refine TriD.step (by simp only [seval,go_sem,rowBd,rowN,c1,hZ];rfl) ?_|refine TriD.step (by simp (disch:=omega) only [seval,go_sem,cnd,intV,shV,convV,strV,rowBd,rowN,c1,hZ];rfl) ?_))|((with_reducible refine isListD ?_);(with_reducible first|refine ListD.step (by simp only [seval,go_sem,rowBd,rowN,c1,hZ];rfl) ?_|refine ListD.step (by simp (disch:=omega) only [seval,go_sem,cnd,intV,shV,convV,strV,rowBd,rowN,c1,hZ];rfl) ?_))|(with_reducible refine isCond ?_;with_reducible refine Tri.cond (by simp only [seval,go_sem,rowBd,rowN,c1,hZ];rfl) (cvI ?_) (cvI ?_))|(with_reducible refine isCv ?_;intro hc;(try simp only [bls,reduceCtorEq] at hc);(try (exfalso;omega)))|(with_reducible refine isDrawn ?_;refine Tri.drawnD mix (by kernel_rfl) (by simp only [l_3,l_4];rfl) ?_)))<;>(try (fail));all_goals (try clear hZ))
       all_goals (try (refine isNext (j+1) (by (refine leQL_spec ?_);(try simp only [seval,go_sem]);first|((repeat' (with_reducible apply And.intro))<;>first|rfl);done) (by (refine leQH_spec ?_);(try simp only [seval,go_sem]);done) ?_ ?_<;>(try (omega))))
       all_goals (try (exact ⟨by omega,by rw [hg,List.take_add_one,hy];simp⟩))
     | false=>
       rw [c1,if_neg (by decide)] at hg
       cases c2:(y.toList==b.name.toList) with
       | true=>
         rw [c2,if_pos rfl, ← drop_get hy,List.take_append_drop] at hg
         rw [hg] at hf
         (all_goals (try have hZ:=(And.intro hb' hy'));(repeat' (first|(with_reducible (first|refine Tri.seq ?_|refine Tri.exit ?_|refine TriD.nil ?_|refine ListD.nil ?_|refine thenQ_n ?_|refine thenQ_e ?_|refine inBlockQ_e ?_|refine loopQ_n ?_|refine loopQ_e ?_|refine Tri.regionD (by simp only [l_3,l_4];rfl) ?_))|((with_reducible refine isTriD ?_);(with_reducible first|refine TriD.step (by simp only [seval,go_sem,rowBd,rowN,c1,c2,hZ];rfl) ?_|refine TriD.step (by simp (disch:=omega) only [seval,go_sem,cnd,intV,shV,convV,strV,rowBd,rowN,c1,c2,hZ];rfl) ?_))|((with_reducible refine isListD ?_);(with_reducible first|refine ListD.step (by simp only [seval,go_sem,rowBd,rowN,c1,c2,hZ];rfl) ?_|refine ListD.step (by simp (disch:=omega) only [seval,go_sem,cnd,intV,shV,convV,strV,rowBd,rowN,c1,c2,hZ];rfl) ?_))|(with_reducible refine isCond ?_;with_reducible refine Tri.cond (by simp only [seval,go_sem,rowBd,rowN,c1,c2,hZ];rfl) (cvI ?_) (cvI ?_))|(with_reducible refine isCv ?_;intro hc;(try simp only [bls,reduceCtorEq] at hc);(try (exfalso;omega)))|(with_reducible refine isDrawn ?_;refine Tri.drawnD mix (by kernel_rfl) (by simp only [l_3,l_4];rfl) ?_)))<;>(try (fail));all_goals (try clear hZ))
         all_goals (try ((refine isNextV ((i+1,ns)) (Imp.les (by (refine leQL_spec ?_);(try simp only [seval,go_sem]);first|((repeat' (with_reducible apply And.intro))<;>first|rfl);done) (by (refine leQH_spec ?_);(try simp only [seval,go_sem]);done)) ?_ ?_)<;>(try (omega))))
         all_goals (try (exact ⟨by simp only;omega,by simp only;omega,hf⟩))
       | false=>
         rw [c2,if_neg (by decide), ← drop_get hy] at hg
         rw [hg] at hf
         (all_goals (try have hZ:=(And.intro hb' (And.intro hy' (And.intro htl (And.intro hdl (And.intro h71 (And.intro hE h75)))))));(repeat' (first|(with_reducible (first|refine Tri.seq ?_|refine Tri.skip ?_|refine Tri.exit ?_|refine TriD.nilP ?_|refine TriD.nil ?_|refine ListD.nil ?_|refine thenQ_n ?_|refine thenQ_e ?_|refine inBlockQ_n ?_|refine inBlockQ_e ?_|refine loopQ_n ?_|refine loopQ_e ?_|refine Tri.regionD (by simp only [l_3,l_4];rfl) ?_))|((with_reducible refine isTriD ?_);(with_reducible first|refine TriD.step (by simp only [seval,go_sem,rowBd,rowN,c1,c2,hZ];rfl) ?_|refine TriD.step (by simp (disch:=omega) only [seval,go_sem,cnd,intV,shV,convV,strV,rowBd,rowN,c1,c2,hZ];rfl) ?_))|((with_reducible refine isListD ?_);(with_reducible first|refine ListD.step (by simp only [seval,go_sem,rowBd,rowN,c1,c2,hZ];rfl) ?_|refine ListD.step (by simp (disch:=omega) only [seval,go_sem,cnd,intV,shV,convV,strV,rowBd,rowN,c1,c2,hZ];rfl) ?_))|(with_reducible refine isCond ?_;with_reducible refine Tri.cond (by simp only [seval,go_sem,rowBd,rowN,c1,c2,hZ];rfl) (cvI ?_) (cvI ?_))|(with_reducible refine isCv ?_;intro hc;(try simp only [bls,reduceCtorEq] at hc);(try (exfalso;omega)))|(with_reducible refine isDrawnN 10 ?_;refine Tri.mixedP 10 mix 16 rfl (.f 0 <| .f 1 <| .f 2 <| .f 4 <| .f 5 <| .f 6 <| .f 7 <| .f 11 <| .f 12 <| .f 13 <| .r 8 <| .a <| .b 3 (.a <| .b 9 (.a <| .b 10 (.a <| .b 14 (.f 15 <| .d) .e) .e) .e) <| .b 9 (.a <| .b 3 (.a <| .b 10 (.a <| .b 14 (.f 15 <| .d) .e) .e) .e) .e) (by kernel_rfl) ?_)|(with_reducible refine isAnyP ?_;first|refine AnyP.D ?_|refine AnyP.F (by simp only [seval,go_sem,l_7,l_6];rfl) (by first|(simp only [seval,go_sem,rowBd,rowN,c1,c2,hZ];done)) (by first|(simp only [seval,go_sem,rowBd,rowN,c1,c2,hZ];with_reducible rfl)|(simp (disch:=omega) only [seval,go_sem,cnd,intV,shV,convV,strV,rowBd,rowN,c1,c2,hZ];with_reducible rfl)) ?_|refine AnyP.R (by simp only [seval,go_sem,l_7,l_6];rfl) (by first|(refine .inl ?_;simp only [seval,go_sem,rowBd,rowN,c1,c2,hZ];done)) (by first|(simp only [seval,go_sem,rowBd,rowN,c1,c2,hZ];with_reducible rfl)) ?_|refine AnyP.A ?_)|(first|exact NextsP.E|refine NextsP.B (by simp only [seval,go_sem,l_7,l_6];rfl) ?_ ?_)|(with_reducible refine isDrawn ?_;refine Tri.drawnD mix (by kernel_rfl) (by simp only [l_3,l_4];rfl) ?_)))<;>(try (fail));all_goals (try clear hZ))
         all_goals (try ((refine isNextV ((i+1,ns.take j++b.name::ns.drop j)) (Imp.frzTo 75 (by simp only [seval,go_sem];rfl) (by simp only [seval,go_sem,h75,htk];rfl) (Imp.les (by (refine leQL_spec ?_);(try simp only [seval,go_sem,h75,htk]);first|((repeat' (with_reducible apply And.intro))<;>first|rfl);done) (by (refine leQH_spec ?_);(try simp only [seval,go_sem,h75,htk]);done))) ?_ ?_)<;>(try (omega))))
         all_goals (try (exact ⟨by simp only;omega,by simp only [List.length_append,List.length_take,List.length_cons,List.length_drop];omega,hf⟩))
    ·have hd:ns.drop j=[]:=List.drop_eq_nil_of_le (by omega)
     have ht:ns.take j=ns:=List.take_of_length_le (by omega)
     rw [hd,ht,insN] at hg
     rw [hg] at hf
     have e:j=ns.length:=by omega
     (all_goals (try have hZ:=(And.intro hb' (And.intro htl (And.intro hdl (And.intro h71 (And.intro hE h75))))));(repeat' (first|(with_reducible (first|refine Tri.seq ?_|refine Tri.skip ?_|refine Tri.exit ?_|refine TriD.nilP ?_|refine TriD.nil ?_|refine ListD.nil ?_|refine thenQ_n ?_|refine thenQ_e ?_|refine inBlockQ_n ?_|refine inBlockQ_e ?_|refine loopQ_n ?_|refine loopQ_e ?_|refine Tri.regionD (by simp only [l_3,l_4];rfl) ?_))|((with_reducible refine isTriD ?_);(with_reducible first|refine TriD.step (by simp only [seval,go_sem,rowBd,hZ];rfl) ?_|refine TriD.step (by simp (disch:=omega) only [seval,go_sem,cnd,intV,shV,convV,strV,rowBd,hZ];rfl) ?_))|((with_reducible refine isListD ?_);(with_reducible first|refine ListD.step (by simp only [seval,go_sem,rowBd,hZ];rfl) ?_|refine ListD.step (by simp (disch:=omega) only [seval,go_sem,cnd,intV,shV,convV,strV,rowBd,hZ];rfl) ?_))|(with_reducible refine isCond ?_;with_reducible refine Tri.cond (by simp only [seval,go_sem,rowBd,hZ];rfl) (cvI ?_) (cvI ?_))|(with_reducible refine isCv ?_;intro hc;(try simp only [bls,reduceCtorEq] at hc);(try (exfalso;omega)))|(with_reducible refine isDrawnN 10 ?_;refine Tri.mixedP 10 mix 16 rfl (.f 0 <| .f 1 <| .f 2 <| .f 4 <| .f 5 <| .f 6 <| .f 7 <| .f 11 <| .f 12 <| .f 13 <| .r 8 <| .a <| .b 3 (.a <| .b 9 (.a <| .b 10 (.a <| .b 14 (.f 15 <| .d) .e) .e) .e) <| .b 9 (.a <| .b 3 (.a <| .b 10 (.a <| .b 14 (.f 15 <| .d) .e) .e) .e) .e) (by kernel_rfl) ?_)|(with_reducible refine isAnyP ?_;first|refine AnyP.D ?_|refine AnyP.F (by simp only [seval,go_sem,l_7,l_6];rfl) (by first|(simp only [seval,go_sem,rowBd,hZ];done)) (by first|(simp only [seval,go_sem,rowBd,hZ];with_reducible rfl)|(simp (disch:=omega) only [seval,go_sem,cnd,intV,shV,convV,strV,rowBd,hZ];with_reducible rfl)) ?_|refine AnyP.R (by simp only [seval,go_sem,l_7,l_6];rfl) (by first|(refine .inl ?_;simp only [seval,go_sem,rowBd,hZ];done)) (by first|(simp only [seval,go_sem,rowBd,hZ];with_reducible rfl)) ?_|refine AnyP.A ?_)|(first|exact NextsP.E|refine NextsP.B (by simp only [seval,go_sem,l_7,l_6];rfl) ?_ ?_)|(with_reducible refine isDrawn ?_;refine Tri.drawnD mix (by kernel_rfl) (by simp only [l_3,l_4];rfl) ?_)))<;>(try (fail));all_goals (try clear hZ))
     all_goals (try ((refine isNextV ((i+1,ns.take j++b.name::ns.drop j)) (Imp.frzTo 75 (by simp only [seval,go_sem];rfl) (by simp only [seval,go_sem,h75,htk];rfl) (Imp.les (by (refine leQL_spec ?_);(try simp only [seval,go_sem,h75,htk]);first|((repeat' (with_reducible apply And.intro))<;>first|rfl);done) (by (refine leQH_spec ?_);(try simp only [seval,go_sem,h75,htk]);done))) ?_ ?_)<;>(try (omega))))
     all_goals (try (exact ⟨by simp only;omega,by simp only [List.length_append,List.length_take,List.length_cons,List.length_drop];omega,by rw [hd,ht];exact hf⟩))
 ·rw [List.drop_eq_nil_of_le (by omega),listR] at hf
  rw [← hf]
  ((repeat' (first|(with_reducible (first|refine Tri.seq ?_|refine Tri.exit ?_|refine Tri.ret ?_|refine TriD.nil ?_|refine thenQ_n ?_|refine thenQ_e ?_|refine inBlockQ_e ?_|refine loopQ_e ?_|refine Tri.regionD (by simp only [l_3,l_4];rfl) ?_))|((with_reducible refine isTriD ?_);(with_reducible first|refine TriD.step (by simp only [seval,go_sem];rfl) ?_|refine TriD.step (by simp (disch:=omega) only [seval,go_sem,cnd,intV,shV,convV,strV];rfl) ?_))|(with_reducible refine isCond ?_;with_reducible refine Tri.cond (by simp only [seval,go_sem];rfl) (cvI ?_) (cvI ?_))|(with_reducible refine isCv ?_;intro hc;(try simp only [bls,reduceCtorEq] at hc);(try (exfalso;omega)))|(with_reducible refine isRet ?_;refine RetOK.q rfl rfl (by simp only [seval,go_sem];rfl) (by decide) (by simp only [seval,go_sem];rfl) (by simp only [seval,go_sem];rfl) rfl ?_<;>(try simp only [seval,go_sem])<;>(repeat' (with_reducible apply And.intro))<;>(try rfl))))<;>(try (fail)))
end Go.Proofs.Ytmgodadmafcliaa
/- The reference's store: lengths (plain). -/
set_option linter.unusedSimpArgs false
set_option linter.unusedVariables false
namespace Go.Proofs.Ytmgodadmafcliaa
open Go.RowKit Go.Avm
theorem chunks_len (sz:Nat): ∀ (k:Nat) (l:List Int),(chunks sz k l).length≤k
 | 0,_=>Nat.le_refl _
 | k+1,l=>by
   rw [chunks]
   split
   ·exact Nat.zero_le _
   ·have:=chunks_len sz k (l.drop sz);simp only [List.length_cons];omega
theorem chunks_mem (sz:Nat): ∀ (k:Nat) (l:List Int), ∀ x∈chunks sz k l,x.length≤sz∧ ∀ z∈x,z∈l
 | 0,_=>fun x hx=>by simp [chunks] at hx
 | k+1,l=>fun x hx=>by
   rw [chunks] at hx
   split at hx
   ·simp at hx
   ·rcases List.mem_cons.1 hx with rfl|h
    ·exact ⟨by rw [List.length_take];omega,fun z hz=>List.mem_of_mem_take hz⟩
    ·have:=chunks_mem sz k (l.drop sz) x h
     exact ⟨this.1,fun z hz=>List.mem_of_mem_drop (this.2 z hz)⟩
theorem splitR_len {d:List Int} {sz:Int}:(splitR d sz).1.length≤d.length:=by
 unfold splitR;split
 ·exact Nat.zero_le _
 ·exact chunks_len _ _ _
theorem splitR_mem {d:List Int} {sz:Int}: ∀ x∈(splitR d sz).1,x.length≤1024∧ ∀ z∈x,z∈d:=by
 unfold splitR;split
 ·intro x hx;simp at hx
 ·intro x hx
  have:=chunks_mem _ _ _ x hx
  exact ⟨by have:=this.1;omega,this.2⟩
theorem allocR_len (a:Ar) (d:List Int):(allocR a d).1.pages.length≤a.pages.length+1:=by
 unfold allocR;split
 ·exact Nat.le_succ _
 ·split
  ·exact Nat.le_succ _
  ·exact Nat.le_of_eq (insAt_len (stopAt_le _ _))
theorem listR_len (c:Int): ∀ (l:List Bd) (a:List ByteArray),(listR c l a).length≤a.length+l.length
 | [],_=>Nat.le_refl _
 | b::l,a=>by
   rw [listR]
   split
   ·have h1:=listR_len c l (insN b.name a)
    have h2:=insN_len b.name a
    simp only [List.length_cons];omega
   ·have h1:=listR_len c l a
    simp only [List.length_cons];omega
end Go.Proofs.Ytmgodadmafcliaa
