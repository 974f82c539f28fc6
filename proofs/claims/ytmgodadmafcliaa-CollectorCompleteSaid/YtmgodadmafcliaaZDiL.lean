/- Directory: the walk of List of the reference. -/
import Derived.Test.YtmgodadmafcliaaZDiG
import Derived.Test.YtmgodadmafcliaaZSrC
set_option linter.unusedSimpArgs false
set_option linter.unusedVariables false
namespace Go.Proofs.Ytmgodadmafcliaa
open Go.RowKit Go.Avm
theorem insN_len (n:ByteArray): ∀ l:List ByteArray,(insN n l).length≤l.length+1
 | []=>Nat.le_refl _
 | y::l=>by
   have:=insN_len n l
   unfold insN
   split
   ·simp only [List.length_cons];omega
   ·split<;>simp only [List.length_cons]<;>omega
set_option maxRecDepth 100000 in set_option maxHeartbeats 6400000 in
theorem rlist_calls {l:List Bd} {c:Int} (hl:l.length≤100000):ACalls Try.prog 105 [.sl 4 (l.map rowBd), .sc (.int .i64 c)] (.sl 1 ((listR c l []).map rowN)) []:=by
 refine of_tri [] [25,64,70,71,75] Try.func105 rfl call105 rfl (by decide) (by decide) rfl rfl Try.ntmps105 (by simp (disch:=omega) only [seval,go_sem,cnd,intV,shV,convV,strV,List.replicate,l_2,l_1];rfl) (by simp (disch:=omega) only [seval,go_sem,cnd,intV,shV,convV,strV,l_2,l_1];rfl) ?_
 ((repeat' (first|(with_reducible (first|refine Tri.seq ?_|refine Tri.block ?_|refine TriD.nil ?_|refine thenQ_n ?_|refine Tri.regionD (by simp only [l_3,l_4];rfl) ?_))|((with_reducible refine isTriD ?_);(with_reducible refine TriD.step (by simp only [seval,go_sem];rfl) ?_))))<;>(try (fail)))
 (with_reducible refine Tri.loopV (fun (t:Nat×List ByteArray)=>[(6,.sc (.int .i64 t.1)),(5,.sl 1 (t.2.map rowN)),(7,.any),(8,.any),(9,.any),(10,.any),(11,.any),(12,.any),(13,.any),(14,.any),(15,.any),(16,.any),(17,.any),(18,.any),(19,.any),(20,.any),(21,.any),(22,.any),(23,.any),(24,.any),(25,.any),(26,.any),(27,.any),(28,.any),(29,.any),(30,.any),(31,.any),(32,.any),(33,.any),(34,.any),(35,.any),(36,.any),(37,.any),(38,.any),(39,.any),(40,.any),(41,.any),(42,.any),(43,.any),(44,.any),(45,.any),(46,.any),(47,.any),(48,.any),(49,.any),(50,.any),(51,.any),(52,.any),(53,.any),(54,.any),(55,.any),(56,.any),(57,.any),(58,.any),(59,.any),(60,.any),(61,.any),(62,.any),(63,.any),(64,.any),(65,.any),(66,.any),(67,.any),(68,.any),(69,.any),(70,.any),(71,.any),(72,.any),(73,.any),(74,.any),(75,.any)]) (fun (t:Nat×List ByteArray)=>[(25,.dead),(64,.dead),(70,.dead),(71,.dead),(75,.dead)]) (fun (t:Nat×List ByteArray)=>t.1≤l.length∧t.2.length≤t.1∧listR c (l.drop t.1) t.2=listR c l []) (fun (t:Nat×List ByteArray)=>l.length-t.1) ((0,[])) (⟨Nat.zero_le _,by simp,rfl⟩) (by intro _;simp (disch:=omega) only [seval,go_sem,cnd,intV,shV,convV,strV];rfl) (by intro _;simp (disch:=omega) only [seval,go_sem,cnd,intV,shV,convV,strV];rfl) (by (refine leQL_spec ?_);(try simp only [seval,go_sem]);done) (by (refine leQH_spec ?_);(try simp only [seval,go_sem]);done) (fun t hI=>?_))
 obtain ⟨i,ns⟩:=t
 obtain ⟨hk,hnl,hf⟩:=hI
 simp only at hk hnl hf
 by_cases hlt:i<l.length
 ·obtain ⟨b,hb⟩:=get_lt hlt
  have hb':=get_map rowBd hb
  rw [drop_get hb,listR] at hf
  cases hh:holdsB b.frm b.to c with
  | false=>
    rw [if_neg (by simp [hh])] at hf
    (all_goals (try have hZ:=(And.intro hb' hh));(repeat' (first|(with_reducible (first|refine Tri.seq ?_|refine Tri.block ?_|refine Tri.skip ?_|refine Tri.exit ?_|refine TriD.nil ?_|refine ListD.nil ?_|refine thenQ_n ?_|refine thenQ_e ?_|refine inBlockQ_e ?_|refine loopQ_n ?_|refine Tri.regionD (by simp only [l_3,l_4];rfl) ?_))|((with_reducible refine isTriD ?_);(with_reducible first|refine TriD.step (by simp only [seval,go_sem,rowBd,hZ];rfl) ?_|refine TriD.step (by simp (disch:=omega) only [seval,go_sem,cnd,intV,shV,convV,strV,rowBd,hZ];rfl) ?_))|((with_reducible refine isListD ?_);first|(with_reducible refine ListD.step (by simp only [seval,go_sem,rowBd,hZ];rfl) ?_)|((with_reducible refine isCallV ?_);((with_reducible (refine ListD.dE (by simp only [seval,go_sem,rowBd,hZ];rfl) (by simp only [seval,go_sem,rowBd,hZ];rfl) ?_));refine CallW.c (rholds_calls) (by simp only [seval,go_sem,rowBd,hZ];rfl) ?_))|(with_reducible refine ListD.step (by simp (disch:=omega) only [seval,go_sem,cnd,intV,shV,convV,strV,rowBd,hZ];rfl) ?_))|(with_reducible refine isCond ?_;with_reducible refine Tri.cond (by simp only [seval,go_sem,rowBd,hZ];rfl) (cvI ?_) (cvI ?_))|(with_reducible refine isCv ?_;intro hc;(try simp only [bls,reduceCtorEq] at hc);(try (exfalso;omega)))|(with_reducible refine isDrawn ?_;refine Tri.drawnD mix (by kernel_rfl) (by simp only [l_3,l_4];rfl) ?_)))<;>(try (fail));all_goals (try clear hZ))
    all_goals (try ((refine isNextV ((i+1,ns)) (Imp.les (by (refine leQL_spec ?_);(try simp only [seval,go_sem]);first|((repeat' (with_reducible apply And.intro))<;>first|rfl);done) (by (refine leQH_spec ?_);(try simp only [seval,go_sem]);done)) ?_ ?_)<;>(try (omega))))
    all_goals (try (exact ⟨by simp only;omega,by simp only;omega,hf⟩))
  | true=>
    rw [if_pos hh] at hf
    (all_goals (try have hZ:=(And.intro hb' hh));(repeat' (first|(with_reducible (first|refine Tri.seq ?_|refine Tri.block ?_|refine Tri.skip ?_|refine TriD.nil ?_|refine ListD.nil ?_|refine thenQ_n ?_|refine Tri.regionD (by simp only [l_3,l_4];rfl) ?_))|((with_reducible refine isTriD ?_);(with_reducible first|refine TriD.step (by simp only [seval,go_sem,rowBd,hZ];rfl) ?_|refine TriD.step (by simp (disch:=omega) only [seval,go_sem,cnd,intV,shV,convV,strV,rowBd,hZ];rfl) ?_))|((with_reducible refine isListD ?_);first|(with_reducible refine ListD.step (by simp only [seval,go_sem,rowBd,hZ];rfl) ?_)|((with_reducible refine isCallV ?_);((with_reducible (refine ListD.dE (by simp only [seval,go_sem,rowBd,hZ];rfl) (by simp only [seval,go_sem,rowBd,hZ];rfl) ?_));refine CallW.c (rholds_calls) (by simp only [seval,go_sem,rowBd,hZ];rfl) ?_))|(with_reducible refine ListD.step (by simp (disch:=omega) only [seval,go_sem,cnd,intV,shV,convV,strV,rowBd,hZ];rfl) ?_))|(with_reducible refine isCond ?_;with_reducible refine Tri.cond (by simp only [seval,go_sem,rowBd,hZ];rfl) (cvI ?_) (cvI ?_))|(with_reducible refine isCv ?_;intro hc;(try simp only [bls,reduceCtorEq] at hc);(try (exfalso;omega)))|(with_reducible refine isDrawn ?_;refine Tri.drawnD mix (by kernel_rfl) (by simp only [l_3,l_4];rfl) ?_)))<;>(try (fail));all_goals (try clear hZ))
    (with_reducible refine Tri.loopU (fun (j:Nat)=>[(7,.sc (.int .i64 j)),(27,.any),(28,.any),(29,.any),(30,.any),(31,.any),(32,.any),(33,.any),(34,.any),(35,.any),(36,.any),(37,.any),(38,.any),(39,.any),(40,.any),(41,.any),(42,.any),(43,.any),(44,.any)]) (fun (j:Nat)=>[]) (fun (j:Nat)=>j≤ns.length∧insN b.name ns=ns.take j++insN b.name (ns.drop j)) (fun (j:Nat)=>ns.length-j) (0) (⟨Nat.zero_le _,rfl⟩) (by intro _;simp (disch:=omega) only [seval,go_sem,cnd,intV,shV,convV,strV];rfl) (by intro _;simp (disch:=omega) only [seval,go_sem,cnd,intV,shV,convV,strV];rfl) (by (refine leQL_spec ?_);(try simp only [seval,go_sem]);done) (by (refine leQH_spec ?_);(try simp only [seval,go_sem]);done) (fun j hI=>?_))
    obtain ⟨hj,hg⟩:=hI
    have htl:((ns.map rowN).take j).length=j:=by rw [List.length_take,List.length_map];omega
    have hdl:((ns.map rowN).drop j).length=ns.length-j:=by rw [List.length_drop,List.length_map]
    have h71:(((ns.map rowN).take j)++[[D.sc (.string b.name)]]).length=j+1:=by rw [List.length_append,htl];rfl
    have hE:(((ns.map rowN).take j)++[[D.sc (.string b.name)]]++(ns.map rowN).drop j)=(ns.take j++b.name::ns.drop j).map rowN:=by simp [rowN]
    have h75:((ns.take j++b.name::ns.drop j).map rowN).length=ns.length+1:=by rw [← hE,List.length_append,h71,hdl];omega
    have htk:((ns.take j++b.name::ns.drop j).map rowN).take (ns.length+1)=(ns.take j++b.name::ns.drop j).map rowN:=List.take_of_length_le (by rw [h75];exact Nat.le_refl _)
    by_cases hjl:j<ns.length
    ·obtain ⟨y,hy⟩:=get_lt hjl
     have hy':=get_map rowN hy
     rw [drop_get hy,insN,ltN,eqN] at hg
     cases c1:Op.bytesLess y.toList b.name.toList with
     | true=>
       rw [c1,if_pos rfl] at hg
       (all_goals (try have hZ:=(And.intro hb' hy'));(repeat' (first|(with_reducible (first|refine Tri.seq ?_|refine Tri.block ?_|refine Tri.skip ?_|refine TriD.nil ?_|refine ListD.nil ?_|refine thenQ_n ?_|refine inBlockQ_n ?_|refine loopQ_n ?_|refine Tri.regionD (by simp only [l_3,l_4];rfl) ?_))|((with_reducible refine isTriD ?_);(with_reducible first|refine TriD.step (by simp only [seval,go_sem,rowBd,rowN,c1,hZ];rfl) ?_|refine TriD.step (by simp (disch:=omega) only [seval,go_sem,cnd,intV,shV,convV,strV,rowBd,rowN,c1,hZ];rfl) ?_))|((with_reducible refine isListD ?_);(with_reducible first|refine ListD.step (by simp only [seval,go_sem,rowBd,rowN,c1,hZ];rfl) ?_|refine ListD.step (by simp (disch:=omega) only [seval,go_sem,cnd,intV,shV,convV,strV,rowBd,rowN,c1,hZ];rfl) ?_))|(with_reducible refine isCond ?_;with_reducible refine Tri.cond (by simp only [seval,go_sem,rowBd,rowN,c1,hZ];rfl) (cvI ?_) (cvI ?_))|(with_reducible refine isCv ?_;intro hc;(try simp only [bls,reduceCtorEq] at hc);(try (exfalso;omega)))|(with_reducible refine isDrawn ?_;refine Tri.drawnD mix (by kernel_rfl) (by simp only [l_3,l_4];rfl) ?_)))<;>(try (fail));all_goals (try clear hZ))
       all_goals (try (refine isNext (j+1) (by (refine leQL_spec ?_);(try simp only [seval,go_sem]);first|((repeat' (with_reducible apply And.intro))<;>first|rfl);done) (by (refine leQH_spec ?_);(try simp only [seval,go_sem]);done) ?_ ?_<;>(try (omega))))
       all_goals (try (exact ⟨by omega,by rw [hg,List.take_add_one,hy];simp⟩))
     | false=>
       rw [c1,if_neg (by decide)] at hg
       cases c2:(y.toList==b.name.toList) with
       | true=>
         rw [c2,if_pos rfl, ← drop_get hy,List.take_append_drop] at hg
         rw [hg] at hf
         (all_goals (try have hZ:=(And.intro hb' hy'));(repeat' (first|(with_reducible (first|refine Tri.seq ?_|refine Tri.exit ?_|refine TriD.nil ?_|refine ListD.nil ?_|refine thenQ_n ?_|refine thenQ_e ?_|refine inBlockQ_e ?_|refine loopQ_n ?_|refine loopQ_e ?_|refine Tri.regionD (by simp only [l_3,l_4];rfl) ?_))|((with_reducible refine isTriD ?_);(with_reducible first|refine TriD.step (by simp only [seval,go_sem,rowBd,rowN,c1,c2,hZ];rfl) ?_|refine TriD.step (by simp (disch:=omega) only [seval,go_sem,cnd,intV,shV,convV,strV,rowBd,rowN,c1,c2,hZ];rfl) ?_))|((with_reducible refine isListD ?_);(with_reducible first|refine ListD.step (by simp only [seval,go_sem,rowBd,rowN,c1,c2,hZ];rfl) ?_|refine ListD.step (by simp (disch:=omega) only [seval,go_sem,cnd,intV,shV,convV,strV,rowBd,rowN,c1,c2,hZ];rfl) ?_))|(with_reducible refine isCond ?_;with_reducible refine Tri.cond (by simp only [seval,go_sem,rowBd,rowN,c1,c2,hZ];rfl) (cvI ?_) (cvI ?_))|(with_reducible refine isCv ?_;intro hc;(try simp only [bls,reduceCtorEq] at hc);(try (exfalso;omega)))|(with_reducible refine isDrawn ?_;refine Tri.drawnD mix (by kernel_rfl) (by simp only [l_3,l_4];rfl) ?_)))<;>(try (fail));all_goals (try clear hZ))
         all_goals (try ((refine isNextV ((i+1,ns)) (Imp.les (by (refine leQL_spec ?_);(try simp only [seval,go_sem]);first|((repeat' (with_reducible apply And.intro))<;>first|rfl);done) (by (refine leQH_spec ?_);(try simp only [seval,go_sem]);done)) ?_ ?_)<;>(try (omega))))
         all_goals (try (exact ⟨by simp only;omega,by simp only;omega,hf⟩))
       | false=>
         rw [c2,if_neg (by decide), ← drop_get hy] at hg
         rw [hg] at hf
         (all_goals (try have hZ:=(And.intro hb' (And.intro hy' (And.intro htl (And.intro hdl (And.intro h71 (And.intro hE h75)))))));(repeat' (first|(with_reducible (first|refine Tri.seq ?_|refine Tri.skip ?_|refine Tri.exit ?_|refine TriD.nilP ?_|refine TriD.nil ?_|refine ListD.nil ?_|refine thenQ_n ?_|refine thenQ_e ?_|refine inBlockQ_n ?_|refine inBlockQ_e ?_|refine loopQ_n ?_|refine loopQ_e ?_|refine Tri.regionD (by simp only [l_3,l_4];rfl) ?_))|((with_reducible refine isTriD ?_);(with_reducible first|refine TriD.step (by simp only [seval,go_sem,rowBd,rowN,c1,c2,hZ];rfl) ?_|refine TriD.step (by simp (disch:=omega) only [seval,go_sem,cnd,intV,shV,convV,strV,rowBd,rowN,c1,c2,hZ];rfl) ?_))|((with_reducible refine isListD ?_);(with_reducible first|refine ListD.step (by simp only [seval,go_sem,rowBd,rowN,c1,c2,hZ];rfl) ?_|refine ListD.step (by simp (disch:=omega) only [seval,go_sem,cnd,intV,shV,convV,strV,rowBd,rowN,c1,c2,hZ];rfl) ?_))|(with_reducible refine isCond ?_;with_reducible refine Tri.cond (by simp only [seval,go_sem,rowBd,rowN,c1,c2,hZ];rfl) (cvI ?_) (cvI ?_))|(with_reducible refine isCv ?_;intro hc;(try simp only [bls,reduceCtorEq] at hc);(try (exfalso;omega)))|(with_reducible refine isDrawnN 10 ?_;refine Tri.mixedP 10 mix 16 rfl (.f 0 <| .f 1 <| .f 2 <| .f 4 <| .f 5 <| .f 6 <| .f 7 <| .f 11 <| .f 12 <| .f 13 <| .r 8 <| .a <| .b 3 (.a <| .b 9 (.a <| .b 10 (.a <| .b 14 (.f 15 <| .d) .e) .e) .e) <| .b 9 (.a <| .b 3 (.a <| .b 10 (.a <| .b 14 (.f 15 <| .d) .e) .e) .e) .e) (by kernel_rfl) ?_)|(with_reducible refine isAnyP ?_;first|refine AnyP.D ?_|refine AnyP.F (by simp only [seval,go_sem,l_7,l_6];rfl) (by first|(simp only [seval,go_sem,rowBd,rowN,c1,c2,hZ];done)) (by first|(simp only [seval,go_sem,rowBd,rowN,c1,c2,hZ];with_reducible rfl)|(simp (disch:=omega) only [seval,go_sem,cnd,intV,shV,convV,strV,rowBd,rowN,c1,c2,hZ];with_reducible rfl)) ?_|refine AnyP.R (by simp only [seval,go_sem,l_7,l_6];rfl) (by first|(refine .inl ?_;simp only [seval,go_sem,rowBd,rowN,c1,c2,hZ];done)) (by first|(simp only [seval,go_sem,rowBd,rowN,c1,c2,hZ];with_reducible rfl)) ?_|refine AnyP.A ?_)|(first|exact NextsP.E|refine NextsP.B (by simp only [seval,go_sem,l_7,l_6];rfl) ?_ ?_)|(with_reducible refine isDrawn ?_;refine Tri.drawnD mix (by kernel_rfl) (by simp only [l_3,l_4];rfl) ?_)))<;>(try (fail));all_goals (try clear hZ))
         all_goals (try ((refine isNextV ((i+1,ns.take j++b.name::ns.drop j)) (Imp.frzTo 75 (by simp only [seval,go_sem];rfl) (by simp only [seval,go_sem,h75,htk];rfl) (Imp.les (by (refine leQL_spec ?_);(try simp only [seval,go_sem,h75,htk]);first|((repeat' (with_reducible apply And.intro))<;>first|rfl);done) (by (refine leQH_spec ?_);(try simp only [seval,go_sem,h75,htk]);done))) ?_ ?_)<;>(try (omega))))
         all_goals (try (exact ⟨by simp only;omega,by simp only [List.length_append,List.length_take,List.length_cons,List.length_drop];omega,hf⟩))
    ·have hd:ns.drop j=[]:=List.drop_eq_nil_of_le (by omega)
     have ht:ns.take j=ns:=List.take_of_length_le (by omega)
     rw [hd,ht,insN] at hg
     rw [hg] at hf
     have e:j=ns.length:=by omega
     (all_goals (try have hZ:=(And.intro hb' (And.intro htl (And.intro hdl (And.intro h71 (And.intro hE h75))))));(repeat' (first|(with_reducible (first|refine Tri.seq ?_|refine Tri.skip ?_|refine Tri.exit ?_|refine TriD.nilP ?_|refine TriD.nil ?_|refine ListD.nil ?_|refine thenQ_n ?_|refine thenQ_e ?_|refine inBlockQ_n ?_|refine inBlockQ_e ?_|refine loopQ_n ?_|refine loopQ_e ?_|refine Tri.regionD (by simp only [l_3,l_4];rfl) ?_))|((with_reducible refine isTriD ?_);(with_reducible first|refine TriD.step (by simp only [seval,go_sem,rowBd,hZ];rfl) ?_|refine TriD.step (by simp (disch:=omega) only [seval,go_sem,cnd,intV,shV,convV,strV,rowBd,hZ];rfl) ?_))|((with_reducible refine isListD ?_);(with_reducible first|refine ListD.step (by simp only [seval,go_sem,rowBd,hZ];rfl) ?_|refine ListD.step (by simp (disch:=omega) only [seval,go_sem,cnd,intV,shV,convV,strV,rowBd,hZ];rfl) ?_))|(with_reducible refine isCond ?_;with_reducible refine Tri.cond (by simp only [seval,go_sem,rowBd,hZ];rfl) (cvI ?_) (cvI ?_))|(with_reducible refine isCv ?_;intro hc;(try simp only [bls,reduceCtorEq] at hc);(try (exfalso;omega)))|(with_reducible refine isDrawnN 10 ?_;refine Tri.mixedP 10 mix 16 rfl (.f 0 <| .f 1 <| .f 2 <| .f 4 <| .f 5 <| .f 6 <| .f 7 <| .f 11 <| .f 12 <| .f 13 <| .r 8 <| .a <| .b 3 (.a <| .b 9 (.a <| .b 10 (.a <| .b 14 (.f 15 <| .d) .e) .e) .e) <| .b 9 (.a <| .b 3 (.a <| .b 10 (.a <| .b 14 (.f 15 <| .d) .e) .e) .e) .e) (by kernel_rfl) ?_)|(with_reducible refine isAnyP ?_;first|refine AnyP.D ?_|refine AnyP.F (by simp only [seval,go_sem,l_7,l_6];rfl) (by first|(simp only [seval,go_sem,rowBd,hZ];done)) (by first|(simp only [seval,go_sem,rowBd,hZ];with_reducible rfl)|(simp (disch:=omega) only [seval,go_sem,cnd,intV,shV,convV,strV,rowBd,hZ];with_reducible rfl)) ?_|refine AnyP.R (by simp only [seval,go_sem,l_7,l_6];rfl) (by first|(refine .inl ?_;simp only [seval,go_sem,rowBd,hZ];done)) (by first|(simp only [seval,go_sem,rowBd,hZ];with_reducible rfl)) ?_|refine AnyP.A ?_)|(first|exact NextsP.E|refine NextsP.B (by simp only [seval,go_sem,l_7,l_6];rfl) ?_ ?_)|(with_reducible refine isDrawn ?_;refine Tri.drawnD mix (by kernel_rfl) (by simp only [l_3,l_4];rfl) ?_)))<;>(try (fail));all_goals (try clear hZ))
     all_goals (try ((refine isNextV ((i+1,ns.take j++b.name::ns.drop j)) (Imp.frzTo 75 (by simp only [seval,go_sem];rfl) (by simp only [seval,go_sem,h75,htk];rfl) (Imp.les (by (refine leQL_spec ?_);(try simp only [seval,go_sem,h75,htk]);first|((repeat' (with_reducible apply And.intro))<;>first|rfl);done) (by (refine leQH_spec ?_);(try simp only [seval,go_sem,h75,htk]);done))) ?_ ?_)<;>(try (omega))))
     all_goals (try (exact ⟨by simp only;omega,by simp only [List.length_append,List.length_take,List.length_cons,List.length_drop];omega,by rw [hd,ht];exact hf⟩))
 ·rw [List.drop_eq_nil_of_le (by omega),listR] at hf
  rw [← hf]
  ((repeat' (first|(with_reducible (first|refine Tri.seq ?_|refine Tri.exit ?_|refine Tri.ret ?_|refine TriD.nil ?_|refine thenQ_n ?_|refine thenQ_e ?_|refine inBlockQ_e ?_|refine loopQ_e ?_|refine Tri.regionD (by simp only [l_3,l_4];rfl) ?_))|((with_reducible refine isTriD ?_);(with_reducible first|refine TriD.step (by simp only [seval,go_sem];rfl) ?_|refine TriD.step (by simp (disch:=omega) only [seval,go_sem,cnd,intV,shV,convV,strV];rfl) ?_))|(with_reducible refine isCond ?_;with_reducible refine Tri.cond (by simp only [seval,go_sem];rfl) (cvI ?_) (cvI ?_))|(with_reducible refine isCv ?_;intro hc;(try simp only [bls,reduceCtorEq] at hc);(try (exfalso;omega)))|(with_reducible refine isRet ?_;refine RetOK.q rfl rfl (by simp only [seval,go_sem];rfl) (by decide) (by simp only [seval,go_sem];rfl) (by simp only [seval,go_sem];rfl) rfl ?_<;>(try simp only [seval,go_sem])<;>(repeat' (with_reducible apply And.intro))<;>(try rfl))))<;>(try (fail)))
end Go.Proofs.Ytmgodadmafcliaa
/- The reference's store: lengths (plain). -/
set_option linter.unusedSimpArgs false
set_option linter.unusedVariables false
namespace Go.Proofs.Ytmgodadmafcliaa
open Go.RowKit Go.Avm
theorem chunks_len (sz:Nat): ∀ (k:Nat) (l:List Int),(chunks sz k l).length≤k
 | 0,_=>Nat.le_refl _
 | k+1,l=>by
   rw [chunks]
   split
   ·exact Nat.zero_le _
   ·have:=chunks_len sz k (l.drop sz);simp only [List.length_cons];omega
theorem chunks_mem (sz:Nat): ∀ (k:Nat) (l:List Int), ∀ x∈chunks sz k l,x.length≤sz∧ ∀ z∈x,z∈l
 | 0,_=>fun x hx=>by simp [chunks] at hx
 | k+1,l=>fun x hx=>by
   rw [chunks] at hx
   split at hx
   ·simp at hx
   ·rcases List.mem_cons.1 hx with rfl|h
    ·exact ⟨by rw [List.length_take];omega,fun z hz=>List.mem_of_mem_take hz⟩
    ·have:=chunks_mem sz k (l.drop sz) x h
     exact ⟨this.1,fun z hz=>List.mem_of_mem_drop (this.2 z hz)⟩
theorem splitR_len {d:List Int} {sz:Int}:(splitR d sz).1.length≤d.length:=by
 unfold splitR;split
 ·exact Nat.zero_le _
 ·exact chunks_len _ _ _
theorem splitR_mem {d:List Int} {sz:Int}: ∀ x∈(splitR d sz).1,x.length≤1024∧ ∀ z∈x,z∈d:=by
 unfold splitR;split
 ·intro x hx;simp at hx
 ·intro x hx
  have:=chunks_mem _ _ _ x hx
  exact ⟨by have:=this.1;omega,this.2⟩
theorem allocR_len (a:Ar) (d:List Int):(allocR a d).1.pages.length≤a.pages.length+1:=by
 unfold allocR;split
 ·exact Nat.le_succ _
 ·split
  ·exact Nat.le_succ _
  ·exact Nat.le_of_eq (insAt_len (stopAt_le _ _))
theorem listR_len (c:Int): ∀ (l:List Bd) (a:List ByteArray),(listR c l a).length≤a.length+l.length
 | [],_=>Nat.le_refl _
 | b::l,a=>by
   rw [listR]
   split
   ·have h1:=listR_len c l (insN b.name a)
    have h2:=insN_len b.name a
    simp only [List.length_cons];omega
   ·have h1:=listR_len c l a
    simp only [List.length_cons];omega
end Go.Proofs.Ytmgodadmafcliaa
/- The reference's store: sizes of what Change and Store build (plain). -/
set_option linter.unusedSimpArgs false
set_option linter.unusedVariables false
namespace Go.Proofs.Ytmgodadmafcliaa
open Go.RowKit Go.Avm
def DatOk (d:List Int):Prop:=d.length≤1024∧ ∀ z∈d,0≤z∧z≤255
def PgOk (l:List Pg):Prop:= ∀ p∈l,DatOk p.data
theorem datOk_nil:DatOk []:=⟨Nat.zero_le _,fun z hz=>by simp at hz⟩
theorem allocR_ok {a:Ar} {d:List Int} (ha:PgOk a.pages) (hd:DatOk d):PgOk (allocR a d).1.pages:=by
 unfold allocR;split
 ·exact ha
 ·split
  ·exact ha
  ·intro p hp
   rcases List.mem_cons.1 ((insAt_perm _ _ _).mem_iff.1 hp) with rfl|h
   ·exact hd
   ·exact ha p h
theorem pgGet_ok {l:List Pg} {i:Int} (h:PgOk l):DatOk (pgGet l i).data:=by
 unfold pgGet
 cases e:l[i.toNat]? with
 | none=>exact datOk_nil
 | some p=>exact h p (List.mem_of_getElem? e)
theorem holdR_ok {a:Ar} {n:Int} (ha:PgOk a.pages):PgOk (holdR a n).1.pages:=by
 unfold holdR;split
 ·exact ha
 ·intro p hp
  rcases List.mem_or_eq_of_mem_set hp with h|rfl
  ·exact ha p h
  ·exact pgGet_ok ha
theorem hold_len (a:Ar) (n:Int):(holdR a n).1.pages.length=a.pages.length:=by
 unfold holdR;split
 ·rfl
 ·simp [setRefs]
theorem allocs_ok (l:List (List Int)): ∀ a:Ar,(∀ x∈l,DatOk x)→PgOk a.pages→PgOk (allocs a l).1.pages∧(allocs a l).1.pages.length≤a.pages.length+l.length∧(allocs a l).2.length=l.length:=by
 induction l with
 | nil=>intro a _ h;exact ⟨h,Nat.le_refl _,rfl⟩
 | cons x l ih=>
   intro a hx h
   have h1:=ih (allocR a x).1 (fun y hy=>hx y (by simp [hy])) (allocR_ok h (hx x (by simp)))
   have h2:=allocR_len a x
   simp only [allocs,List.length_cons]
   exact ⟨h1.1,by omega,by omega⟩
theorem puts_ok (l:List (List Int)): ∀ (a:Ar) (b:List Bool) (o:List Int),(∀ x∈l,DatOk x)→PgOk a.pages→PgOk (puts a l b o).1.pages∧(puts a l b o).1.pages.length≤a.pages.length+l.length∧(puts a l b o).2.length≤l.length:=by
 induction l with
 | nil=>intro a b o _ h;cases b<;>exact ⟨h,Nat.le_refl _,Nat.zero_le _⟩
 | cons x l ih=>
   intro a b o hx h
   cases b with
   | nil=>exact ⟨h,Nat.le_add_right _ _,Nat.zero_le _⟩
   | cons b bs=>
     rw [puts]
     split
     ·have h1:=ih (holdR a (o.headD 0)).1 bs o.tail (fun y hy=>hx y (by simp [hy])) (holdR_ok h)
      have h2:=hold_len a (o.headD 0)
      simp only [List.length_cons]
      exact ⟨h1.1,by omega,by omega⟩
     ·have h1:=ih (allocR a x).1 bs o.tail (fun y hy=>hx y (by simp [hy])) (allocR_ok h (hx x (by simp)))
      have h2:=allocR_len a x
      simp only [List.length_cons]
      exact ⟨h1.1,by omega,by omega⟩
structure SrB (i:Nat) (s:Sr):Prop where
 hb:s.binds.length≤i
 ho:s.objs.length≤i
 hv: ∀ o∈s.objs,o.vers.length≤i∧ ∀ v∈o.vers,v.pages.length≤61∧v.size≤61
 hp:s.pins.length≤i
 hg:s.ar.pages.length≤61*i
 hd:PgOk s.ar.pages
 hc:0≤s.commit∧s.commit≤i
 hl:0≤s.last∧s.last≤i
 hz:1≤s.c.psz∧s.c.psz≤1024
theorem SrB.up {i:Nat} {s:Sr} (h:SrB i s):SrB (i+1) s:=
 ⟨by have:=h.hb;omega,by have:=h.ho;omega,fun o ho=>⟨by have:=(h.hv o ho).1;omega,(h.hv o ho).2⟩,by have:=h.hp;omega,by have:=h.hg;omega,h.hd,⟨h.hc.1,by have:=h.hc.2;omega⟩,⟨h.hl.1,by have:=h.hl.2;omega⟩,h.hz⟩
def VOk (i:Nat) (l:List Ver):Prop:=l.length≤i∧ ∀ v∈l,v.pages.length≤61∧v.size≤61
theorem appendV_ok {i:Nat} {l:List Ver} {v:Ver} (h:VOk i l) (hv:v.pages.length≤61∧v.size≤61):VOk (i+1) (appendV l v).1:=by
 unfold appendV
 split
 ·exact ⟨Nat.zero_le _,fun v hv=>by simp at hv⟩
 ·split
  ·exact ⟨Nat.zero_le _,fun v hv=>by simp at hv⟩
  ·split
   ·exact ⟨by simp,fun w hw=>by rw [List.mem_singleton.1 hw];exact hv⟩
   ·rename_i u hu
    have hum:=h.2 u (List.mem_of_getElem? hu)
    split
    ·exact ⟨Nat.zero_le _,fun v hv=>by simp at hv⟩
    ·split
     ·refine ⟨by have:=h.1;simp only [List.length_append,List.length_set,List.length_cons,List.length_nil];omega,fun w hw=>?_⟩
      rcases List.mem_append.1 hw with h1|h1
      ·rcases List.mem_or_eq_of_mem_set h1 with h2|rfl
       ·exact h.2 w h2
       ·exact hum
      ·rw [List.mem_singleton.1 h1];exact hv
     ·refine ⟨by have:=h.1;simp only [List.length_append,List.length_cons,List.length_nil];omega,fun w hw=>?_⟩
      rcases List.mem_append.1 hw with h1|h1
      ·exact h.2 w h1
      ·rw [List.mem_singleton.1 h1];exact hv
theorem closeV_ok {i:Nat} {l:List Ver} {c:Int} (h:VOk i l):VOk (i+1) (closeV l c).1:=by
 unfold closeV
 split
 ·exact ⟨Nat.zero_le _,fun v hv=>by simp at hv⟩
 ·split
  ·exact ⟨Nat.zero_le _,fun v hv=>by simp at hv⟩
  ·rename_i u hu
   have hum:=h.2 u (List.mem_of_getElem? hu)
   split
   ·exact ⟨Nat.zero_le _,fun v hv=>by simp at hv⟩
   ·split
    ·exact ⟨Nat.zero_le _,fun v hv=>by simp at hv⟩
    ·refine ⟨by have:=h.1;simp only [List.length_set];omega,fun w hw=>?_⟩
     rcases List.mem_or_eq_of_mem_set hw with h2|rfl
     ·exact h.2 w h2
     ·exact hum
theorem obGet_ok {i:Nat} {s:Sr} (h:SrB i s) (j:Int):VOk i (obGet s.objs j).vers:=by
 unfold obGet
 cases e:s.objs[j.toNat]? with
 | none=>exact ⟨Nat.zero_le _,fun v hv=>by simp at hv⟩
 | some o=>exact h.hv o (List.mem_of_getElem? e)
theorem setVers_ok {i:Nat} {s:Sr} (h:SrB i s) {j:Int} {v:List Ver} (hv:VOk (i+1) v):(setVers s.objs j v).length≤i+1∧ ∀ o∈setVers s.objs j v,o.vers.length≤i+1∧ ∀ v∈o.vers,v.pages.length≤61∧v.size≤61:=by
 refine ⟨by have:=h.ho;simp only [setVers,List.length_set];omega,fun o ho=>?_⟩
 rcases List.mem_or_eq_of_mem_set ho with h2|rfl
 ·exact h.up.hv o h2
 ·exact hv
theorem bytesK_ok (n:Int):(bytesK n).length≤61∧ ∀ z∈bytesK n,0≤z∧z≤255:=by
 have hl:(n/8%64%61).toNat≤61:=by omega
 refine ⟨by simp only [bytesK,List.length_map,List.length_range];exact hl,fun z hz=>?_⟩
 obtain ⟨i,hi,rfl⟩:=List.mem_map.1 hz
 have:=List.mem_range.1 hi
 unfold byteK;split<;>omega
theorem split_ok (n sz:Int):(splitR (bytesK n) sz).1.length≤61∧ ∀ x∈(splitR (bytesK n) sz).1,DatOk x:=by
 have h:=bytesK_ok n
 exact ⟨by have:=splitR_len (d:=bytesK n) (sz:=sz);omega,fun x hx=>⟨(splitR_mem x hx).1,fun z hz=>h.2 z ((splitR_mem x hx).2 z hz)⟩⟩
theorem createR_ok {i:Nat} {s:Sr} {m:ByteArray} {n:Int} (h:SrB i s):SrB (i+1) (createR s m (bytesK n)).1:=by
 have hs:=split_ok n s.c.psz
 have ha:=allocs_ok (splitR (bytesK n) s.c.psz).1 s.ar hs.2 h.hd
 have hbl:=(bytesK_ok n).1
 unfold createR
 split
 ·exact h.up
 ·split
  ·exact h.up
  ·split
   ·exact h.up
   ·split
    ·exact h.up
    ·refine ⟨?_,?_,?_,?_,?_,ha.1,?_,?_,h.hz⟩
     ·have:=bindB_len s.binds m (s.last+1) (s.commit+1);have:=h.hb;simp only;omega
     ·have:=h.ho;simp only [List.length_append,List.length_cons,List.length_nil];omega
     ·intro o ho
      rcases List.mem_append.1 ho with h1|h1
      ·exact h.up.hv o h1
      ·rw [List.mem_singleton.1 h1]
       refine ⟨by simp,fun v hv=>?_⟩
       rw [List.mem_singleton.1 hv]
       exact ⟨by simp only;omega,by simp only;omega⟩
     ·have:=h.hp;simp only;omega
     ·have:=h.hg;simp only;omega
     ·have:=h.hc;simp only;omega
     ·have:=h.hl;simp only;omega
theorem putR_ok {i:Nat} {s:Sr} {m:ByteArray} {n:Int} (h:SrB i s):SrB (i+1) (putR s m (bytesK n)).1:=by
 have hs:=split_ok n s.c.psz
 have ha:=puts_ok (splitR (bytesK n) s.c.psz).1 s.ar (sharedR (storedR s.ar (verR s m s.commit).2.1.pages) (splitR (bytesK n) s.c.psz).1) (verR s m s.commit).2.1.pages hs.2 h.hd
 have hbl:=(bytesK_ok n).1
 unfold putR
 split
 ·exact h.up
 ·split
  ·exact h.up
  ·split
   ·exact h.up
   ·have hv:=setVers_ok h (j:=(verR s m s.commit).1) (appendV_ok (obGet_ok h (verR s m s.commit).1) (v:=⟨s.commit+1,0,(bytesK n).length,(puts s.ar (splitR (bytesK n) s.c.psz).1 (sharedR (storedR s.ar (verR s m s.commit).2.1.pages) (splitR (bytesK n) s.c.psz).1) (verR s m s.commit).2.1.pages).2⟩) ⟨by simp only;omega,by simp only;omega⟩)
    refine ⟨?_,hv.1,hv.2,?_,?_,ha.1,?_,?_,h.hz⟩
    ·have:=h.hb;simp only;omega
    ·have:=h.hp;simp only;omega
    ·have:=h.hg;simp only;omega
    ·have:=h.hc;simp only;omega
    ·have:=h.hl;simp only;omega
theorem dropR_ok {i:Nat} {s:Sr} {m:ByteArray} (h:SrB i s):SrB (i+1) (dropR s m).1:=by
 unfold dropR
 split
 ·exact h.up
 ·split
  ·exact h.up
  ·have hv:=setVers_ok h (j:=(verR s m s.commit).1) (closeV_ok (c:=s.commit+1) (obGet_ok h (verR s m s.commit).1))
   refine ⟨?_,hv.1,hv.2,?_,?_,h.hd,?_,?_,h.hz⟩
   ·have:=unbindB_len s.binds m (s.commit+1);have:=h.hb;simp only;omega
   ·have:=h.hp;simp only;omega
   ·have:=h.hg;simp only;omega
   ·have:=h.hc;simp only;omega
   ·have:=h.hl;simp only;omega
theorem renameR_ok {i:Nat} {s:Sr} {m k:ByteArray} (h:SrB i s):SrB (i+1) (renameR s m k).1:=by
 unfold renameR
 split
 ·exact h.up
 ·split
  ·exact h.up
  ·split
   ·exact h.up
   ·split
    ·exact h.up
    ·refine ⟨?_,h.up.ho,h.up.hv,h.up.hp,h.up.hg,h.hd,?_,h.up.hl,h.hz⟩
     ·have:=renameB_len s.binds m k (s.commit+1);have:=h.hb;simp only;omega
     ·have:=h.hc;simp only;omega
theorem pinR_ok {i:Nat} {s:Sr} {c:Int} (h:SrB i s):SrB (i+1) (pinR s c).1:=by
 unfold pinR
 split
 ·exact h.up
 ·split
  ·exact h.up
  ·exact ⟨h.up.hb,h.up.ho,h.up.hv,addP_len h.hp,h.up.hg,h.hd,h.up.hc,h.up.hl,h.hz⟩
theorem unpinR_ok {i:Nat} {s:Sr} {c:Int} (h:SrB i s):SrB (i+1) (unpinR s c).1:=by
 unfold unpinR
 split
 ·exact h.up
 ·exact ⟨h.up.hb,h.up.ho,h.up.hv,remP_len h.up.hp,h.up.hg,h.hd,h.up.hc,h.up.hl,h.hz⟩
theorem changeR_ok {i:Nat} {s:Sr} {n:Int} (h:SrB i s):SrB (i+1) (changeR s n):=by
 unfold changeR
 repeat' split
 ·exact createR_ok h
 ·exact putR_ok h
 ·exact dropR_ok h
 ·exact renameR_ok h
 ·exact pinR_ok h
 ·exact h.up
 ·exact unpinR_ok h
theorem inR_of {n lo hi:Int} (h1:lo≤n) (h2:n≤hi):inR n lo hi=true:=by
 simp only [inR,decide_eq_true h1,decide_eq_true h2,Bool.and_self]
theorem pickR {p q r:Prop} [Decidable p] [Decidable q] [Decidable r] {a b c d lo hi:Int} (h:lo≤a∧a≤hi∧lo≤b∧b≤hi∧lo≤c∧c≤hi∧lo≤d∧d≤hi):inR (if p then a else if q then b else if r then c else d) lo hi=true:=by
 split
 ·exact inR_of h.1 h.2.1
 ·split
  ·exact inR_of h.2.2.1 h.2.2.2.1
  ·split
   ·exact inR_of h.2.2.2.2.1 h.2.2.2.2.2.1
   ·exact inR_of h.2.2.2.2.2.2.1 h.2.2.2.2.2.2.2
theorem cfgK_ok (n:Int):cfOk (cfgK n)=true:=by
 simp only [cfOk,cfgK,Bool.and_eq_true]
 exact ⟨⟨⟨⟨⟨⟨inR_of (by omega) (by omega),inR_of (by omega) (by omega)⟩,pickR (by decide)⟩,pickR (by decide)⟩,pickR (by decide)⟩,pickR (by decide)⟩,inR_of (by omega) (by omega)⟩
theorem newR_ok (n:Int):SrB 1 (newR (cfgK n)).1:=by
 have hz:1≤(cfgK n).psz∧(cfgK n).psz≤1024:=by
  have h:=cfgK_ok n
  simp only [cfOk,inR,Bool.and_eq_true,decide_eq_true_eq] at h
  omega
 unfold newR
 rw [if_neg (by rw [cfgK_ok];decide)]
 exact ⟨Nat.zero_le _,Nat.zero_le _,fun o ho=>by simp at ho,Nat.zero_le _,Nat.zero_le _,fun o ho=>by simp at ho,⟨Int.le_refl _,by simp⟩,⟨Int.le_refl _,by simp⟩,hz⟩
theorem atK_rng (l:List Int) (i:Nat) (hi:i≤1000):0≤atK l i∧atK l i≤70000:=by
 unfold atK;split
 ·omega
 ·have:i/l.length≤i:=Nat.div_le_self _ _
  generalize i/l.length=q at *
  omega
theorem storeGo_ok (l:List Int) (k:Nat): ∀ (i:Nat) (s:Sr),SrB i s→SrB (i+k) (storeGo l k i s):=by
 have up: ∀ (k i:Nat) (s:Sr),SrB i s→SrB (i+k) s:=by
  intro k
  induction k with
  | zero=>intro i s h;exact h
  | succ k ih=>intro i s h;exact (ih i s h).up
 induction k with
 | zero=>intro i s h;exact h
 | succ k ih=>
   intro i s h
   rw [storeGo]
   split
   ·have:=ih (i+1) _ (changeR_ok (n:=atK l i) h)
    rwa [show i+1+k=i+(k+1) by omega] at this
   ·exact up (k+1) i s h
theorem storeR_ok (l:List Int):SrB 13 (storeR l):=storeGo_ok l 12 1 _ (newR_ok _)
end Go.Proofs.Ytmgodadmafcliaa
