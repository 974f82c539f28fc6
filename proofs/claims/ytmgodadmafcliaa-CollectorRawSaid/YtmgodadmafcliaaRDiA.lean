/- Directory: the walks of the small functions of the program and of the reference; names. -/
import Derived.Test.YtmgodadmafcliaaRDiP
set_option linter.unusedSimpArgs false
set_option linter.unusedVariables false
namespace Go.Proofs.Ytmgodadmafcliaa
open Go.RowKit Go.Avm
-- CON sketchstore/names.lower | lowc_calls | 0
-- CON sketchstore/names.digit | digc_calls | 0
-- CON sketchstore/sketchstoreref1.between | betw_calls | 0
-- CON sketchstore/names.IsName | isname_calls | 0
-- CON sketchstore/sketchstoreref1.IsName | risname_calls | 0
-- CON sketchstore/directory.holds | holds_calls | 0
-- CON sketchstore/directory.overlap | overlap_calls | 0
-- CON sketchstore/sketchstoreref14.Holds | rholds_calls | 0
theorem str_get {s:ByteArray} {i:Nat} {z:Int} (h:(bytesS s)[i]? = some z): ∃ b:UInt8,s[i]? = some b∧z=(b.toNat:Int):=by
 rw [bytesS,List.getElem?_map] at h
 cases hb:s.data.toList[i]? with
 | none=>rw [hb] at h;simp at h
 | some b=>
   rw [hb] at h
   simp only [Option.map_some,l_5] at h
   have hlt:=(List.getElem?_eq_some_iff.1 hb).1
   refine ⟨b,?_,h.symm⟩
   rw [Array.length_toList] at hlt
   have h2:i<s.size:=hlt
   rw [getElem?_pos s i h2]
   rw [Array.getElem?_toList,Array.getElem?_eq_getElem hlt] at hb
   exact hb
theorem index_str {s:ByteArray} {i z:Int} (h0:0≤i) (h:(bytesS s)[i.toNat]? = some z):pureRun Try.prog (Instr.index 9 (.string s) (.int .i64 i))=some (.int .u8 z):=by
 obtain ⟨b,hb,rfl⟩:=str_get h
 have hu:pureRun Try.prog (underlying 9)=some .string:=pureRun_underlying Try.underlying9
 unfold Instr.index
 simp only [asIntOf,pureRun_bind,pureRun_pure,Option.bind_some,hu,h0,if_true,hb]
set_option maxRecDepth 100000 in set_option maxHeartbeats 3200000 in
theorem lowc_calls {c:Int}:ACalls Try.prog 147 [.sc (.int .u8 c)] (.sc (.bool (lowC c))) []:=by
 unfold lowC
 refine of_tri [] [] Try.func147 rfl call147 rfl (by decide) (by decide) rfl rfl Try.ntmps147 (by simp (disch:=omega) only [seval,go_sem,cnd,intV,shV,convV,strV,List.replicate,l_2,l_1];rfl) (by simp (disch:=omega) only [seval,go_sem,cnd,intV,shV,convV,strV,l_2,l_1];rfl) ?_
 ((repeat' (first|(with_reducible (first|refine Tri.seq ?_|refine Tri.ret ?_|refine TriD.nil ?_|refine thenQ_n ?_|refine Tri.regionD (by simp only [l_3,l_4];rfl) ?_))|((with_reducible refine isTriD ?_);first|(with_reducible refine TriD.step (by simp only [seval,go_sem];rfl) ?_)|(with_reducible refine TriD.step (by simp (disch:=omega) only [seval,go_sem,cnd,intV,shV,convV,strV];rfl) ?_)|(with_reducible refine TriD.byGuard (by simp only [seval,go_sem];rfl) (by simp only [seval,go_sem];rfl) (by (fail_if_success (with_reducible exact nlT));(fail_if_success (with_reducible exact nlF));exact nlI) (cvI ?_) (cvI ?_)))|(with_reducible refine isCv ?_;intro hc;(try simp only [bls,reduceCtorEq] at hc);(try (exfalso;omega)))|(with_reducible refine isRet ?_;refine RetOK.q rfl rfl (by simp only [seval,go_sem];rfl) (by decide) (by simp only [seval,go_sem];rfl) (by simp only [seval,go_sem];rfl) rfl ?_<;>(try simp only [seval,go_sem])<;>(repeat' (with_reducible apply And.intro))<;>(try rfl))))<;>(try (fail)))
 all_goals (try (first|rfl|(simp;omega)|(simp_all;done)|(simp_all;omega)))
set_option maxRecDepth 100000 in set_option maxHeartbeats 3200000 in
theorem digc_calls {c:Int}:ACalls Try.prog 148 [.sc (.int .u8 c)] (.sc (.bool (digC c))) []:=by
 unfold digC
 refine of_tri [] [] Try.func148 rfl call148 rfl (by decide) (by decide) rfl rfl Try.ntmps148 (by simp (disch:=omega) only [seval,go_sem,cnd,intV,shV,convV,strV,List.replicate,l_2,l_1];rfl) (by simp (disch:=omega) only [seval,go_sem,cnd,intV,shV,convV,strV,l_2,l_1];rfl) ?_
 ((repeat' (first|(with_reducible (first|refine Tri.seq ?_|refine Tri.ret ?_|refine TriD.nil ?_|refine thenQ_n ?_|refine Tri.regionD (by simp only [l_3,l_4];rfl) ?_))|((with_reducible refine isTriD ?_);first|(with_reducible refine TriD.step (by simp only [seval,go_sem];rfl) ?_)|(with_reducible refine TriD.step (by simp (disch:=omega) only [seval,go_sem,cnd,intV,shV,convV,strV];rfl) ?_)|(with_reducible refine TriD.byGuard (by simp only [seval,go_sem];rfl) (by simp only [seval,go_sem];rfl) (by (fail_if_success (with_reducible exact nlT));(fail_if_success (with_reducible exact nlF));exact nlI) (cvI ?_) (cvI ?_)))|(with_reducible refine isCv ?_;intro hc;(try simp only [bls,reduceCtorEq] at hc);(try (exfalso;omega)))|(with_reducible refine isRet ?_;refine RetOK.q rfl rfl (by simp only [seval,go_sem];rfl) (by decide) (by simp only [seval,go_sem];rfl) (by simp only [seval,go_sem];rfl) rfl ?_<;>(try simp only [seval,go_sem])<;>(repeat' (with_reducible apply And.intro))<;>(try rfl))))<;>(try (fail)))
 all_goals (try (first|rfl|(simp;omega)|(simp_all;done)|(simp_all;omega)))
set_option maxRecDepth 100000 in set_option maxHeartbeats 3200000 in
theorem betw_calls {c a b:Int}:ACalls Try.prog 141 [.sc (.int .u8 c), .sc (.int .u8 a), .sc (.int .u8 b)] (.sc (.bool (decide (a≤c)&&decide (c≤b)))) []:=by
 refine of_tri [] [] Try.func141 rfl call141 rfl (by decide) (by decide) rfl rfl Try.ntmps141 (by simp (disch:=omega) only [seval,go_sem,cnd,intV,shV,convV,strV,List.replicate,l_2,l_1];rfl) (by simp (disch:=omega) only [seval,go_sem,cnd,intV,shV,convV,strV,l_2,l_1];rfl) ?_
 ((repeat' (first|(with_reducible (first|refine Tri.seq ?_|refine Tri.ret ?_|refine TriD.nil ?_|refine thenQ_n ?_|refine Tri.regionD (by simp only [l_3,l_4];rfl) ?_))|((with_reducible refine isTriD ?_);first|(with_reducible refine TriD.step (by simp only [seval,go_sem];rfl) ?_)|(with_reducible refine TriD.step (by simp (disch:=omega) only [seval,go_sem,cnd,intV,shV,convV,strV];rfl) ?_)|(with_reducible refine TriD.byGuard (by simp only [seval,go_sem];rfl) (by simp only [seval,go_sem];rfl) (by (fail_if_success (with_reducible exact nlT));(fail_if_success (with_reducible exact nlF));exact nlI) (cvI ?_) (cvI ?_)))|(with_reducible refine isCv ?_;intro hc;(try simp only [bls,reduceCtorEq] at hc);(try (exfalso;omega)))|(with_reducible refine isRet ?_;refine RetOK.q rfl rfl (by simp only [seval,go_sem];rfl) (by decide) (by simp only [seval,go_sem];rfl) (by simp only [seval,go_sem];rfl) rfl ?_<;>(try simp only [seval,go_sem])<;>(repeat' (with_reducible apply And.intro))<;>(try rfl))))<;>(try (fail)))
 all_goals (try (first|rfl|(simp;omega)|(simp_all;done)|(simp_all;omega)))
set_option maxRecDepth 100000 in set_option maxHeartbeats 3200000 in
theorem rholds_calls {f t c:Int}:ACalls Try.prog 89 [.sc (.int .i64 f), .sc (.int .i64 t), .sc (.int .i64 c)] (.sc (.bool (holdsB f t c))) []:=by
 unfold holdsB
 refine of_tri [] [] Try.func89 rfl call89 rfl (by decide) (by decide) rfl rfl Try.ntmps89 (by simp (disch:=omega) only [seval,go_sem,cnd,intV,shV,convV,strV,List.replicate,l_2,l_1];rfl) (by simp (disch:=omega) only [seval,go_sem,cnd,intV,shV,convV,strV,l_2,l_1];rfl) ?_
 ((repeat' (first|(with_reducible (first|refine Tri.seq ?_|refine Tri.ret ?_|refine TriD.nil ?_|refine thenQ_n ?_|refine Tri.regionD (by simp only [l_3,l_4];rfl) ?_))|((with_reducible refine isTriD ?_);first|(with_reducible refine TriD.step (by simp only [seval,go_sem];rfl) ?_)|(with_reducible refine TriD.step (by simp (disch:=omega) only [seval,go_sem,cnd,intV,shV,convV,strV];rfl) ?_)|(with_reducible refine TriD.byGuard (by simp only [seval,go_sem];rfl) (by simp only [seval,go_sem];rfl) (by (fail_if_success (with_reducible exact nlT));(fail_if_success (with_reducible exact nlF));exact nlI) (cvI ?_) (cvI ?_)))|(with_reducible refine isCv ?_;intro hc;(try simp only [bls,reduceCtorEq] at hc);(try (exfalso;omega)))|(with_reducible refine isRet ?_;refine RetOK.q rfl rfl (by simp only [seval,go_sem];rfl) (by decide) (by simp only [seval,go_sem];rfl) (by simp only [seval,go_sem];rfl) rfl ?_<;>(try simp only [seval,go_sem])<;>(repeat' (with_reducible apply And.intro))<;>(try rfl))))<;>(try (fail)))
 all_goals (try (first|rfl|(simp;omega)|(simp_all;done)|(simp_all;omega)))
set_option maxRecDepth 100000 in set_option maxHeartbeats 3200000 in
theorem overlap_calls {a b:Bd}:ACalls Try.prog 122 [.agg (rowBd a), .agg (rowBd b)] (.sc (.bool (ovB a b))) []:=by
 unfold ovB
 simp only [rowBd]
 refine of_tri [] [2,3] Try.func122 rfl call122 rfl (by decide) (by decide) rfl rfl Try.ntmps122 (by simp (disch:=omega) only [seval,go_sem,cnd,intV,shV,convV,strV,List.replicate,l_2,l_1];rfl) (by simp (disch:=omega) only [seval,go_sem,cnd,intV,shV,convV,strV,l_2,l_1];rfl) ?_
 ((repeat' (first|(with_reducible (first|refine Tri.seq ?_|refine Tri.ret ?_|refine TriD.nil ?_|refine thenQ_n ?_|refine Tri.regionD (by simp only [l_3,l_4];rfl) ?_))|((with_reducible refine isTriD ?_);first|(with_reducible refine TriD.step (by simp only [seval,go_sem];rfl) ?_)|(with_reducible refine TriD.step (by simp (disch:=omega) only [seval,go_sem,cnd,intV,shV,convV,strV];rfl) ?_)|(with_reducible refine TriD.byGuard (by simp only [seval,go_sem];rfl) (by simp only [seval,go_sem];rfl) (by (fail_if_success (with_reducible exact nlT));(fail_if_success (with_reducible exact nlF));exact nlI) (cvI ?_) (cvI ?_)))|(with_reducible refine isCv ?_;intro hc;(try simp only [bls,reduceCtorEq] at hc);(try (exfalso;omega)))|(with_reducible refine isRet ?_;refine RetOK.q rfl rfl (by simp only [seval,go_sem];rfl) (by decide) (by simp only [seval,go_sem];rfl) (by simp only [seval,go_sem];rfl) rfl ?_<;>(try simp only [seval,go_sem])<;>(repeat' (with_reducible apply And.intro))<;>(try rfl))))<;>(try (fail)))
 all_goals (try (first|rfl|(simp;omega)|(simp_all;done)|(simp_all;omega)))
theorem nameOk_false {s:ByteArray} (h:s.size<1∨16<s.size):nameOk s=false:=by
 unfold nameOk
 rcases h with h|h
 ·rw [decide_eq_false (by omega)];rfl
 ·rw [decide_eq_false (p:=(s.size:Int)≤16) (by omega)];simp
set_option maxRecDepth 100000 in set_option maxHeartbeats 3200000 in
theorem isname_calls {s:ByteArray}:ACalls Try.prog 121 [.sc (.string s)] (.sc (.bool (nameOk s))) []:=by
 by_cases h1:s.size<1∨16<s.size
 ·rw [nameOk_false h1]
  by_cases h2:s.size<1
  ·refine of_tri [] [16,28,32] Try.func121 rfl call121 rfl (by decide) (by decide) rfl rfl Try.ntmps121 (by simp (disch:=omega) only [seval,go_sem,cnd,intV,shV,convV,strV,List.replicate,l_2,l_1];rfl) (by simp (disch:=omega) only [seval,go_sem,cnd,intV,shV,convV,strV,l_2,l_1];rfl) ?_
   ((repeat' (first|(with_reducible (first|refine Tri.seq ?_|refine Tri.ret ?_|refine TriD.nil ?_|refine thenQ_n ?_|refine thenQ_r ?_|refine Tri.regionD (by simp only [l_3,l_4];rfl) ?_))|((with_reducible refine isTriD ?_);first|(with_reducible refine TriD.step (by simp only [seval,go_sem];rfl) ?_)|(with_reducible refine TriD.step (by simp (disch:=omega) only [seval,go_sem,cnd,intV,shV,convV,strV];rfl) ?_))|(with_reducible refine isCond ?_;with_reducible refine Tri.cond (by simp only [seval,go_sem];rfl) (cvI ?_) (cvI ?_))|(with_reducible refine isCv ?_;intro hc;(try simp only [bls,reduceCtorEq] at hc);(try (exfalso;omega)))|(with_reducible refine isRet ?_;refine RetOK.q rfl rfl (by simp only [seval,go_sem];rfl) (by decide) (by simp only [seval,go_sem];rfl) (by simp only [seval,go_sem];rfl) rfl ?_<;>(try simp only [seval,go_sem])<;>(repeat' (with_reducible apply And.intro))<;>(try rfl))))<;>(try (fail)))
  ·refine of_tri [] [16,28,32] Try.func121 rfl call121 rfl (by decide) (by decide) rfl rfl Try.ntmps121 (by simp (disch:=omega) only [seval,go_sem,cnd,intV,shV,convV,strV,List.replicate,l_2,l_1];rfl) (by simp (disch:=omega) only [seval,go_sem,cnd,intV,shV,convV,strV,l_2,l_1];rfl) ?_
   ((repeat' (first|(with_reducible (first|refine Tri.seq ?_|refine Tri.ret ?_|refine TriD.nil ?_|refine thenQ_n ?_|refine thenQ_r ?_|refine Tri.regionD (by simp only [l_3,l_4];rfl) ?_))|((with_reducible refine isTriD ?_);first|(with_reducible refine TriD.step (by simp only [seval,go_sem];rfl) ?_)|(with_reducible refine TriD.step (by simp (disch:=omega) only [seval,go_sem,cnd,intV,shV,convV,strV];rfl) ?_))|(with_reducible refine isCond ?_;with_reducible refine Tri.cond (by simp only [seval,go_sem];rfl) (cvI ?_) (cvI ?_))|(with_reducible refine isCv ?_;intro hc;(try simp only [bls,reduceCtorEq] at hc);(try (exfalso;omega)))|(with_reducible refine isRet ?_;refine RetOK.q rfl rfl (by simp only [seval,go_sem];rfl) (by decide) (by simp only [seval,go_sem];rfl) (by simp only [seval,go_sem];rfl) rfl ?_<;>(try simp only [seval,go_sem])<;>(repeat' (with_reducible apply And.intro))<;>(try rfl))))<;>(try (fail)))
 have hsz:=bytesS_len s
 obtain ⟨z,hz⟩:=get_lt (l:=bytesS s) (k:=0) (by omega)
 have hi:=index_str (s:=s) (i:=0) (by omega) hz
 have e:nameOk s=(lowC z&&(bytesS s).all chrOk):=by
  unfold nameOk
  rw [decide_eq_true (by omega),decide_eq_true (by omega),hz];rfl
 rw [e]
 cases h3:lowC z with
 | false=>
   simp only [Bool.false_and]
   refine of_tri [] [16,28,32] Try.func121 rfl call121 rfl (by decide) (by decide) rfl rfl Try.ntmps121 (by simp (disch:=omega) only [seval,go_sem,cnd,intV,shV,convV,strV,List.replicate,l_2,l_1];rfl) (by simp (disch:=omega) only [seval,go_sem,cnd,intV,shV,convV,strV,l_2,l_1];rfl) ?_
   (all_goals (try have hZ:=(And.intro hi h3));(repeat' (first|(with_reducible (first|refine Tri.seq ?_|refine Tri.ret ?_|refine TriD.nil ?_|refine thenQ_n ?_|refine thenQ_r ?_|refine Tri.regionD (by simp only [l_3,l_4];rfl) ?_))|((with_reducible refine isTriD ?_);first|(with_reducible refine TriD.step (by simp only [seval,go_sem,hZ];rfl) ?_)|((with_reducible refine isCallD ?_);((with_reducible (refine TriD.dE (by simp only [seval,go_sem,hZ];rfl) (by simp only [seval,go_sem,hZ];rfl) ?_));refine CallK.c [] (lowc_calls) (by simp only [seval,go_sem,hZ];rfl) ?_))|(with_reducible refine TriD.step (by simp (disch:=omega) only [seval,go_sem,cnd,intV,shV,convV,strV,hZ];rfl) ?_))|(with_reducible refine isCond ?_;with_reducible refine Tri.cond (by simp only [seval,go_sem,hZ];rfl) (cvI ?_) (cvI ?_))|(with_reducible refine isCv ?_;intro hc;(try simp only [bls,reduceCtorEq] at hc);(try (exfalso;omega)))|(with_reducible refine isRet ?_;refine RetOK.q rfl rfl (by simp only [seval,go_sem];rfl) (by decide) (by simp only [seval,go_sem];rfl) (by simp only [seval,go_sem];rfl) rfl ?_<;>(try simp only [seval,go_sem])<;>(repeat' (with_reducible apply And.intro))<;>(try rfl))))<;>(try (fail));all_goals (try clear hZ))
 | true=>
   simp only [Bool.true_and]
   refine of_tri [] [16,28,32] Try.func121 rfl call121 rfl (by decide) (by decide) rfl rfl Try.ntmps121 (by simp (disch:=omega) only [seval,go_sem,cnd,intV,shV,convV,strV,List.replicate,l_2,l_1];rfl) (by simp (disch:=omega) only [seval,go_sem,cnd,intV,shV,convV,strV,l_2,l_1];rfl) ?_
   (all_goals (try have hZ:=(And.intro hi h3));(repeat' (first|(with_reducible (first|refine Tri.seq ?_|refine Tri.block ?_|refine Tri.skip ?_|refine TriD.nil ?_|refine thenQ_n ?_|refine Tri.regionD (by simp only [l_3,l_4];rfl) ?_))|((with_reducible refine isTriD ?_);first|(with_reducible refine TriD.step (by simp only [seval,go_sem,hZ];rfl) ?_)|((with_reducible refine isCallD ?_);((with_reducible (refine TriD.dE (by simp only [seval,go_sem,hZ];rfl) (by simp only [seval,go_sem,hZ];rfl) ?_));refine CallK.c [] (lowc_calls) (by simp only [seval,go_sem,hZ];rfl) ?_))|(with_reducible refine TriD.step (by simp (disch:=omega) only [seval,go_sem,cnd,intV,shV,convV,strV,hZ];rfl) ?_))|(with_reducible refine isCond ?_;with_reducible refine Tri.cond (by simp only [seval,go_sem,hZ];rfl) (cvI ?_) (cvI ?_))|(with_reducible refine isCv ?_;intro hc;(try simp only [bls,reduceCtorEq] at hc);(try (exfalso;omega)))))<;>(try (fail));all_goals (try clear hZ))
   (with_reducible refine Tri.loopU (fun (k:Nat)=>[(21, .sc (.int .i64 k)),(2, .any),(3, .any),(4, .any),(22, .any),(23, .any),(24, .any),(25, .any),(26, .any),(27, .any),(28, .any),(29, .any),(30, .any),(31, .any),(32, .any),(33, .any),(34, .any),(35, .any),(36, .any),(37, .any),(38, .any),(39, .any),(40, .any),(41, .any),(42, .any),(43, .any)]) (fun (k:Nat)=>[(28, .dead),(32, .dead)]) (fun (k:Nat)=>k≤s.size∧((bytesS s).drop k).all chrOk=(bytesS s).all chrOk) (fun (k:Nat)=>s.size-k) (0) (⟨Nat.zero_le _,rfl⟩) (by intro _;simp (disch:=omega) only [seval,go_sem,cnd,intV,shV,convV,strV];rfl) (by intro _;simp (disch:=omega) only [seval,go_sem,cnd,intV,shV,convV,strV];rfl) (by (refine leQL_spec ?_);(try simp only [seval,go_sem]);done) (by (refine leQH_spec ?_);(try simp only [seval,go_sem]);done) (fun k hI=>?_))
   obtain ⟨hk,hf⟩:=hI
   by_cases hlt:k<s.size
   ·obtain ⟨y,hy⟩:=get_lt (l:=bytesS s) (k:=k) (by omega)
    have hiy:=index_str (s:=s) (i:=k) (by omega) hy
    rw [drop_get hy,List.all_cons,chrOk] at hf
    cases c1:lowC y<;>cases c2:digC y<;>cases c3:(y==45)<;>cases c4:(y==46)<;>simp only [c1,c2,c3,c4,Bool.or_false,Bool.or_true,Bool.false_or,Bool.true_or,Bool.false_and,Bool.true_and] at hf<;>simp only [beq_iff_eq,beq_eq_false_iff_ne,ne_eq] at c3 c4
    all_goals (try (exfalso;omega))
    all_goals ((repeat' (first|(with_reducible (first|refine Tri.seq ?_|refine Tri.block ?_|refine Tri.skip ?_|refine Tri.ret ?_|refine TriD.nil ?_|refine thenQ_n ?_|refine thenQ_r ?_|refine inBlockQ_n ?_|refine inBlockQ_r ?_|refine loopQ_n ?_|refine loopQ_r ?_|refine Tri.regionD (by simp only [l_3,l_4];rfl) ?_))|((with_reducible refine isTriD ?_);first|(with_reducible refine TriD.step (by simp only [seval,go_sem,hiy,c1,c2];rfl) ?_)|((with_reducible refine isCallD ?_);((with_reducible (refine TriD.dE (by simp only [seval,go_sem,hiy,c1,c2];rfl) (by simp only [seval,go_sem,hiy,c1,c2];rfl) ?_));first|refine CallK.c [] (lowc_calls) (by simp only [seval,go_sem,hiy,c1,c2];rfl) ?_|refine CallK.c [] (digc_calls) (by simp only [seval,go_sem,hiy,c1,c2];rfl) ?_))|(with_reducible refine TriD.step (by simp (disch:=omega) only [seval,go_sem,cnd,intV,shV,convV,strV,hiy,c1,c2];rfl) ?_))|(with_reducible refine isCond ?_;with_reducible refine Tri.cond (by simp only [seval,go_sem,hiy,c1,c2];rfl) (cvI ?_) (cvI ?_))|(with_reducible refine isCv ?_;intro hc;(try simp only [bls,reduceCtorEq] at hc);(try (exfalso;omega)))|(with_reducible refine isRet ?_;refine RetOK.q rfl rfl (by simp only [seval,go_sem];rfl) (by decide) (by simp only [seval,go_sem];rfl) (by simp only [seval,go_sem];rfl) rfl ?_<;>(try simp only [seval,go_sem])<;>(repeat' (with_reducible apply And.intro))<;>(try rfl))))<;>(try ((with_reducible assumption))))
    all_goals (try (refine isNext (k+1) (by (refine leQL_spec ?_);(try simp only [seval,go_sem]);first|((repeat' (with_reducible apply And.intro))<;>first|rfl);done) (by (refine leQH_spec ?_);(try simp only [seval,go_sem]);done) ?_ ?_<;>(try (omega))))
    all_goals (try (first|(exfalso;omega)|exact ⟨by omega,hf⟩|(exact hf)|(exact hf.symm)))
   ·rw [List.drop_eq_nil_of_le (by omega)] at hf
    rw [← hf]
    ((repeat' (first|(with_reducible (first|refine Tri.seq ?_|refine Tri.exit ?_|refine Tri.ret ?_|refine TriD.nil ?_|refine thenQ_n ?_|refine thenQ_e ?_|refine inBlockQ_e ?_|refine loopQ_e ?_|refine Tri.regionD (by simp only [l_3,l_4];rfl) ?_))|((with_reducible refine isTriD ?_);first|(with_reducible refine TriD.step (by simp only [seval,go_sem];rfl) ?_)|(with_reducible refine TriD.step (by simp (disch:=omega) only [seval,go_sem,cnd,intV,shV,convV,strV];rfl) ?_))|(with_reducible refine isCond ?_;with_reducible refine Tri.cond (by simp only [seval,go_sem];rfl) (cvI ?_) (cvI ?_))|(with_reducible refine isCv ?_;intro hc;(try simp only [bls,reduceCtorEq] at hc);(try (exfalso;omega)))|(with_reducible refine isRet ?_;refine RetOK.q rfl rfl (by simp only [seval,go_sem];rfl) (by decide) (by simp only [seval,go_sem];rfl) (by simp only [seval,go_sem];rfl) rfl ?_<;>(try simp only [seval,go_sem])<;>(repeat' (with_reducible apply And.intro))<;>(try rfl))))<;>(try (fail)))
set_option maxRecDepth 100000 in set_option maxHeartbeats 3200000 in
theorem risname_calls {s:ByteArray}:ACalls Try.prog 103 [.sc (.string s)] (.sc (.bool (nameOk s))) []:=by
 by_cases h1:s.size<1∨16<s.size
 ·rw [nameOk_false h1]
  by_cases h2:s.size<1
  ·refine of_tri [] [15,27,33] Try.func103 rfl call103 rfl (by decide) (by decide) rfl rfl Try.ntmps103 (by simp (disch:=omega) only [seval,go_sem,cnd,intV,shV,convV,strV,List.replicate,l_2,l_1];rfl) (by simp (disch:=omega) only [seval,go_sem,cnd,intV,shV,convV,strV,l_2,l_1];rfl) ?_
   ((repeat' (first|(with_reducible (first|refine Tri.seq ?_|refine Tri.ret ?_|refine TriD.nil ?_|refine thenQ_n ?_|refine thenQ_r ?_|refine Tri.regionD (by simp only [l_3,l_4];rfl) ?_))|((with_reducible refine isTriD ?_);first|(with_reducible refine TriD.step (by simp only [seval,go_sem];rfl) ?_)|(with_reducible refine TriD.step (by simp (disch:=omega) only [seval,go_sem,cnd,intV,shV,convV,strV];rfl) ?_))|(with_reducible refine isCond ?_;with_reducible refine Tri.cond (by simp only [seval,go_sem];rfl) (cvI ?_) (cvI ?_))|(with_reducible refine isCv ?_;intro hc;(try simp only [bls,reduceCtorEq] at hc);(try (exfalso;omega)))|(with_reducible refine isRet ?_;refine RetOK.q rfl rfl (by simp only [seval,go_sem];rfl) (by decide) (by simp only [seval,go_sem];rfl) (by simp only [seval,go_sem];rfl) rfl ?_<;>(try simp only [seval,go_sem])<;>(repeat' (with_reducible apply And.intro))<;>(try rfl))))<;>(try (fail)))
  ·refine of_tri [] [15,27,33] Try.func103 rfl call103 rfl (by decide) (by decide) rfl rfl Try.ntmps103 (by simp (disch:=omega) only [seval,go_sem,cnd,intV,shV,convV,strV,List.replicate,l_2,l_1];rfl) (by simp (disch:=omega) only [seval,go_sem,cnd,intV,shV,convV,strV,l_2,l_1];rfl) ?_
   ((repeat' (first|(with_reducible (first|refine Tri.seq ?_|refine Tri.ret ?_|refine TriD.nil ?_|refine thenQ_n ?_|refine thenQ_r ?_|refine Tri.regionD (by simp only [l_3,l_4];rfl) ?_))|((with_reducible refine isTriD ?_);first|(with_reducible refine TriD.step (by simp only [seval,go_sem];rfl) ?_)|(with_reducible refine TriD.step (by simp (disch:=omega) only [seval,go_sem,cnd,intV,shV,convV,strV];rfl) ?_))|(with_reducible refine isCond ?_;with_reducible refine Tri.cond (by simp only [seval,go_sem];rfl) (cvI ?_) (cvI ?_))|(with_reducible refine isCv ?_;intro hc;(try simp only [bls,reduceCtorEq] at hc);(try (exfalso;omega)))|(with_reducible refine isRet ?_;refine RetOK.q rfl rfl (by simp only [seval,go_sem];rfl) (by decide) (by simp only [seval,go_sem];rfl) (by simp only [seval,go_sem];rfl) rfl ?_<;>(try simp only [seval,go_sem])<;>(repeat' (with_reducible apply And.intro))<;>(try rfl))))<;>(try (fail)))
 have hsz:=bytesS_len s
 obtain ⟨z,hz⟩:=get_lt (l:=bytesS s) (k:=0) (by omega)
 have hi:=index_str (s:=s) (i:=0) (by omega) hz
 have e:nameOk s=(lowC z&&(bytesS s).all chrOk):=by
  unfold nameOk
  rw [decide_eq_true (by omega),decide_eq_true (by omega),hz];rfl
 rw [e]
 cases h3:lowC z with
 | false=>
   simp only [Bool.false_and]
   unfold lowC at h3
   refine of_tri [] [15,27,33] Try.func103 rfl call103 rfl (by decide) (by decide) rfl rfl Try.ntmps103 (by simp (disch:=omega) only [seval,go_sem,cnd,intV,shV,convV,strV,List.replicate,l_2,l_1];rfl) (by simp (disch:=omega) only [seval,go_sem,cnd,intV,shV,convV,strV,l_2,l_1];rfl) ?_
   (all_goals (try have hZ:=(And.intro hi h3));(repeat' (first|(with_reducible (first|refine Tri.seq ?_|refine Tri.ret ?_|refine TriD.nil ?_|refine thenQ_n ?_|refine thenQ_r ?_|refine Tri.regionD (by simp only [l_3,l_4];rfl) ?_))|((with_reducible refine isTriD ?_);first|(with_reducible refine TriD.step (by simp only [seval,go_sem,hZ];rfl) ?_)|((with_reducible refine isCallD ?_);((with_reducible (refine TriD.dE (by simp only [seval,go_sem,hZ];rfl) (by simp only [seval,go_sem,hZ];rfl) ?_));refine CallK.c [] (betw_calls) (by simp only [seval,go_sem,hZ];rfl) ?_))|(with_reducible refine TriD.step (by simp (disch:=omega) only [seval,go_sem,cnd,intV,shV,convV,strV,hZ];rfl) ?_))|(with_reducible refine isCond ?_;with_reducible refine Tri.cond (by simp only [seval,go_sem,hZ];rfl) (cvI ?_) (cvI ?_))|(with_reducible refine isCv ?_;intro hc;(try simp only [bls,reduceCtorEq] at hc);(try (exfalso;omega)))|(with_reducible refine isRet ?_;refine RetOK.q rfl rfl (by simp only [seval,go_sem];rfl) (by decide) (by simp only [seval,go_sem];rfl) (by simp only [seval,go_sem];rfl) rfl ?_<;>(try simp only [seval,go_sem])<;>(repeat' (with_reducible apply And.intro))<;>(try rfl))))<;>(try (fail));all_goals (try clear hZ))
 | true=>
   simp only [Bool.true_and]
   unfold lowC at h3
   refine of_tri [] [15,27,33] Try.func103 rfl call103 rfl (by decide) (by decide) rfl rfl Try.ntmps103 (by simp (disch:=omega) only [seval,go_sem,cnd,intV,shV,convV,strV,List.replicate,l_2,l_1];rfl) (by simp (disch:=omega) only [seval,go_sem,cnd,intV,shV,convV,strV,l_2,l_1];rfl) ?_
   (all_goals (try have hZ:=(And.intro hi h3));(repeat' (first|(with_reducible (first|refine Tri.seq ?_|refine Tri.block ?_|refine Tri.skip ?_|refine TriD.nil ?_|refine thenQ_n ?_|refine Tri.regionD (by simp only [l_3,l_4];rfl) ?_))|((with_reducible refine isTriD ?_);first|(with_reducible refine TriD.step (by simp only [seval,go_sem,hZ];rfl) ?_)|((with_reducible refine isCallD ?_);((with_reducible (refine TriD.dE (by simp only [seval,go_sem,hZ];rfl) (by simp only [seval,go_sem,hZ];rfl) ?_));refine CallK.c [] (betw_calls) (by simp only [seval,go_sem,hZ];rfl) ?_))|(with_reducible refine TriD.step (by simp (disch:=omega) only [seval,go_sem,cnd,intV,shV,convV,strV,hZ];rfl) ?_))|(with_reducible refine isCond ?_;with_reducible refine Tri.cond (by simp only [seval,go_sem,hZ];rfl) (cvI ?_) (cvI ?_))|(with_reducible refine isCv ?_;intro hc;(try simp only [bls,reduceCtorEq] at hc);(try (exfalso;omega)))))<;>(try (fail));all_goals (try clear hZ))
   (with_reducible refine Tri.loopU (fun (k:Nat)=>[(3, .sc (.int .i64 k)),(2, .any),(18, .any),(19, .any),(20, .any),(21, .any),(22, .any),(23, .any),(24, .any),(25, .any),(26, .any),(27, .any),(28, .any),(29, .any),(30, .any),(31, .any),(32, .any),(33, .any),(34, .any),(35, .any),(36, .any),(37, .any),(38, .any),(39, .any),(40, .any),(41, .any),(42, .any),(43, .any),(44, .any),(45, .any),(46, .any),(47, .any)]) (fun (k:Nat)=>[(27, .dead),(33, .dead)]) (fun (k:Nat)=>k≤s.size∧((bytesS s).drop k).all chrOk=(bytesS s).all chrOk) (fun (k:Nat)=>s.size-k) (0) (⟨Nat.zero_le _,rfl⟩) (by intro _;simp (disch:=omega) only [seval,go_sem,cnd,intV,shV,convV,strV];rfl) (by intro _;simp (disch:=omega) only [seval,go_sem,cnd,intV,shV,convV,strV];rfl) (by (refine leQL_spec ?_);(try simp only [seval,go_sem]);done) (by (refine leQH_spec ?_);(try simp only [seval,go_sem]);done) (fun k hI=>?_))
   obtain ⟨hk,hf⟩:=hI
   by_cases hlt:k<s.size
   ·obtain ⟨y,hy⟩:=get_lt (l:=bytesS s) (k:=k) (by omega)
    have hiy:=index_str (s:=s) (i:=k) (by omega) hy
    rw [drop_get hy,List.all_cons,chrOk] at hf
    cases c1:lowC y<;>cases c2:digC y<;>cases c3:(y==45)<;>cases c4:(y==46)<;>simp only [c1,c2,c3,c4,Bool.or_false,Bool.or_true,Bool.false_or,Bool.true_or,Bool.false_and,Bool.true_and] at hf<;>simp only [beq_iff_eq,beq_eq_false_iff_ne,ne_eq] at c3 c4
    all_goals (try (exfalso;omega))
    all_goals unfold lowC at c1
    all_goals unfold digC at c2
    all_goals ((repeat' (first|(with_reducible (first|refine Tri.seq ?_|refine Tri.block ?_|refine Tri.skip ?_|refine Tri.ret ?_|refine TriD.nil ?_|refine thenQ_n ?_|refine thenQ_r ?_|refine inBlockQ_n ?_|refine inBlockQ_r ?_|refine loopQ_n ?_|refine loopQ_r ?_|refine Tri.regionD (by simp only [l_3,l_4];rfl) ?_))|((with_reducible refine isTriD ?_);first|(with_reducible refine TriD.step (by simp only [seval,go_sem,hiy,c1,c2];rfl) ?_)|((with_reducible refine isCallD ?_);((with_reducible (refine TriD.dE (by simp only [seval,go_sem,hiy,c1,c2];rfl) (by simp only [seval,go_sem,hiy,c1,c2];rfl) ?_));refine CallK.c [] (betw_calls) (by simp only [seval,go_sem,hiy,c1,c2];rfl) ?_))|(with_reducible refine TriD.step (by simp (disch:=omega) only [seval,go_sem,cnd,intV,shV,convV,strV,hiy,c1,c2];rfl) ?_))|(with_reducible refine isCond ?_;with_reducible refine Tri.cond (by simp only [seval,go_sem,hiy,c1,c2];rfl) (cvI ?_) (cvI ?_))|(with_reducible refine isCv ?_;intro hc;(try simp only [bls,reduceCtorEq] at hc);(try (exfalso;omega)))|(with_reducible refine isRet ?_;refine RetOK.q rfl rfl (by simp only [seval,go_sem];rfl) (by decide) (by simp only [seval,go_sem];rfl) (by simp only [seval,go_sem];rfl) rfl ?_<;>(try simp only [seval,go_sem])<;>(repeat' (with_reducible apply And.intro))<;>(try rfl))))<;>(try ((with_reducible assumption))))
    all_goals (try (refine isNext (k+1) (by (refine leQL_spec ?_);(try simp only [seval,go_sem]);first|((repeat' (with_reducible apply And.intro))<;>first|rfl);done) (by (refine leQH_spec ?_);(try simp only [seval,go_sem]);done) ?_ ?_<;>(try (omega))))
    all_goals (try (first|(exfalso;omega)|exact ⟨by omega,hf⟩|(exact hf)|(exact hf.symm)))
   ·rw [List.drop_eq_nil_of_le (by omega)] at hf
    rw [← hf]
    ((repeat' (first|(with_reducible (first|refine Tri.seq ?_|refine Tri.exit ?_|refine Tri.ret ?_|refine TriD.nil ?_|refine thenQ_n ?_|refine thenQ_e ?_|refine inBlockQ_e ?_|refine loopQ_e ?_|refine Tri.regionD (by simp only [l_3,l_4];rfl) ?_))|((with_reducible refine isTriD ?_);first|(with_reducible refine TriD.step (by simp only [seval,go_sem];rfl) ?_)|(with_reducible refine TriD.step (by simp (disch:=omega) only [seval,go_sem,cnd,intV,shV,convV,strV];rfl) ?_))|(with_reducible refine isCond ?_;with_reducible refine Tri.cond (by simp only [seval,go_sem];rfl) (cvI ?_) (cvI ?_))|(with_reducible refine isCv ?_;intro hc;(try simp only [bls,reduceCtorEq] at hc);(try (exfalso;omega)))|(with_reducible refine isRet ?_;refine RetOK.q rfl rfl (by simp only [seval,go_sem];rfl) (by decide) (by simp only [seval,go_sem];rfl) (by simp only [seval,go_sem];rfl) rfl ?_<;>(try simp only [seval,go_sem])<;>(repeat' (with_reducible apply And.intro))<;>(try rfl))))<;>(try (fail)))
end Go.Proofs.Ytmgodadmafcliaa
