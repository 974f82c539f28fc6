/- Directory: the walks of the small functions of the program and of the reference; names. -/
import Derived.Test.YtmgodadmafcliaaGreatZChB
set_option linter.unusedSimpArgs false
set_option linter.unusedVariables false
namespace Go.Proofs.YtmgodadmafcliaaGreat
open Go.RowKit Go.Avm
theorem str_get {s:ByteArray} {i:Nat} {z:Int} (h:(bytesS s)[i]? = some z): ∃ b:UInt8,s[i]? = some b∧z=(b.toNat:Int):=by
 rw [bytesS,List.getElem?_map] at h
 cases hb:s.data.toList[i]? with
 | none=>rw [hb] at h;simp at h
 | some b=>
   rw [hb] at h
   simp only [Option.map_some,l_5] at h
   have hlt:=(List.getElem?_eq_some_iff.1 hb).1
   refine ⟨b,?_,h.symm⟩
   rw [Array.length_toList] at hlt
   have h2:i<s.size:=hlt
   rw [getElem?_pos s i h2]
   rw [Array.getElem?_toList,Array.getElem?_eq_getElem hlt] at hb
   exact hb
theorem index_str {s:ByteArray} {i z:Int} (h0:0≤i) (h:(bytesS s)[i.toNat]? = some z):pureRun Tryz.prog (Instr.index 9 (.string s) (.int .i64 i))=some (.int .u8 z):=by
 obtain ⟨b,hb,rfl⟩:=str_get h
 have hu:pureRun Tryz.prog (underlying 9)=some .string:=pureRun_underlying Tryz.underlying9
 unfold Instr.index
 simp only [asIntOf,pureRun_bind,pureRun_pure,Option.bind_some,hu,h0,if_true,hb]
set_option maxRecDepth 100000 in set_option maxHeartbeats 3200000 in
theorem betw_calls {c a b:Int}:ACalls Tryz.prog 67 [.sc (.int .u8 c), .sc (.int .u8 a), .sc (.int .u8 b)] (.sc (.bool (decide (a≤c)&&decide (c≤b)))) []:=by
 refine of_tri [] [] Tryz.func67 rfl call67 rfl (by decide) (by decide) rfl rfl Tryz.ntmps67 (by simp (disch:=omega) only [seval,go_sem,cnd,intV,shV,convV,strV,List.replicate,l_2,l_1];rfl) (by simp (disch:=omega) only [seval,go_sem,cnd,intV,shV,convV,strV,l_2,l_1];rfl) ?_
 ((repeat' (first|(with_reducible (first|refine Tri.seq ?_|refine Tri.ret ?_|refine TriD.nil ?_|refine thenQ_n ?_|refine Tri.regionD (by simp only [l_3,l_4];rfl) ?_))|((with_reducible refine isTriD ?_);(with_reducible first|refine TriD.step (by simp only [seval,go_sem];rfl) ?_|refine TriD.step (by simp (disch:=omega) only [seval,go_sem,cnd,intV,shV,convV,strV];rfl) ?_|refine TriD.byGuard (by simp only [seval,go_sem];rfl) (by simp only [seval,go_sem];rfl) (by (fail_if_success (with_reducible exact nlT));(fail_if_success (with_reducible exact nlF));exact nlI) (cvI ?_) (cvI ?_)))|(with_reducible refine isCv ?_;intro hc;(try simp only [bls,reduceCtorEq] at hc);(try (exfalso;omega)))|(with_reducible refine isRet ?_;refine RetOK.q rfl rfl (by simp only [seval,go_sem];rfl) (by decide) (by simp only [seval,go_sem];rfl) (by simp only [seval,go_sem];rfl) rfl ?_<;>(try simp only [seval,go_sem])<;>(repeat' (with_reducible apply And.intro))<;>(try rfl))))<;>(try (fail)))
 all_goals (try (first|rfl|(simp;omega)|(simp_all;done)|(simp_all;omega)))
set_option maxRecDepth 100000 in set_option maxHeartbeats 3200000 in
theorem rholds_calls {f t c:Int}:ACalls Tryz.prog 69 [.sc (.int .i64 f), .sc (.int .i64 t), .sc (.int .i64 c)] (.sc (.bool (holdsB f t c))) []:=by
 unfold holdsB
 refine of_tri [] [] Tryz.func69 rfl call69 rfl (by decide) (by decide) rfl rfl Tryz.ntmps69 (by simp (disch:=omega) only [seval,go_sem,cnd,intV,shV,convV,strV,List.replicate,l_2,l_1];rfl) (by simp (disch:=omega) only [seval,go_sem,cnd,intV,shV,convV,strV,l_2,l_1];rfl) ?_
 ((repeat' (first|(with_reducible (first|refine Tri.seq ?_|refine Tri.ret ?_|refine TriD.nil ?_|refine thenQ_n ?_|refine Tri.regionD (by simp only [l_3,l_4];rfl) ?_))|((with_reducible refine isTriD ?_);(with_reducible first|refine TriD.step (by simp only [seval,go_sem];rfl) ?_|refine TriD.step (by simp (disch:=omega) only [seval,go_sem,cnd,intV,shV,convV,strV];rfl) ?_|refine TriD.byGuard (by simp only [seval,go_sem];rfl) (by simp only [seval,go_sem];rfl) (by (fail_if_success (with_reducible exact nlT));(fail_if_success (with_reducible exact nlF));exact nlI) (cvI ?_) (cvI ?_)))|(with_reducible refine isCv ?_;intro hc;(try simp only [bls,reduceCtorEq] at hc);(try (exfalso;omega)))|(with_reducible refine isRet ?_;refine RetOK.q rfl rfl (by simp only [seval,go_sem];rfl) (by decide) (by simp only [seval,go_sem];rfl) (by simp only [seval,go_sem];rfl) rfl ?_<;>(try simp only [seval,go_sem])<;>(repeat' (with_reducible apply And.intro))<;>(try rfl))))<;>(try (fail)))
 all_goals (try (first|rfl|(simp;omega)|(simp_all;done)|(simp_all;omega)))
theorem nameOk_false {s:ByteArray} (h:s.size<1∨16<s.size):nameOk s=false:=by
 unfold nameOk
 rcases h with h|h
 ·rw [decide_eq_false (by omega)];rfl
 ·rw [decide_eq_false (p:=(s.size:Int)≤16) (by omega)];simp
set_option maxRecDepth 100000 in set_option maxHeartbeats 3200000 in
theorem risname_calls {s:ByteArray}:ACalls Tryz.prog 40 [.sc (.string s)] (.sc (.bool (nameOk s))) []:=by
 by_cases h1:s.size<1∨16<s.size
 ·rw [nameOk_false h1]
  by_cases h2:s.size<1
  ·refine of_tri [] [15,27,33] Tryz.func40 rfl call40 rfl (by decide) (by decide) rfl rfl Tryz.ntmps40 (by simp (disch:=omega) only [seval,go_sem,cnd,intV,shV,convV,strV,List.replicate,l_2,l_1];rfl) (by simp (disch:=omega) only [seval,go_sem,cnd,intV,shV,convV,strV,l_2,l_1];rfl) ?_
   ((repeat' (first|(with_reducible (first|refine Tri.seq ?_|refine Tri.ret ?_|refine TriD.nil ?_|refine thenQ_n ?_|refine thenQ_r ?_|refine Tri.regionD (by simp only [l_3,l_4];rfl) ?_))|((with_reducible refine isTriD ?_);(with_reducible first|refine TriD.step (by simp only [seval,go_sem];rfl) ?_|refine TriD.step (by simp (disch:=omega) only [seval,go_sem,cnd,intV,shV,convV,strV];rfl) ?_))|(with_reducible refine isCond ?_;with_reducible refine Tri.cond (by simp only [seval,go_sem];rfl) (cvI ?_) (cvI ?_))|(with_reducible refine isCv ?_;intro hc;(try simp only [bls,reduceCtorEq] at hc);(try (exfalso;omega)))|(with_reducible refine isRet ?_;refine RetOK.q rfl rfl (by simp only [seval,go_sem];rfl) (by decide) (by simp only [seval,go_sem];rfl) (by simp only [seval,go_sem];rfl) rfl ?_<;>(try simp only [seval,go_sem])<;>(repeat' (with_reducible apply And.intro))<;>(try rfl))))<;>(try (fail)))
  ·refine of_tri [] [15,27,33] Tryz.func40 rfl call40 rfl (by decide) (by decide) rfl rfl Tryz.ntmps40 (by simp (disch:=omega) only [seval,go_sem,cnd,intV,shV,convV,strV,List.replicate,l_2,l_1];rfl) (by simp (disch:=omega) only [seval,go_sem,cnd,intV,shV,convV,strV,l_2,l_1];rfl) ?_
   ((repeat' (first|(with_reducible (first|refine Tri.seq ?_|refine Tri.ret ?_|refine TriD.nil ?_|refine thenQ_n ?_|refine thenQ_r ?_|refine Tri.regionD (by simp only [l_3,l_4];rfl) ?_))|((with_reducible refine isTriD ?_);(with_reducible first|refine TriD.step (by simp only [seval,go_sem];rfl) ?_|refine TriD.step (by simp (disch:=omega) only [seval,go_sem,cnd,intV,shV,convV,strV];rfl) ?_))|(with_reducible refine isCond ?_;with_reducible refine Tri.cond (by simp only [seval,go_sem];rfl) (cvI ?_) (cvI ?_))|(with_reducible refine isCv ?_;intro hc;(try simp only [bls,reduceCtorEq] at hc);(try (exfalso;omega)))|(with_reducible refine isRet ?_;refine RetOK.q rfl rfl (by simp only [seval,go_sem];rfl) (by decide) (by simp only [seval,go_sem];rfl) (by simp only [seval,go_sem];rfl) rfl ?_<;>(try simp only [seval,go_sem])<;>(repeat' (with_reducible apply And.intro))<;>(try rfl))))<;>(try (fail)))
 have hsz:=bytesS_len s
 obtain ⟨z,hz⟩:=get_lt (l:=bytesS s) (k:=0) (by omega)
 have hi:=index_str (s:=s) (i:=0) (by omega) hz
 have e:nameOk s=(lowC z&&(bytesS s).all chrOk):=by
  unfold nameOk
  rw [decide_eq_true (by omega),decide_eq_true (by omega),hz];rfl
 rw [e]
 cases h3:lowC z with
 | false=>
   simp only [Bool.false_and]
   unfold lowC at h3
   refine of_tri [] [15,27,33] Tryz.func40 rfl call40 rfl (by decide) (by decide) rfl rfl Tryz.ntmps40 (by simp (disch:=omega) only [seval,go_sem,cnd,intV,shV,convV,strV,List.replicate,l_2,l_1];rfl) (by simp (disch:=omega) only [seval,go_sem,cnd,intV,shV,convV,strV,l_2,l_1];rfl) ?_
   (all_goals (try have hZ:=(And.intro hi h3));(repeat' (first|(with_reducible (first|refine Tri.seq ?_|refine Tri.ret ?_|refine TriD.nil ?_|refine thenQ_n ?_|refine thenQ_r ?_|refine Tri.regionD (by simp only [l_3,l_4];rfl) ?_))|((with_reducible refine isTriD ?_);first|(with_reducible refine TriD.step (by simp only [seval,go_sem,hZ];rfl) ?_)|((with_reducible refine isCallD ?_);((with_reducible (refine TriD.dE (by simp only [seval,go_sem,hZ];rfl) (by simp only [seval,go_sem,hZ];rfl) ?_));refine CallK.c [] (betw_calls) (by simp only [seval,go_sem,hZ];rfl) ?_))|(with_reducible refine TriD.step (by simp (disch:=omega) only [seval,go_sem,cnd,intV,shV,convV,strV,hZ];rfl) ?_))|(with_reducible refine isCond ?_;with_reducible refine Tri.cond (by simp only [seval,go_sem,hZ];rfl) (cvI ?_) (cvI ?_))|(with_reducible refine isCv ?_;intro hc;(try simp only [bls,reduceCtorEq] at hc);(try (exfalso;omega)))|(with_reducible refine isRet ?_;refine RetOK.q rfl rfl (by simp only [seval,go_sem];rfl) (by decide) (by simp only [seval,go_sem];rfl) (by simp only [seval,go_sem];rfl) rfl ?_<;>(try simp only [seval,go_sem])<;>(repeat' (with_reducible apply And.intro))<;>(try rfl))))<;>(try (fail));all_goals (try clear hZ))
 | true=>
   simp only [Bool.true_and]
   unfold lowC at h3
   refine of_tri [] [15,27,33] Tryz.func40 rfl call40 rfl (by decide) (by decide) rfl rfl Tryz.ntmps40 (by simp (disch:=omega) only [seval,go_sem,cnd,intV,shV,convV,strV,List.replicate,l_2,l_1];rfl) (by simp (disch:=omega) only [seval,go_sem,cnd,intV,shV,convV,strV,l_2,l_1];rfl) ?_
   (all_goals (try have hZ:=(And.intro hi h3));(repeat' (first|(with_reducible (first|refine Tri.seq ?_|refine Tri.block ?_|refine Tri.skip ?_|refine TriD.nil ?_|refine thenQ_n ?_|refine Tri.regionD (by simp only [l_3,l_4];rfl) ?_))|((with_reducible refine isTriD ?_);first|(with_reducible refine TriD.step (by simp only [seval,go_sem,hZ];rfl) ?_)|((with_reducible refine isCallD ?_);((with_reducible (refine TriD.dE (by simp only [seval,go_sem,hZ];rfl) (by simp only [seval,go_sem,hZ];rfl) ?_));refine CallK.c [] (betw_calls) (by simp only [seval,go_sem,hZ];rfl) ?_))|(with_reducible refine TriD.step (by simp (disch:=omega) only [seval,go_sem,cnd,intV,shV,convV,strV,hZ];rfl) ?_))|(with_reducible refine isCond ?_;with_reducible refine Tri.cond (by simp only [seval,go_sem,hZ];rfl) (cvI ?_) (cvI ?_))|(with_reducible refine isCv ?_;intro hc;(try simp only [bls,reduceCtorEq] at hc);(try (exfalso;omega)))))<;>(try (fail));all_goals (try clear hZ))
   (with_reducible refine Tri.loopU (fun (k:Nat)=>[(3,.sc (.int .i64 k)),(2,.any),(18,.any),(19,.any),(20,.any),(21,.any),(22,.any),(23,.any),(24,.any),(25,.any),(26,.any),(27,.any),(28,.any),(29,.any),(30,.any),(31,.any),(32,.any),(33,.any),(34,.any),(35,.any),(36,.any),(37,.any),(38,.any),(39,.any),(40,.any),(41,.any),(42,.any),(43,.any),(44,.any),(45,.any),(46,.any),(47,.any)]) (fun (k:Nat)=>[(27,.dead),(33,.dead)]) (fun (k:Nat)=>k≤s.size∧((bytesS s).drop k).all chrOk=(bytesS s).all chrOk) (fun (k:Nat)=>s.size-k) (0) (⟨Nat.zero_le _,rfl⟩) (by intro _;simp (disch:=omega) only [seval,go_sem,cnd,intV,shV,convV,strV];rfl) (by intro _;simp (disch:=omega) only [seval,go_sem,cnd,intV,shV,convV,strV];rfl) (by (refine leQL_spec ?_);(try simp only [seval,go_sem]);done) (by (refine leQH_spec ?_);(try simp only [seval,go_sem]);done) (fun k hI=>?_))
   obtain ⟨hk,hf⟩:=hI
   by_cases hlt:k<s.size
   ·obtain ⟨y,hy⟩:=get_lt (l:=bytesS s) (k:=k) (by omega)
    have hiy:=index_str (s:=s) (i:=k) (by omega) hy
    rw [drop_get hy,List.all_cons,chrOk] at hf
    cases c1:lowC y<;>cases c2:digC y<;>cases c3:(y==45)<;>cases c4:(y==46)<;>simp only [c1,c2,c3,c4,Bool.or_false,Bool.or_true,Bool.false_or,Bool.true_or,Bool.false_and,Bool.true_and] at hf<;>simp only [beq_iff_eq,beq_eq_false_iff_ne,ne_eq] at c3 c4
    all_goals (try (exfalso;omega))
    all_goals unfold lowC at c1
    all_goals unfold digC at c2
    all_goals ((repeat' (first|(with_reducible (first|refine Tri.seq ?_|refine Tri.block ?_|refine Tri.skip ?_|refine Tri.ret ?_|refine TriD.nil ?_|refine thenQ_n ?_|refine thenQ_r ?_|refine inBlockQ_n ?_|refine inBlockQ_r ?_|refine loopQ_n ?_|refine loopQ_r ?_|refine Tri.regionD (by simp only [l_3,l_4];rfl) ?_))|((with_reducible refine isTriD ?_);first|(with_reducible refine TriD.step (by simp only [seval,go_sem,hiy,c1,c2];rfl) ?_)|((with_reducible refine isCallD ?_);((with_reducible (refine TriD.dE (by simp only [seval,go_sem,hiy,c1,c2];rfl) (by simp only [seval,go_sem,hiy,c1,c2];rfl) ?_));refine CallK.c [] (betw_calls) (by simp only [seval,go_sem,hiy,c1,c2];rfl) ?_))|(with_reducible refine TriD.step (by simp (disch:=omega) only [seval,go_sem,cnd,intV,shV,convV,strV,hiy,c1,c2];rfl) ?_))|(with_reducible refine isCond ?_;with_reducible refine Tri.cond (by simp only [seval,go_sem,hiy,c1,c2];rfl) (cvI ?_) (cvI ?_))|(with_reducible refine isCv ?_;intro hc;(try simp only [bls,reduceCtorEq] at hc);(try (exfalso;omega)))|(with_reducible refine isRet ?_;refine RetOK.q rfl rfl (by simp only [seval,go_sem];rfl) (by decide) (by simp only [seval,go_sem];rfl) (by simp only [seval,go_sem];rfl) rfl ?_<;>(try simp only [seval,go_sem])<;>(repeat' (with_reducible apply And.intro))<;>(try rfl))))<;>(try ((with_reducible assumption))))
    all_goals (try (refine isNext (k+1) (by (refine leQL_spec ?_);(try simp only [seval,go_sem]);first|((repeat' (with_reducible apply And.intro))<;>first|rfl);done) (by (refine leQH_spec ?_);(try simp only [seval,go_sem]);done) ?_ ?_<;>(try (omega))))
    all_goals (try (first|(exfalso;omega)|exact ⟨by omega,hf⟩|(exact hf)|(exact hf.symm)))
   ·rw [List.drop_eq_nil_of_le (by omega)] at hf
    rw [← hf]
    ((repeat' (first|(with_reducible (first|refine Tri.seq ?_|refine Tri.exit ?_|refine Tri.ret ?_|refine TriD.nil ?_|refine thenQ_n ?_|refine thenQ_e ?_|refine inBlockQ_e ?_|refine loopQ_e ?_|refine Tri.regionD (by simp only [l_3,l_4];rfl) ?_))|((with_reducible refine isTriD ?_);(with_reducible first|refine TriD.step (by simp only [seval,go_sem];rfl) ?_|refine TriD.step (by simp (disch:=omega) only [seval,go_sem,cnd,intV,shV,convV,strV];rfl) ?_))|(with_reducible refine isCond ?_;with_reducible refine Tri.cond (by simp only [seval,go_sem];rfl) (cvI ?_) (cvI ?_))|(with_reducible refine isCv ?_;intro hc;(try simp only [bls,reduceCtorEq] at hc);(try (exfalso;omega)))|(with_reducible refine isRet ?_;refine RetOK.q rfl rfl (by simp only [seval,go_sem];rfl) (by decide) (by simp only [seval,go_sem];rfl) (by simp only [seval,go_sem];rfl) rfl ?_<;>(try simp only [seval,go_sem])<;>(repeat' (with_reducible apply And.intro))<;>(try rfl))))<;>(try (fail)))
end Go.Proofs.YtmgodadmafcliaaGreat
/- Directory: the walks of Validate of the program and of the reference. -/
set_option linter.unusedSimpArgs false
set_option linter.unusedVariables false
namespace Go.Proofs.YtmgodadmafcliaaGreat
open Go.RowKit Go.Avm
def prevB (l:List Bd) (k:Nat):Option Bd:=if k=0 then none else l[k-1]?
theorem prevB_succ {vs:List Bd} {k:Nat} {v:Bd} (h:vs[k]? = some v):prevB vs (k+1)=some v:=by simp [prevB,h]
theorem prevB_pos {vs:List Bd} {k:Nat} {u:Bd} (h:0<k) (hu:vs[k-1]? = some u):prevB vs k=some u:=by simp [prevB,hu];omega
theorem prevB_zero (vs:List Bd):prevB vs 0=none:=rfl
def dupAt (l:List Bd) (k:Nat) (b:Bd):Bool:=(l.take k).any (fun a=>a.obj==b.obj&&ovB a b)
end Go.Proofs.YtmgodadmafcliaaGreat
/- Directory: facts about valid bindings (plain). -/
set_option linter.unusedSimpArgs false
set_option linter.unusedVariables false
namespace Go.Proofs.YtmgodadmafcliaaGreat
open Go.RowKit Go.Avm
theorem bl_gt (x y:List UInt8):(!(Op.bytesLess x y||x==y))=Op.bytesLess y x:=by
 rcases bl_total x y with h|h|h
 ·rw [h,bl_asymm h];rfl
 ·subst h;simp [bl_irrefl]
 ·rw [h,bl_asymm h,beq_eq_false_iff_ne.2 (bl_ne h).symm];rfl
theorem valid1_all: ∀ (l:List Bd) (p:Option Bd),valid1 p l=0→ ∀ b∈l,badB b=0
 | [],_,_,b,hb=>by cases hb
 | x::l,p,h,b,hb=>by
   rw [valid1] at h
   by_cases h1:badB x=0
   ·rw [if_neg (by simp [h1])] at h
    split at h
    ·cases h
    ·rcases List.mem_cons.1 hb with rfl|hb
     ·exact h1
     ·exact valid1_all l _ h b hb
   ·rw [if_pos h1] at h;exact absurd h h1
theorem badB_ok {b:Bd} (h:badB b=0):nameOk b.name=true∧1≤b.obj∧1≤b.frm∧0≤b.to∧(b.to=0∨b.frm<b.to):=by
 unfold badB at h
 split at h
 ·cases h
 ·rename_i h1
  split at h
  ·cases h
  ·split at h
   ·cases h
   ·exact ⟨by simpa using h1,by omega,by omega,by omega,by omega⟩
theorem ov_holds {a b:Bd} (ha:badB a=0) (hb:badB b=0):(holdsB a.frm a.to b.frm||holdsB b.frm b.to a.frm)=ovB a b:=by
 obtain ⟨_,a1,a2,a3,a4⟩:=badB_ok ha
 obtain ⟨_,b1,b2,b3,b4⟩:=badB_ok hb
 rw [Bool.eq_iff_iff]
 simp only [holdsB,ovB,Bool.or_eq_true,Bool.and_eq_true,decide_eq_true_eq,beq_iff_eq]
 omega
end Go.Proofs.YtmgodadmafcliaaGreat
