/- The program's pages walked: Split, Shared, Join. -/
import Derived.Test.YteemiclhnfkekaaZDiF
import Derived.Test.YteemiclhnfkekaaZAvmX
set_option linter.unusedSimpArgs false
set_option linter.unusedVariables false
namespace Go.Proofs.Yteemiclhnfkekaa
open Go.RowKit Go.Avm
theorem cnt_iff {n S:Nat} (hS:0<S) (i:Nat):((i:Int)<cntE n S)↔i*S<n:=by
 have h1:=Nat.div_add_mod n S
 have h2:=Nat.mod_lt n hS
 have e:cntE n S=((n/S+(if n%S=0 then 0 else 1):Nat):Int):=by
  unfold cntE
  rw [← Int.natCast_emod, ← Int.natCast_ediv]
  by_cases h:n%S=0
  ·rw [if_neg (by omega),if_pos h];omega
  ·rw [if_pos (by omega),if_neg h];omega
 rw [e,Int.ofNat_lt]
 generalize n/S=q at *
 generalize n%S=r at *
 rcases Nat.lt_trichotomy i q with h|h|h
 ·have:(i+1)*S≤q*S:=Nat.mul_le_mul_right S h
  rw [Nat.add_mul,Nat.mul_comm q S] at this
  constructor<;>intro _<;>(try split)<;>omega
 ·subst h
  rw [Nat.mul_comm i S]
  split<;>constructor<;>intro _<;>omega
 ·have:(q+1)*S≤i*S:=Nat.mul_le_mul_right S h
  rw [Nat.add_mul,Nat.mul_comm q S] at this
  split<;>constructor<;>intro _<;>omega
set_option maxRecDepth 100000 in set_option maxHeartbeats 3200000 in
theorem span_calls {n sz p lo up hi:Int} (h1:IntKind.i64.wrap (p*sz)=lo) (hp:0≤p∧p≤1000) (h2:IntKind.i64.wrap ((p+1)*sz)=up) (h3:(up≤n∧hi=up)∨(n<up∧hi=n)):ACalls Try.prog 52 [.sc (.int .i64 n),.sc (.int .i64 sz),.sc (.int .i64 p)] (.sc (.complex .f64 (floatOfInt .f64 lo) (floatOfInt .f64 hi))) []:=by
 have hpa:=hp.1
 have hpb:=hp.2
 rcases h3 with ⟨h,rfl⟩|⟨h,rfl⟩
 ·have hmn:(if n<hi then n else hi)=hi:=if_neg (by omega)
  refine of_tri [] [] Try.func52 rfl call52 rfl (by decide) (by decide) rfl rfl Try.ntmps52 (by simp (disch:=omega) only [seval,go_sem,cnd,intV,shV,convV,strV,List.replicate,l_2,l_1];rfl) (by simp (disch:=omega) only [seval,go_sem,cnd,intV,shV,convV,strV,l_2,l_1];rfl) ?_
  (all_goals (try have hZ:=(And.intro h1 (And.intro h2 (And.intro hmn (And.intro hpa hpb)))));(repeat' (first|((with_reducible refine isTriD ?_);first|(with_reducible refine isConvert ?_;with_reducible refine TriD.toF Try.underlying3 Try.underlying103 (by simp only [seval,go_sem,hZ]) (by simp only [seval,go_sem,hZ];rfl) (by simp only [seval,go_sem,hZ];rfl) ?_;refine LVs (st:=[]) ?_)|(with_reducible refine TriD.complexB (by simp only [seval,go_sem,hZ]) (by simp only [seval,go_sem,hZ];rfl) (by simp only [seval,go_sem,hZ];rfl) (by simp only [seval,go_sem,hZ];rfl) ?_;refine LVs (st:=[]) ?_))|(with_reducible refine isRet ?_;refine RetV (rs:=[.tmp 6]) (by with_unfolding_all rfl) rfl ?_<;>simp only [seval,go_sem]<;>(repeat' (with_reducible apply And.intro))<;>(try rfl))|(with_reducible (refine TVq (st:=[]) ?_))|simp only [seval,go_sem,hZ]|(with_reducible refine oV_st (by simp (disch:=omega) only [seval,go_sem,cnd,intV,shV,convV,strV,hZ];rfl) ?_)))<;>(try (fail));all_goals (try clear hZ))
 ·have hmn:(if hi<up then hi else up)=hi:=if_pos h
  refine of_tri [] [] Try.func52 rfl call52 rfl (by decide) (by decide) rfl rfl Try.ntmps52 (by simp (disch:=omega) only [seval,go_sem,cnd,intV,shV,convV,strV,List.replicate,l_2,l_1];rfl) (by simp (disch:=omega) only [seval,go_sem,cnd,intV,shV,convV,strV,l_2,l_1];rfl) ?_
  (all_goals (try have hZ:=(And.intro h1 (And.intro h2 (And.intro hmn (And.intro hpa hpb)))));(repeat' (first|((with_reducible refine isTriD ?_);first|(with_reducible refine isConvert ?_;with_reducible refine TriD.toF Try.underlying3 Try.underlying103 (by simp only [seval,go_sem,hZ]) (by simp only [seval,go_sem,hZ];rfl) (by simp only [seval,go_sem,hZ];rfl) ?_;refine LVs (st:=[]) ?_)|(with_reducible refine TriD.complexB (by simp only [seval,go_sem,hZ]) (by simp only [seval,go_sem,hZ];rfl) (by simp only [seval,go_sem,hZ];rfl) (by simp only [seval,go_sem,hZ];rfl) ?_;refine LVs (st:=[]) ?_))|(with_reducible refine isRet ?_;refine RetV (rs:=[.tmp 6]) (by with_unfolding_all rfl) rfl ?_<;>simp only [seval,go_sem]<;>(repeat' (with_reducible apply And.intro))<;>(try rfl))|(with_reducible (refine TVq (st:=[]) ?_))|simp only [seval,go_sem,hZ]|(with_reducible refine oV_st (by simp (disch:=omega) only [seval,go_sem,cnd,intV,shV,convV,strV,hZ];rfl) ?_)))<;>(try (fail));all_goals (try clear hZ))
set_option maxRecDepth 100000 in set_option maxHeartbeats 3200000 in
theorem bequal_calls {a b:List Int} (ha: ∀ z∈a,0≤z∧z≤255) (hb: ∀ z∈b,0≤z∧z≤255):ACalls Try.prog 67 [.sl 1 (a.map rowW), .sl 1 (b.map rowW)] (.sc (.bool (decide (a=b)))) []:=by
 have hse:=strNums_eq ha hb
 refine of_tri [] [] Try.func67 rfl call67 rfl (by decide) (by decide) rfl rfl Try.ntmps67 (by simp (disch:=omega) only [seval,go_sem,cnd,intV,shV,convV,strV,List.replicate,l_2,l_1];rfl) (by simp (disch:=omega) only [seval,go_sem,cnd,intV,shV,convV,strV,l_2,l_1];rfl) ?_
 ((repeat' (first|(with_reducible refine isRet ?_;refine RetV (rs:=[.tmp 4]) (by with_unfolding_all rfl) rfl ?_<;>simp only [seval,go_sem]<;>(repeat' (with_reducible apply And.intro))<;>(try rfl))|(with_reducible (refine TVq (st:=[]) ?_))|simp only [seval,go_sem,mapO_rowW,hse]|(with_reducible refine oV_st (by simp (disch:=omega) only [seval,go_sem,cnd,intV,shV,convV,strV,mapO_rowW,hse];rfl) ?_)))<;>(try (fail)))
set_option maxRecDepth 100000 in set_option maxHeartbeats 6400000 in
theorem split_calls {b:List Int} {sz:Int} (hb:b.length≤200) (h1:8≤sz) (h2:sz≤1024):ACalls Try.prog 38 [.sl 1 (b.map rowW), .sc (.int .i64 sz)] (.tup [.sl 1 ((splitR b sz).1.map rowL), .sc (.int .i64 (splitR b sz).2)]) []:=by
 have e:splitR b sz=(chunks sz.toNat b.length b,0):=by rw [splitR,if_neg (by omega)]
 rw [e]
 obtain ⟨S,rfl⟩:=Int.eq_ofNat_of_zero_le (show 0≤sz by omega)
 simp only [Int.toNat_natCast]
 generalize hC:chunks S b.length b=C
 have hct:=count_calls (a:=b.length) (b:=(S:Int)) (by omega) (by omega) ⟨by omega,by omega⟩
 have hK0:((0:Nat):Int)≤cntE b.length S:=by
  unfold cntE
  have:0≤(b.length:Int)/(S:Int):=Int.ediv_nonneg (by omega) (by omega)
  split<;>omega
 have hK:=cnt_iff (n:=b.length) (S:=S) (by omega)
 generalize cntE b.length S=K at *
 refine of_tri [] [15,29,31,40,41,42,60] Try.func38 rfl call38 rfl (by decide) (by decide) rfl rfl Try.ntmps38 (by simp (disch:=omega) only [seval,go_sem,cnd,intV,shV,convV,strV,List.replicate,l_2,l_1];rfl) (by simp (disch:=omega) only [seval,go_sem,cnd,intV,shV,convV,strV,l_2,l_1];rfl) ?_
 ((repeat' (first|((with_reducible refine isTriD ?_);((with_reducible refine isCallD ?_);((with_reducible refine LVcall (st:=[]) ?_);simp only [seval,go_sem];(refine CallL.c (hct) ?_))))|(with_reducible (refine TVq (st:=[]) ?_))|simp only [seval,go_sem]|(with_reducible refine oV_st (by simp (disch:=omega) only [seval,go_sem,cnd,intV,shV,convV,strV];rfl) ?_)))<;>(try (fail)))
 all_goals (refine Tri.virt 8 60 1 (by first|(simp only [seval,go_sem];first|done|fail)) (by first|(simp only [seval,go_sem];first|done|fail)) (by simp only [seval,go_sem];rfl) ?_)
 all_goals (with_reducible refine Tri.loopV (fun (t:Nat×List (List Int))=>[(22,.sc (.int .i64 t.1)),(8,.slo 60 1 0 t.2.length),(9,.any),(10,.any),(23,.any),(24,.any),(25,.any),(26,.any),(27,.any),(28,.any),(29,.any),(30,.any),(31,.any),(32,.any),(33,.any),(34,.any),(35,.any),(36,.any),(37,.any),(38,.any),(39,.any),(40,.any),(41,.any),(42,.any),(43,.any)]) (fun (t:Nat×List (List Int))=>[(60,.row 1 (t.2.map rowL)),(29,.dead),(31,.dead),(40,.dead),(41,.dead),(42,.dead)]) (fun (t:Nat×List (List Int))=>(t.1:Int)≤K∧t.1≤b.length∧t.2.length=t.1∧t.2++chunks S b.length (b.drop (t.1*S))=C) (fun (t:Nat×List (List Int))=>b.length-t.1) ((0,[])) (⟨hK0,Nat.zero_le _,rfl,by simpa using hC⟩) (by intro _;simp (disch:=omega) only [seval,go_sem,cnd,intV,shV,convV,strV];rfl) (by intro _;simp (disch:=omega) only [seval,go_sem,cnd,intV,shV,convV,strV];rfl) (by (refine leQL_spec ?_);(try simp only [seval,go_sem]);first|done|fail) (by (refine leQH_spec ?_);(try simp only [seval,go_sem]);first|done|fail) (fun t hI=>?_))
 all_goals
  obtain ⟨i,a⟩:=t
  obtain ⟨hiK,hib,hal,hf⟩:=hI
  simp only at hiK hib hal hf ⊢
  have hll:(a.map rowL).length=a.length:=List.length_map _
  by_cases hlt:(i:Int)<K
  ·have hi:=(hK i).1 hlt
   have hmul:i*S+S=(i+1)*S:=by rw [Nat.add_mul,Nat.one_mul]
   have hiS:i≤i*S:=Nat.le_mul_of_pos_right i (by omega)
   have hw1:IntKind.i64.wrap ((i:Int)*(S:Int))=((i*S:Nat):Int):=by rw [← Int.natCast_mul,IntKind.wrap_i64];omega
   have hw2:IntKind.i64.wrap (((i:Int)+1)*(S:Int))=(((i+1)*S:Nat):Int):=by
    rw [show ((i:Int)+1)=((i+1:Nat):Int) by omega, ← Int.natCast_mul,IntKind.wrap_i64];omega
   rw [chunks_step (by omega) hi,hmul] at hf
   generalize hlo:i*S=lo at *
   generalize hup:(i+1)*S=up at *
   by_cases hc:up≤b.length
   ·have hsp:=span_calls (n:=b.length) (sz:=S) (p:=i) (lo:=lo) (up:=up) (hi:=up) hw1 (by omega) hw2 (.inl ⟨by omega,rfl⟩)
    have hts:((b.map rowW).take up).drop lo=((b.drop lo).take S).map rowW:=by rw [List.map_take,List.map_drop, ← hmul,List.drop_take,Nat.add_sub_cancel_left]
    have hln:(((b.drop lo).take S).map rowW).length=S:=by simp;omega
    have htk:(((b.drop lo).take S).map rowW).take S=((b.drop lo).take S).map rowW:=List.take_of_length_le (by rw [hln];omega)
    have hv1:=pureRun_f2i (P:=Try.prog) (s:=103) (t:=3) (a:=((lo:Nat):Int)) Try.underlying103 Try.underlying3 (by omega) (by omega)
    have hv2:=pureRun_f2i (P:=Try.prog) (s:=103) (t:=3) (a:=((up:Nat):Int)) Try.underlying103 Try.underlying3 (by omega) (by omega)
    (all_goals (try have hZ:=(And.intro hts (And.intro hln (And.intro htk (And.intro hll (And.intro hv1 hv2))))));(repeat' (first|((with_reducible refine isTriD ?_);first|((with_reducible refine isCallD ?_);((with_reducible refine LVcall (st:=[]) ?_);simp only [seval,go_sem,Int.toNat_natCast,hZ];(refine CallL.c (hsp) ?_;simp only [seval,go_sem,Int.toNat_natCast,hZ];(fail_if_success (with_reducible refine isResV ?_)))))|(with_reducible refine TriD.realB (by simp only [seval,go_sem,Int.toNat_natCast,hZ]) (by simp only [seval,go_sem,Int.toNat_natCast,hZ];rfl) (by simp only [seval,go_sem,Int.toNat_natCast,hZ];rfl) ?_;refine LVs (st:=[]) ?_)|(with_reducible refine TriD.imagB (by simp only [seval,go_sem,Int.toNat_natCast,hZ]) (by simp only [seval,go_sem,Int.toNat_natCast,hZ];rfl) (by simp only [seval,go_sem,Int.toNat_natCast,hZ];rfl) ?_;refine LVs (st:=[]) ?_)|(with_reducible refine TriD.frz 40 (by simp only [seval,go_sem,Int.toNat_natCast,hZ];rfl) (by simp only [seval,go_sem,Int.toNat_natCast,hZ];rfl) ?_;refine LVs (st:=[]) ?_))|(with_reducible (refine TVq (st:=[]) ?_))|simp only [seval,go_sem,Int.toNat_natCast,hZ]|(with_reducible refine oV_st (by simp (disch:=omega) only [seval,go_sem,cnd,intV,shV,convV,strV,Int.toNat_natCast,hZ];rfl) ?_)))<;>(try (fail));all_goals (try clear hZ))
    all_goals (try ((refine isNextVM ((i+1,a++[(b.drop lo).take S])) (Imp.rnTo 42 60 (by decide) (by first|(simp only [seval,go_sem];first|done|fail)) (by simp only [seval,go_sem];rfl) (Imp.les (by (refine leQL_spec ?_);(try simp only [seval,go_sem,rowL,List.map_append,l_3,l_4,List.length_append,List.length_cons,List.length_nil]);first|((repeat' (with_reducible apply And.intro))<;>first|rfl);first|done|fail) (by (refine leQH_spec ?_);(try simp only [seval,go_sem,rowL,List.map_append,l_3,l_4,List.length_append,List.length_cons,List.length_nil]);first|done|fail))) ?_ ?_)<;>(try (omega))))
    all_goals (try exact ⟨by simp only;omega,by simp only;omega,by simp only [List.length_append,List.length_cons,List.length_nil];omega,by simp only [List.append_assoc,List.cons_append,List.nil_append,hup];exact hf⟩)
    all_goals done
   ·have hsp:=span_calls (n:=b.length) (sz:=S) (p:=i) (lo:=lo) (up:=up) (hi:=b.length) hw1 (by omega) hw2 (.inr ⟨by omega,rfl⟩)
    have hts:(b.map rowW).drop lo=((b.drop lo).take S).map rowW:=by rw [List.map_take,List.map_drop,List.take_of_length_le (by simp;omega)]
    have hln:(((b.drop lo).take S).map rowW).length=b.length-lo:=by simp;omega
    have htk:(((b.drop lo).take S).map rowW).take (b.length-lo)=((b.drop lo).take S).map rowW:=List.take_of_length_le (by rw [hln];omega)
    have hv1:=pureRun_f2i (P:=Try.prog) (s:=103) (t:=3) (a:=((lo:Nat):Int)) Try.underlying103 Try.underlying3 (by omega) (by omega)
    have hv2:=pureRun_f2i (P:=Try.prog) (s:=103) (t:=3) (a:=(b.length:Int)) Try.underlying103 Try.underlying3 (by omega) (by omega)
    (all_goals (try have hZ:=(And.intro hts (And.intro hln (And.intro htk (And.intro hll (And.intro hv1 hv2))))));(repeat' (first|((with_reducible refine isTriD ?_);first|((with_reducible refine isCallD ?_);((with_reducible refine LVcall (st:=[]) ?_);simp only [seval,go_sem,Int.toNat_natCast,hZ];(refine CallL.c (hsp) ?_;simp only [seval,go_sem,Int.toNat_natCast,hZ];(fail_if_success (with_reducible refine isResV ?_)))))|(with_reducible refine TriD.realB (by simp only [seval,go_sem,Int.toNat_natCast,hZ]) (by simp only [seval,go_sem,Int.toNat_natCast,hZ];rfl) (by simp only [seval,go_sem,Int.toNat_natCast,hZ];rfl) ?_;refine LVs (st:=[]) ?_)|(with_reducible refine TriD.imagB (by simp only [seval,go_sem,Int.toNat_natCast,hZ]) (by simp only [seval,go_sem,Int.toNat_natCast,hZ];rfl) (by simp only [seval,go_sem,Int.toNat_natCast,hZ];rfl) ?_;refine LVs (st:=[]) ?_)|(with_reducible refine TriD.frz 40 (by simp only [seval,go_sem,Int.toNat_natCast,hZ];rfl) (by simp only [seval,go_sem,Int.toNat_natCast,hZ];rfl) ?_;refine LVs (st:=[]) ?_))|(with_reducible (refine TVq (st:=[]) ?_))|simp only [seval,go_sem,Int.toNat_natCast,hZ]|(with_reducible refine oV_st (by simp (disch:=omega) only [seval,go_sem,cnd,intV,shV,convV,strV,Int.toNat_natCast,hZ];rfl) ?_)))<;>(try (fail));all_goals (try clear hZ))
    all_goals (try ((refine isNextVM ((i+1,a++[(b.drop lo).take S])) (Imp.rnTo 42 60 (by decide) (by first|(simp only [seval,go_sem];first|done|fail)) (by simp only [seval,go_sem];rfl) (Imp.les (by (refine leQL_spec ?_);(try simp only [seval,go_sem,rowL,List.map_append,l_3,l_4,List.length_append,List.length_cons,List.length_nil]);first|((repeat' (with_reducible apply And.intro))<;>first|rfl);first|done|fail) (by (refine leQH_spec ?_);(try simp only [seval,go_sem,rowL,List.map_append,l_3,l_4,List.length_append,List.length_cons,List.length_nil]);first|done|fail))) ?_ ?_)<;>(try (omega))))
    all_goals (try exact ⟨by simp only;omega,by simp only;omega,by simp only [List.length_append,List.length_cons,List.length_nil];omega,by simp only [List.append_assoc,List.cons_append,List.nil_append,hup];exact hf⟩)
    all_goals done
  ·have hge:b.length≤i*S:=Nat.le_of_not_lt fun h=>hlt ((hK i).2 h)
   rw [chunks_end hge,List.append_nil] at hf
   subst hf
   have htk:(a.map rowL).take a.length=a.map rowL:=List.take_of_length_le (by rw [hll];exact Nat.le_refl _)
   (all_goals (try have hZ:=(And.intro hll htk));(repeat' (first|(with_reducible refine isRet ?_;(refine RetOK.frz 60 (by simp only [seval,go_sem];rfl) (by simp only [seval,go_sem,hZ];rfl) ?_);(with_reducible refine isRet ?_;refine RetOK.q rfl rfl (by simp only [seval,go_sem];rfl) (by decide) (by simp only [seval,go_sem];rfl) (by simp only [seval,go_sem];rfl) rfl ?_<;>(try simp only [seval,go_sem,hZ])<;>(repeat' (with_reducible apply And.intro))<;>(try rfl)))|(with_reducible (refine TVq (st:=[]) ?_))|simp only [seval,go_sem,hZ]|(with_reducible refine oV_st (by simp (disch:=omega) only [seval,go_sem,cnd,intV,shV,convV,strV,hZ];rfl) ?_)))<;>(try (fail));all_goals (try clear hZ))
   all_goals done
set_option maxRecDepth 100000 in set_option maxHeartbeats 6400000 in
theorem shared_calls {os ns:List (List Int)} (ho:os.length≤1000000) (hn:ns.length≤1000000) (hob: ∀ x∈os, ∀ z∈x,0≤z∧z≤255) (hnb: ∀ x∈ns, ∀ z∈x,0≤z∧z≤255):ACalls Try.prog 45 [.sl 1 (os.map rowL), .sl 1 (ns.map rowL)] (.sl 1 ((sharedR os ns).map rowBo)) []:=by
 generalize hR:sharedR os ns=R
 refine of_tri [] [26,28,29,60] Try.func45 rfl call45 rfl (by decide) (by decide) rfl rfl Try.ntmps45 (by simp (disch:=omega) only [seval,go_sem,cnd,intV,shV,convV,strV,List.replicate,l_2,l_1];rfl) (by simp (disch:=omega) only [seval,go_sem,cnd,intV,shV,convV,strV,l_2,l_1];rfl) ?_
 ((repeat' (first|(with_reducible (refine TVq (st:=[26]) ?_))|simp only [seval,go_sem]))<;>(try (fail)))
 all_goals (refine Tri.virt 5 60 1 (by first|(simp only [seval,go_sem];first|done|fail)) (by first|(simp only [seval,go_sem];first|done|fail)) (by simp only [seval,go_sem];rfl) ?_)
 all_goals (with_reducible refine Tri.loopV (fun (t:Nat×List Bool)=>[(10,.sc (.int .i64 t.1)),(5,.slo 60 1 0 t.2.length),(6,.any),(7,.any),(11,.any),(12,.any),(13,.any),(14,.any),(15,.any),(16,.any),(17,.any),(18,.any),(19,.any),(20,.any),(21,.any),(22,.any),(23,.any),(24,.any),(25,.any),(26,.any),(27,.any),(28,.any),(29,.any),(30,.any)]) (fun (t:Nat×List Bool)=>[(60,.row 1 (t.2.map rowBo)),(26,.dead),(28,.dead),(29,.dead)]) (fun (t:Nat×List Bool)=>t.1≤ns.length∧t.2.length=t.1∧t.2++sharedR (os.drop t.1) (ns.drop t.1)=R) (fun (t:Nat×List Bool)=>ns.length-t.1) ((0,[])) (⟨Nat.zero_le _,by simp,by simpa using hR⟩) (by intro _;simp (disch:=omega) only [seval,go_sem,cnd,intV,shV,convV,strV];rfl) (by intro _;simp (disch:=omega) only [seval,go_sem,cnd,intV,shV,convV,strV];rfl) (by (refine leQL_spec ?_);(try simp only [seval,go_sem]);first|done|fail) (by (refine leQH_spec ?_);(try simp only [seval,go_sem]);first|done|fail) (fun t hI=>?_))
 all_goals
  obtain ⟨i,a⟩:=t
  obtain ⟨hi,hal,hf⟩:=hI
  simp only at hi hal hf ⊢
  have hll:(a.map rowBo).length=a.length:=List.length_map _
  by_cases hlt:i<ns.length
  ·obtain ⟨x,hx⟩:=get_lt hlt
   have hx':=get_map rowL hx
   rw [drop_get hx] at hf
   by_cases hc:i<os.length
   ·obtain ⟨o,ho1⟩:=get_lt hc
    have ho':=get_map rowL ho1
    rw [drop_get ho1,sharedR] at hf
    have hbe:=bequal_calls (hob o (List.mem_of_getElem? ho1)) (hnb x (List.mem_of_getElem? hx))
    (all_goals (try have hZ:=(And.intro hx' (And.intro ho' hll)));(repeat' (first|((with_reducible refine isTriD ?_);((with_reducible refine isCallD ?_);((with_reducible refine LVcall (st:=[26]) ?_);simp only [seval,go_sem,rowL,hZ];(refine CallL.c (hbe) ?_))))|(with_reducible (refine TVq (st:=[26]) ?_))|simp only [seval,go_sem,rowL,hZ]|(with_reducible refine oV_st (by simp (disch:=omega) only [seval,go_sem,cnd,intV,shV,convV,strV,rowL,hZ];rfl) ?_)))<;>(try (fail));all_goals (try clear hZ))
    all_goals (try ((refine isNextVM ((i+1,a++[decide (o=x)])) (Imp.rnTo 29 60 (by decide) (by first|(simp only [seval,go_sem];first|done|fail)) (by simp only [seval,go_sem];rfl) (Imp.les (by (refine leQL_spec ?_);(try simp only [seval,go_sem,rowBo,List.map_append,l_3,l_4,List.length_append,List.length_cons,List.length_nil]);first|((repeat' (with_reducible apply And.intro))<;>first|rfl);first|done|fail) (by (refine leQH_spec ?_);(try simp only [seval,go_sem,rowBo,List.map_append,l_3,l_4,List.length_append,List.length_cons,List.length_nil]);first|done|fail))) ?_ ?_)<;>(try (omega))))
    all_goals (try exact ⟨by simp only;omega,by simp only [List.length_append,List.length_cons,List.length_nil];omega,by simp only [List.append_assoc,List.cons_append,List.nil_append];exact hf⟩)
    all_goals done
   ·rw [List.drop_eq_nil_of_le (by omega),sharedR] at hf
    have hcd:decide ((i:Int)<(os.length:Int))=false:=decide_eq_false (by omega)
    have hcl:(os.map rowL).length=os.length:=List.length_map _
    (all_goals (try have hZ:=(And.intro hx' (And.intro hll (And.intro hcd hcl))));(repeat' (first|((with_reducible refine isTriD ?_);((with_reducible first|refine TriD.step (by simp only [seval,go_sem,rowL,hZ];rfl) ?_);refine LVs (st:=[26]) ?_))|(with_reducible (refine TVq (st:=[26]) ?_))|simp only [seval,go_sem,rowL,hZ]|(with_reducible refine oV_st (by simp (disch:=omega) only [seval,go_sem,cnd,intV,shV,convV,strV,rowL,hZ];rfl) ?_)))<;>(try (fail));all_goals (try clear hZ))
    all_goals (try ((refine isNextVM ((i+1,a++[false])) (Imp.rnTo 29 60 (by decide) (by first|(simp only [seval,go_sem];first|done|fail)) (by simp only [seval,go_sem];rfl) (Imp.les (by (refine leQL_spec ?_);(try simp only [seval,go_sem,rowBo,List.map_append,l_3,l_4,List.length_append,List.length_cons,List.length_nil]);first|((repeat' (with_reducible apply And.intro))<;>first|rfl);first|done|fail) (by (refine leQH_spec ?_);(try simp only [seval,go_sem,rowBo,List.map_append,l_3,l_4,List.length_append,List.length_cons,List.length_nil]);first|done|fail))) ?_ ?_)<;>(try (omega))))
    all_goals (try exact ⟨by simp only;omega,by simp only [List.length_append,List.length_cons,List.length_nil];omega,by simp only [List.append_assoc,List.cons_append,List.nil_append,List.drop_eq_nil_of_le (show os.length≤i+1 by omega)];exact hf⟩)
    all_goals done
  ·rw [List.drop_eq_nil_of_le (show ns.length≤i by omega)] at hf
   have hz:sharedR (os.drop i) []=[]:=by cases os.drop i<;>rfl
   rw [hz,List.append_nil] at hf
   subst hf
   have htk:(a.map rowBo).take a.length=a.map rowBo:=List.take_of_length_le (by rw [hll];exact Nat.le_refl _)
   (all_goals (try have hZ:=(And.intro hll htk));(repeat' (first|(with_reducible refine isRet ?_;(refine RetOK.frz 60 (by simp only [seval,go_sem];rfl) (by simp only [seval,go_sem,hZ];rfl) ?_);(with_reducible refine isRet ?_;refine RetOK.q rfl rfl (by simp only [seval,go_sem];rfl) (by decide) (by simp only [seval,go_sem];rfl) (by simp only [seval,go_sem];rfl) rfl ?_<;>(try simp only [seval,go_sem,hZ])<;>(repeat' (with_reducible apply And.intro))<;>(try rfl)))|(with_reducible (refine TVq (st:=[26]) ?_))|simp only [seval,go_sem,hZ]|(with_reducible refine oV_st (by simp (disch:=omega) only [seval,go_sem,cnd,intV,shV,convV,strV,hZ];rfl) ?_)))<;>(try (fail));all_goals (try clear hZ))
   all_goals done
/-- The bytes of pages, one after another. -/
def joinR (l:List (List Int)):List Int:=l.flatten
set_option maxRecDepth 100000 in set_option maxHeartbeats 6400000 in
theorem join_calls {l:List (List Int)} (hl:l.length≤1000) (hx: ∀ x∈l,x.length≤2000):ACalls Try.prog 48 [.sl 1 (l.map rowL)] (.sl 1 ((joinR l).map rowW)) []:=by
 have hfl: ∀ i,((l.take i).flatten).length≤2000*i:=by
  intro i
  induction i with
  | zero=>simp
  | succ i ih=>
    by_cases hi:i<l.length
    ·obtain ⟨x,hxi⟩:=get_lt hi
     have:=hx x (List.mem_of_getElem? hxi)
     rw [List.take_add_one,hxi]
     simp only [Option.toList_some,List.flatten_append,List.length_append,List.flatten_cons,List.flatten_nil,List.append_nil]
     omega
    ·rw [List.take_of_length_le (by omega)] at ih ⊢;omega
 refine of_tri [] [14,60] Try.func48 rfl call48 rfl (by decide) (by decide) rfl rfl Try.ntmps48 (by simp (disch:=omega) only [seval,go_sem,cnd,intV,shV,convV,strV,List.replicate,l_2,l_1];rfl) (by simp (disch:=omega) only [seval,go_sem,cnd,intV,shV,convV,strV,l_2,l_1];rfl) ?_
 ((repeat' (first|(with_reducible (refine TVq (st:=[]) ?_))|simp only [seval,go_sem]))<;>(try (fail)))
 all_goals (refine Tri.virt 3 60 1 (by first|(simp only [seval,go_sem];first|done|fail)) (by first|(simp only [seval,go_sem];first|done|fail)) (by simp only [seval,go_sem];rfl) ?_)
 all_goals (with_reducible refine Tri.loopV (fun (i:Nat)=>[(8,.sc (.int .i64 i)),(3,.slo 60 1 0 ((l.take i).flatten).length),(5,.any),(9,.any),(10,.any),(11,.any),(12,.any),(13,.any),(14,.any),(15,.any)]) (fun (i:Nat)=>[(60,.row 1 (((l.take i).flatten).map rowW)),(14,.dead)]) (fun (i:Nat)=>i≤l.length) (fun (i:Nat)=>l.length-i) (0) (Nat.zero_le _) (by intro _;simp (disch:=omega) only [seval,go_sem,cnd,intV,shV,convV,strV];rfl) (by intro _;simp (disch:=omega) only [seval,go_sem,cnd,intV,shV,convV,strV];rfl) (by (refine leQL_spec ?_);(try simp only [seval,go_sem]);first|done|fail) (by (refine leQH_spec ?_);(try simp only [seval,go_sem]);first|done|fail) (fun i hI=>?_))
 all_goals
  have hfi:=hfl i
  by_cases hlt:i<l.length
  ·obtain ⟨x,hxi⟩:=get_lt hlt
   have hx':=get_map rowL hxi
   have hxl:=hx x (List.mem_of_getElem? hxi)
   have htk:(l.take (i+1)).flatten=(l.take i).flatten++x:=by rw [List.take_add_one,hxi];simp
   have hll:(((l.take i).flatten).map rowW).length=((l.take i).flatten).length:=List.length_map _
   generalize (l.take i).flatten=F at *
   (all_goals (try have hZ:=(And.intro hx' hll));(repeat' (first|(with_reducible (refine TVq (st:=[]) ?_))|simp only [seval,go_sem,rowL,hZ]|(with_reducible refine oV_st (by simp (disch:=omega) only [seval,go_sem,cnd,intV,shV,convV,strV,rowL,hZ];rfl) ?_)))<;>(try (fail));all_goals (try clear hZ))
   all_goals (try ((refine isNextVM (i+1) (Imp.rnTo 14 60 (by decide) (by first|(simp only [seval,go_sem];first|done|fail)) (by simp only [seval,go_sem];rfl) (Imp.les (by (refine leQL_spec ?_);(try simp only [seval,go_sem,htk,List.map_append,List.length_append]);first|((repeat' (with_reducible apply And.intro))<;>first|rfl);first|done|fail) (by (refine leQH_spec ?_);(try simp only [seval,go_sem,htk,List.map_append,List.length_append]);first|done|fail))) ?_ ?_)<;>(try (omega))))
   all_goals done
  ·have e:l.take i=l:=List.take_of_length_le (by omega)
   rw [e] at hfi ⊢
   have htk:((l.flatten).map rowW).take l.flatten.length=(l.flatten).map rowW:=List.take_of_length_le (by rw [List.length_map];exact Nat.le_refl _)
   have hll:((l.flatten).map rowW).length=l.flatten.length:=List.length_map _
   unfold joinR
   generalize l.flatten=F at *
   (all_goals (try have hZ:=(And.intro hll htk));(repeat' (first|(with_reducible refine isRet ?_;(refine RetOK.frz 60 (by simp only [seval,go_sem];rfl) (by simp only [seval,go_sem,hZ];rfl) ?_);(with_reducible refine isRet ?_;refine RetOK.q rfl rfl (by simp only [seval,go_sem];rfl) (by decide) (by simp only [seval,go_sem];rfl) (by simp only [seval,go_sem];rfl) rfl ?_<;>(try simp only [seval,go_sem,hZ])<;>(repeat' (with_reducible apply And.intro))<;>(try rfl)))|(with_reducible (refine TVq (st:=[]) ?_))|simp only [seval,go_sem,hZ]|(with_reducible refine oV_st (by simp (disch:=omega) only [seval,go_sem,cnd,intV,shV,convV,strV,hZ];rfl) ?_)))<;>(try (fail));all_goals (try clear hZ))
   all_goals done
end Go.Proofs.Yteemiclhnfkekaa
/- The program's store: its objects as a map (plain). -/
set_option linter.unusedSimpArgs false
set_option linter.unusedVariables false
namespace Go.Proofs.Yteemiclhnfkekaa
open Go.RowKit Go.Avm
def obEn (o:Ob):Value×D:=(.int .i64 o.id, .sl 4 (o.vers.map rowV))
def mapOb (l:List Ob):List (Value×D):=l.map obEn
theorem mapOb_nil:mapOb []=[]:=rfl
theorem mapOb_snoc {l:List Ob} {o:Ob}:mapOb l++[(.int .i64 o.id, .sl 4 (o.vers.map rowV))]=mapOb (l++[o]):=by simp [mapOb,obEn]
theorem ob_split (n:Int): ∀ (l:List Ob) (k:Nat),(objAt n l k = -1∧(∀ o∈l,o.id≠n)∧mFind (.int .i64 n) (mapOb l)=none∧ ∀ v,mSet (.int .i64 n) v (mapOb l)=mapOb l++[(.int .i64 n,v)])∨
  ∃ j o,l[j]? = some o∧o.id=n∧objAt n l k=((k+j:Nat):Int)∧mFind (.int .i64 n) (mapOb l)=some (.sl 4 (o.vers.map rowV))∧(∀ vs,mSet (.int .i64 n) (.sl 4 (vs.map rowV)) (mapOb l)=mapOb (l.set j ⟨n,vs⟩))∧mDel (.int .i64 n) (mapOb l)=mapOb (l.eraseIdx j)
 | [],k=> .inl ⟨rfl,by simp,rfl,fun _=>rfl⟩
 | p::l,k=>by
   have e1:mFind (.int .i64 n) (mapOb (p::l))=if keyB (.int .i64 p.id) (.int .i64 n)=true then some (.sl 4 (p.vers.map rowV)) else mFind (.int .i64 n) (mapOb l):=rfl
   have e2: ∀ v,mSet (.int .i64 n) v (mapOb (p::l))=if keyB (.int .i64 p.id) (.int .i64 n)=true then (.int .i64 n,v)::mapOb l else obEn p::mSet (.int .i64 n) v (mapOb l):=fun _=>rfl
   have e3:mDel (.int .i64 n) (mapOb (p::l))=if keyB (.int .i64 p.id) (.int .i64 n)=true then mapOb l else obEn p::mDel (.int .i64 n) (mapOb l):=rfl
   rw [e1,e3,keyB_i]
   simp only [e2,keyB_i]
   by_cases hc:p.id=n
   ·refine .inr ⟨0,p,rfl,hc,by rw [objAt,if_pos hc];rfl,by rw [if_pos (by simpa using hc)],fun vs=>by rw [if_pos (by simpa using hc)];rfl,by rw [if_pos (by simpa using hc)];rfl⟩
   ·rcases ob_split n l (k+1) with ⟨h1,h2,h3,h4⟩|⟨j,o,h1,h2,h3,h4,h5,h6⟩
    ·refine .inl ⟨by rw [objAt,if_neg hc];exact h1,fun o ho=>?_,by rw [if_neg (by simpa using hc)];exact h3,fun v=>by rw [if_neg (by simpa using hc),h4];rfl⟩
     rcases List.mem_cons.1 ho with rfl|ho
     ·exact hc
     ·exact h2 o ho
    ·refine .inr ⟨j+1,o,by simpa using h1,h2,by rw [objAt,if_neg hc,h3];omega,by rw [if_neg (by simpa using hc)];exact h4,fun vs=>by rw [if_neg (by simpa using hc),h5];rfl,by rw [if_neg (by simpa using hc),h6];rfl⟩
/-- The versions of an object. -/
def versS (l:List Ob) (n:Int):List Ver:=if objAt n l 0<0 then [] else (obGet l (objAt n l 0)).vers
/-- An object's place. -/
theorem ob_at (n:Int) (l:List Ob):(objAt n l 0 = -1∧(∀ o∈l,o.id≠n)∧mFind (.int .i64 n) (mapOb l)=none∧(∀ v,mSet (.int .i64 n) v (mapOb l)=mapOb l++[(.int .i64 n,v)])∧versS l n=[])∨
  ∃ (j:Nat) (o:Ob),l[j]? = some o∧o.id=n∧objAt n l 0=(j:Int)∧mFind (.int .i64 n) (mapOb l)=some (.sl 4 (o.vers.map rowV))∧(∀ vs,mSet (.int .i64 n) (.sl 4 (vs.map rowV)) (mapOb l)=mapOb (setVers l (j:Int) vs))∧mDel (.int .i64 n) (mapOb l)=mapOb (delAt l (j:Int))∧versS l n=o.vers∧obGet l (j:Int)=o:=by
 rcases ob_split n l 0 with ⟨h1,h2,h3,h4⟩|⟨j,o,h1,h2,h3,h4,h5,h6⟩
 ·exact .inl ⟨h1,h2,h3,h4,by rw [versS,if_pos (by omega)]⟩
 ·rw [Nat.zero_add] at h3
  have hg:obGet l (j:Int)=o:=by simp [obGet,h1]
  refine .inr ⟨j,o,h1,h2,h3,h4,fun vs=>?_,by rw [delAt_erase];exact h6,by rw [versS,if_neg (by omega),h3,hg],hg⟩
  rw [h5,setVers,hg,h2,Int.toNat_natCast]
/-- What the program's find computes: the object, the version, the error. -/
def findS (s:Sr) (n:ByteArray) (c:Int):Int×Ver×Int:=
 if visE s c≠0 then (0,zeroV,visE s c) else if (lookB n c s.binds).2=false then (0,zeroV,8) else
 if (findN c (versS s.objs (lookB n c s.binds).1) 0).2=false then (0,zeroV,8) else ((lookB n c s.binds).1,verGet (versS s.objs (lookB n c s.binds).1) (findN c (versS s.objs (lookB n c s.binds).1) 0).1,0)
end Go.Proofs.Yteemiclhnfkekaa
/- The reference's arena and pages: the walks of its functions. -/
set_option linter.unusedSimpArgs false
set_option linter.unusedVariables false
namespace Go.Proofs.Yteemiclhnfkekaa
open Go.RowKit Go.Avm
theorem wrS (n:Int):IntKind.i64.wrap n=wr n:=rfl
theorem mem_le (m:Nat): ∀ l:List Int,(∀ i:Nat,1≤i→i≤m→(i:Int)∈l)→m≤l.length:=by
 induction m with
 | zero=>intro _ _;exact Nat.zero_le _
 | succ m ih=>
   intro l h
   have h1:=ih (l.filter (fun x=>x != ((m+1:Nat):Int))) (fun i a b=>by
    rw [List.mem_filter]
    exact ⟨h i a (by omega),by simp;omega⟩)
   have h2:(l.filter (fun x=>x != ((m+1:Nat):Int))).length<l.length:=by
    rw [List.length_filter_lt_length_iff_exists]
    exact ⟨((m+1:Nat):Int),h (m+1) (by omega) (by omega),by simp⟩
   omega
theorem pgAt_mem {n:Int} {l:List Pg} (h: ¬ pgAt n l 0<0):n∈l.map (·.num):=by
 rcases pgAt_cases n l 0 with ⟨h1,_⟩|⟨j,p,h1,h2,_⟩
 ·omega
 ·exact List.mem_map.2 ⟨p,List.mem_of_getElem? h1,h2⟩
theorem freeGo_step {l:List Pg} {k:Nat} (hk:k≤l.length) (hf:freeGo l (l.length+1-k) (1+k)=freeN l):(pgAt (1+(k:Int)) l 0<0→freeN l=1+k)∧(¬ pgAt (1+(k:Int)) l 0<0→freeGo l (l.length+1-(k+1)) (1+((k+1:Nat):Int))=freeN l):=by
 rw [show l.length+1-k=(l.length-k)+1 by omega,freeGo] at hf
 refine ⟨fun h=>by rw [if_pos h] at hf;exact hf.symm,fun h=>?_⟩
 rw [if_neg h] at hf
 rw [show l.length+1-(k+1)=l.length-k by omega,show (1+((k+1:Nat):Int))=1+(k:Int)+1 by omega]
 exact hf
end Go.Proofs.Yteemiclhnfkekaa
