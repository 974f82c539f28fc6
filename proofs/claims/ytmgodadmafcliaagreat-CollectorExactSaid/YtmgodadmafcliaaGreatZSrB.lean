/- The reference's pages, and the numbers and bytes of the laws: the walks. -/
import Derived.Test.YtmgodadmafcliaaGreatZDiG
set_option linter.unusedSimpArgs false
set_option linter.unusedVariables false
namespace Go.Proofs.YtmgodadmafcliaaGreat
open Go.RowKit Go.Avm
def rowL (x:List Int):List D:=[.sl 1 (x.map rowW)]
def rowBo (b:Bool):List D:=[.sc (.bool b)]
theorem chunks_fuel {sz:Nat} (h:1≤sz) (k:Nat): ∀ (k':Nat) (l:List Int),l.length≤k→l.length≤k'→chunks sz k l=chunks sz k' l:=by
 induction k with
 | zero=>
   intro k' l h1 h2
   cases k' with
   | zero=>rfl
   | succ k'=>rw [chunks,chunks,if_pos (by omega)]
 | succ k ih=>
   intro k' l h1 h2
   cases k' with
   | zero=>rw [chunks,chunks,if_pos (by omega)]
   | succ k'=>
     rw [chunks,chunks]
     split
     ·rfl
     ·rw [ih k' (l.drop sz) (by rw [List.length_drop];omega) (by rw [List.length_drop];omega)]
theorem chunks_step {sz:Nat} (h:1≤sz) {b:List Int} {i:Nat} (hi:i<b.length):chunks sz b.length (b.drop i)=(b.drop i).take sz::chunks sz b.length (b.drop (i+sz)):=by
 rw [chunks_fuel h b.length ((b.length-1)+1) (b.drop i) (by rw [List.length_drop];omega) (by rw [List.length_drop];omega),chunks,if_neg (by rw [List.length_drop];omega),List.drop_drop]
 rw [chunks_fuel h (b.length-1) b.length (b.drop (i+sz)) (by rw [List.length_drop];omega) (by rw [List.length_drop];omega)]
theorem chunks_end {sz k:Nat} {b:List Int} {i:Nat} (hi:b.length≤i):chunks sz k (b.drop i)=[]:=by
 rw [List.drop_eq_nil_of_le hi]
 cases k<;>simp [chunks]
set_option maxRecDepth 100000 in set_option maxHeartbeats 6400000 in
theorem rsplit_calls {b:List Int} {sz:Int} (hb:b.length≤1000000) (h1:1≤sz) (h2:sz≤1024):ACalls Tryz.prog 39 [.sl 1 (b.map rowW), .sc (.int .i64 sz)] (.tup [.sl 1 ((splitR b sz).1.map rowL), .sc (.int .i64 (splitR b sz).2)]) []:=by
 have e:splitR b sz=(chunks sz.toNat b.length b,0):=by rw [splitR,if_neg (by omega)]
 rw [e]
 obtain ⟨S,rfl⟩:=Int.eq_ofNat_of_zero_le (show 0≤sz by omega)
 simp only [Int.toNat_natCast]
 generalize hC:chunks S b.length b=C
 refine of_tri [] [31,32,33] Tryz.func39 rfl call39 rfl (by decide) (by decide) rfl rfl Tryz.ntmps39 (by simp (disch:=omega) only [seval,go_sem,cnd,intV,shV,convV,strV,List.replicate,l_2,l_1];rfl) (by simp (disch:=omega) only [seval,go_sem,cnd,intV,shV,convV,strV,l_2,l_1];rfl) ?_
 ((repeat' (first|(with_reducible (refine TVq (st:=[]) ?_))|simp only [seval,go_sem]|(with_reducible refine oV_st (by simp (disch:=omega) only [seval,go_sem,cnd,intV,shV,convV,strV];rfl) ?_)))<;>(try (fail)))
 all_goals (refine Tri.virt 6 33 1 (by first|(simp only [seval,go_sem];done)) (by first|(simp only [seval,go_sem];done)) (by simp only [seval,go_sem];rfl) ?_)
 all_goals (with_reducible refine Tri.loopU (fun (t:Nat×List (List Int))=>[(7,.sc (.int .i64 t.1)),(6,.slo 33 1 0 t.2.length),(14,.any),(15,.any),(16,.any),(17,.any),(18,.any),(19,.any),(20,.any),(21,.any),(22,.any),(23,.any),(24,.any),(25,.any),(26,.any),(27,.any),(28,.any),(29,.any),(30,.any),(31,.any),(32,.any),(33,.any)]) (fun (t:Nat×List (List Int))=>[(33,.row 1 (t.2.map rowL)),(31,.dead),(32,.dead)]) (fun (t:Nat×List (List Int))=>t.1≤b.length+S∧t.2.length≤t.1∧t.2++chunks S b.length (b.drop t.1)=C) (fun (t:Nat×List (List Int))=>b.length-t.1) ((0,[])) (⟨Nat.zero_le _,by simp,by simpa using hC⟩) (by intro _;simp (disch:=omega) only [seval,go_sem,cnd,intV,shV,convV,strV];rfl) (by intro _;simp (disch:=omega) only [seval,go_sem,cnd,intV,shV,convV,strV];rfl) (by (refine leQL_spec ?_);(try simp only [seval,go_sem]);done) (by (refine leQH_spec ?_);(try simp only [seval,go_sem]);done) (fun t hI=>?_))
 all_goals
  obtain ⟨i,a⟩:=t
  obtain ⟨hi,hal,hf⟩:=hI
  simp only at hi hal hf
  have hll:(a.map rowL).length=a.length:=List.length_map _
  by_cases hlt:i<b.length
  ·rw [chunks_step (by omega) hlt] at hf
   by_cases hc:i+S≤b.length
   ·have hsl:((b.map rowW).take (i+S)).drop i=((b.drop i).take S).map rowW:=by rw [List.map_take,List.map_drop,List.drop_take,Nat.add_sub_cancel_left]
    have hln:(((b.drop i).take S).map rowW).length=S:=by simp;omega
    have hmn:((i:Int)+S).toNat=i+S:=by omega
    have htk:(((b.drop i).take S).map rowW).take S=((b.drop i).take S).map rowW:=List.take_of_length_le (by rw [hln];exact Nat.le_refl _)
    (all_goals (try have hZ:=(And.intro hsl (And.intro hln (And.intro hmn (And.intro htk hll)))));(repeat' (first|((with_reducible refine isTriD ?_);(with_reducible refine TriD.frz 31 (by simp only [seval,go_sem,List.length_map,hZ];rfl) (by simp only [seval,go_sem,List.length_map,hZ];rfl) ?_;refine LVs (st:=[]) ?_))|(with_reducible (refine TVq (st:=[]) ?_))|simp only [seval,go_sem,List.length_map,hZ]|(with_reducible refine oV_st (by simp (disch:=omega) only [seval,go_sem,cnd,intV,shV,convV,strV,List.length_map,hZ];rfl) ?_)))<;>(try (fail));all_goals (try clear hZ))
    all_goals (try (refine isNextM ((i+S,a++[(b.drop i).take S])) (by (refine leQL_spec ?_);(try simp only [seval,go_sem,rowL]);first|((repeat' (with_reducible apply And.intro))<;>first|rfl|(simp [rowL];done));done) (by (refine leQH_spec ?_);(try simp only [seval,go_sem,rowL]);first|((repeat' (with_reducible apply And.intro))<;>first|(simp [rowL];done));done) ?_ ?_<;>(try (omega))))
    all_goals (try exact ⟨by simp only;omega,by simp only [List.length_append,List.length_cons,List.length_nil];omega,by simp only [List.append_assoc,List.cons_append,List.nil_append];exact hf⟩)
   ·have hts:(b.drop i).take S=b.drop i:=List.take_of_length_le (by rw [List.length_drop];omega)
    rw [hts] at hf
    have hsl:(b.map rowW).drop i=(b.drop i).map rowW:=List.map_drop.symm
    have hln:((b.drop i).map rowW).length=b.length-i:=by simp
    have htk:((b.drop i).map rowW).take (b.length-i)=(b.drop i).map rowW:=List.take_of_length_le (by rw [hln];exact Nat.le_refl _)
    (all_goals (try have hZ:=(And.intro hsl (And.intro hln (And.intro htk hll))));(repeat' (first|((with_reducible refine isTriD ?_);(with_reducible refine TriD.frz 31 (by simp only [seval,go_sem,List.length_map,hZ];rfl) (by simp only [seval,go_sem,List.length_map,hZ];rfl) ?_;refine LVs (st:=[]) ?_))|(with_reducible (refine TVq (st:=[]) ?_))|simp only [seval,go_sem,List.length_map,hZ]|(with_reducible refine oV_st (by simp (disch:=omega) only [seval,go_sem,cnd,intV,shV,convV,strV,List.length_map,hZ];rfl) ?_)))<;>(try (fail));all_goals (try clear hZ))
    all_goals (try (refine isNextM ((i+S,a++[b.drop i])) (by (refine leQL_spec ?_);(try simp only [seval,go_sem,rowL]);first|((repeat' (with_reducible apply And.intro))<;>first|rfl|(simp [rowL];done));done) (by (refine leQH_spec ?_);(try simp only [seval,go_sem,rowL]);first|((repeat' (with_reducible apply And.intro))<;>first|(simp [rowL];done));done) ?_ ?_<;>(try (omega))))
    all_goals (try exact ⟨by simp only;omega,by simp only [List.length_append,List.length_cons,List.length_nil];omega,by simp only [List.append_assoc,List.cons_append,List.nil_append];exact hf⟩)
  ·rw [chunks_end (by omega),List.append_nil] at hf
   subst hf
   have htk:(a.map rowL).take a.length=a.map rowL:=List.take_of_length_le (by rw [hll];exact Nat.le_refl _)
   (all_goals (try have hZ:=(And.intro hll htk));(repeat' (first|(with_reducible refine isRet ?_;(refine RetOK.frz 33 (by simp only [seval,go_sem];rfl) (by simp only [seval,go_sem,hZ];rfl) ?_);(with_reducible refine isRet ?_;refine RetOK.q rfl rfl (by simp only [seval,go_sem];rfl) (by decide) (by simp only [seval,go_sem];rfl) (by simp only [seval,go_sem];rfl) rfl ?_<;>(try simp only [seval,go_sem,hZ])<;>(repeat' (with_reducible apply And.intro))<;>(try rfl)))|(with_reducible (refine TVq (st:=[]) ?_))|simp only [seval,go_sem,hZ]|(with_reducible refine oV_st (by simp (disch:=omega) only [seval,go_sem,cnd,intV,shV,convV,strV,hZ];rfl) ?_)))<;>(try (fail));all_goals (try clear hZ))
theorem mapO_rowW: ∀ zs:List Int,mapO Go.Avm.byteOf (zs.map rowW)=some zs
 | []=>rfl
 | z::zs=>by simp [mapO,rowW,Go.Avm.byteOf,mapO_rowW zs]
theorem strNums_eq {a b:List Int} (ha: ∀ z∈a,0≤z∧z≤255) (hb: ∀ z∈b,0≤z∧z≤255):((strOfNums a).toList==(strOfNums b).toList)=decide (a=b):=by
 rw [Go.ByteArray.toList_eq,Go.ByteArray.toList_eq]
 simp only [strOfNums]
 rw [Bool.eq_iff_iff,beq_iff_eq,decide_eq_true_eq]
 constructor
 ·intro h
  have key: ∀ (a b:List Int),(∀ z∈a,0≤z∧z≤255)→(∀ z∈b,0≤z∧z≤255)→(a.map fun n=>UInt8.ofNat n.toNat)=(b.map fun n=>UInt8.ofNat n.toNat)→a=b:=by
   intro a
   induction a with
   | nil=>intro b _ _ h;cases b with
     | nil=>rfl
     | cons y b=>cases h
   | cons x a ih=>
     intro b ha hb h
     cases b with
     | nil=>cases h
     | cons y b=>
       simp only [l_3,List.cons.injEq] at h
       obtain ⟨h1,h2⟩:=h
       have hx:=ha x (by simp)
       have hy:=hb y (by simp)
       have h3:=congrArg UInt8.toNat h1
       simp only [UInt8.toNat_ofNat'] at h3
       rw [ih b (fun z hz=>ha z (by simp [hz])) (fun z hz=>hb z (by simp [hz])) h2]
       congr 1
       omega
  exact key a b ha hb (by simpa using h)
 ·rintro rfl;rfl
set_option maxRecDepth 100000 in set_option maxHeartbeats 6400000 in
theorem rshared_calls {os ns:List (List Int)} (ho:os.length≤1000000) (hn:ns.length≤1000000) (hob: ∀ x∈os, ∀ z∈x,0≤z∧z≤255) (hnb: ∀ x∈ns, ∀ z∈x,0≤z∧z≤255):ACalls Tryz.prog 47 [.sl 1 (os.map rowL), .sl 1 (ns.map rowL)] (.sl 1 ((sharedR os ns).map rowBo)) []:=by
 generalize hR:sharedR os ns=R
 refine of_tri [] [31,32] Tryz.func47 rfl call47 rfl (by decide) (by decide) rfl rfl Tryz.ntmps47 (by simp (disch:=omega) only [seval,go_sem,cnd,intV,shV,convV,strV,List.replicate,l_2,l_1];rfl) (by simp (disch:=omega) only [seval,go_sem,cnd,intV,shV,convV,strV,l_2,l_1];rfl) ?_
 ((repeat' (first|(with_reducible (refine TVq (st:=[29]) ?_))|simp only [seval,go_sem]))<;>(try (fail)))
 all_goals (refine Tri.virt 5 32 1 (by first|(simp only [seval,go_sem];done)) (by first|(simp only [seval,go_sem];done)) (by simp only [seval,go_sem];rfl) ?_)
 all_goals (with_reducible refine Tri.loopU (fun (t:Nat×List Bool)=>[(6,.sc (.int .i64 t.1)),(5,.slo 32 1 0 t.2.length),(7,.any),(8,.any),(9,.any),(10,.any),(11,.any),(12,.any),(13,.any),(14,.any),(15,.any),(16,.any),(17,.any),(18,.any),(19,.any),(20,.any),(21,.any),(22,.any),(23,.any),(24,.any),(25,.any),(26,.any),(27,.any),(28,.any),(29,.any),(30,.any),(31,.any),(32,.any)]) (fun (t:Nat×List Bool)=>[(32,.row 1 (t.2.map rowBo)),(31,.dead)]) (fun (t:Nat×List Bool)=>t.1≤ns.length∧t.2.length=t.1∧t.2++sharedR (os.drop t.1) (ns.drop t.1)=R) (fun (t:Nat×List Bool)=>ns.length-t.1) ((0,[])) (⟨Nat.zero_le _,by simp,by simpa using hR⟩) (by intro _;simp (disch:=omega) only [seval,go_sem,cnd,intV,shV,convV,strV];rfl) (by intro _;simp (disch:=omega) only [seval,go_sem,cnd,intV,shV,convV,strV];rfl) (by (refine leQL_spec ?_);(try simp only [seval,go_sem]);done) (by (refine leQH_spec ?_);(try simp only [seval,go_sem]);done) (fun t hI=>?_))
 all_goals
  obtain ⟨i,a⟩:=t
  obtain ⟨hi,hal,hf⟩:=hI
  simp only at hi hal hf
  have hll:(a.map rowBo).length=a.length:=List.length_map _
  by_cases hlt:i<ns.length
  ·obtain ⟨x,hx⟩:=get_lt hlt
   have hx':=get_map rowL hx
   rw [drop_get hx] at hf
   by_cases hc:i<os.length
   ·obtain ⟨o,ho1⟩:=get_lt hc
    have ho':=get_map rowL ho1
    rw [drop_get ho1,sharedR] at hf
    have hse:=strNums_eq (hob o (List.mem_of_getElem? ho1)) (hnb x (List.mem_of_getElem? hx))
    (all_goals (try have hZ:=(And.intro hx' (And.intro ho' (And.intro hse hll))));(repeat' (first|((with_reducible refine isTriD ?_);((with_reducible first|refine TriD.step (by simp only [seval,go_sem,rowL,mapO_rowW,hZ];rfl) ?_|refine TriD.step (by simp (disch:=omega) only [seval,go_sem,cnd,intV,shV,convV,strV,rowL,mapO_rowW,hZ];rfl) ?_);refine LVs (st:=[29]) ?_))|(with_reducible refine isDrawnN 5 ?_;refine Tri.mixedP 5 mix 21 rfl (.f 0 <| .f 1 <| .f 2 <| .f 3 <| .f 4 <| .f 5 <| .f 6 <| .f 7 <| .f 8 <| .f 11 <| .f 12 <| .f 13 <| .r 9 <| .r 14 <| .a <| .b 10 (.a <| .b 15 (.f 16 <| .f 17 <| .a <| .b 18 (.a <| .b 19 (.f 20 <| .d) .e) .e) .e) <| .b 15 (.a <| .b 10 (.f 16 <| .f 17 <| .a <| .b 18 (.a <| .b 19 (.f 20 <| .d) .e) .e) .e) .e) (by kernel_rfl) ?_)|(with_reducible refine isAnyP ?_;first|refine AnyP.D ?_|refine AnyP.F (by simp only [seval,go_sem,l_7,l_6];rfl) (by first|(simp only [seval,go_sem,rowL,mapO_rowW,hZ];done)) (by first|(simp only [seval,go_sem,rowL,mapO_rowW,hZ];with_reducible rfl)|(simp (disch:=omega) only [seval,go_sem,cnd,intV,shV,convV,strV,rowL,mapO_rowW,hZ];with_reducible rfl)) ?_|refine AnyP.R (by simp only [seval,go_sem,l_7,l_6];rfl) (by first|(refine .inl ?_;simp only [seval,go_sem,rowL,mapO_rowW,hZ];done)) (by first|(simp only [seval,go_sem,rowL,mapO_rowW,hZ];with_reducible rfl)) ?_|refine AnyP.A ?_)|(with_reducible first|exact NextsP.E|refine NextsP.B (by simp only [seval,go_sem,l_7,l_6];rfl) ?_ ?_)|(with_reducible (refine TVq (st:=[29]) ?_))|simp only [seval,go_sem,rowL,mapO_rowW,hZ]|(with_reducible refine oV_st (by simp (disch:=omega) only [seval,go_sem,cnd,intV,shV,convV,strV,rowL,mapO_rowW,hZ];rfl) ?_)))<;>(try (fail));all_goals (try clear hZ))
    all_goals (try (refine isNextM ((i+1,a++[decide (o=x)])) (by (refine leQL_spec ?_);(try simp only [seval,go_sem,rowBo]);first|((repeat' (with_reducible apply And.intro))<;>first|rfl|(simp [rowBo];done));done) (by (refine leQH_spec ?_);(try simp only [seval,go_sem,rowBo]);first|((repeat' (with_reducible apply And.intro))<;>first|(simp [rowBo];done));done) ?_ ?_<;>(try (omega))))
    all_goals (try exact ⟨by simp only;omega,by simp only [List.length_append,List.length_cons,List.length_nil];omega,by simp only [List.append_assoc,List.cons_append,List.nil_append];exact hf⟩)
   ·rw [List.drop_eq_nil_of_le (by omega),sharedR] at hf
    have hcd:decide ((i:Int)<(os.length:Int))=false:=decide_eq_false (by omega)
    have hcl:(os.map rowL).length=os.length:=List.length_map _
    (all_goals (try have hZ:=(And.intro hx' (And.intro hll (And.intro hcd hcl))));(repeat' (first|((with_reducible refine isTriD ?_);((with_reducible first|refine TriD.step (by simp only [seval,go_sem,rowL,hZ];rfl) ?_|refine TriD.step (by simp (disch:=omega) only [seval,go_sem,cnd,intV,shV,convV,strV,rowL,hZ];rfl) ?_);refine LVs (st:=[29]) ?_))|(with_reducible refine isDrawnN 5 ?_;refine Tri.mixedP 5 mix 21 rfl (.f 0 <| .f 1 <| .f 2 <| .f 3 <| .f 4 <| .f 5 <| .f 6 <| .f 7 <| .f 8 <| .f 11 <| .f 12 <| .f 13 <| .r 9 <| .r 14 <| .a <| .b 10 (.a <| .b 15 (.f 16 <| .f 17 <| .a <| .b 18 (.a <| .b 19 (.f 20 <| .d) .e) .e) .e) <| .b 15 (.a <| .b 10 (.f 16 <| .f 17 <| .a <| .b 18 (.a <| .b 19 (.f 20 <| .d) .e) .e) .e) .e) (by kernel_rfl) ?_)|(with_reducible refine isAnyP ?_;first|refine AnyP.D ?_|refine AnyP.F (by simp only [seval,go_sem,l_7,l_6];rfl) (by first|(simp only [seval,go_sem,rowL,hZ];done)) (by first|(simp only [seval,go_sem,rowL,hZ];with_reducible rfl)|(simp (disch:=omega) only [seval,go_sem,cnd,intV,shV,convV,strV,rowL,hZ];with_reducible rfl)) ?_|refine AnyP.R (by simp only [seval,go_sem,l_7,l_6];rfl) (by first|(refine .inr ?_;simp only [seval,go_sem,rowL,hZ,gslot,dsOf_get,l_7,l_6];done)) (by first|(simp only [seval,go_sem,rowL,hZ];with_reducible rfl)) ?_|refine AnyP.A ?_)|(with_reducible first|exact NextsP.E|refine NextsP.B (by simp only [seval,go_sem,l_7,l_6];rfl) ?_ ?_)|(with_reducible (refine TVq (st:=[29]) ?_))|simp only [seval,go_sem,rowL,hZ]|(with_reducible refine oV_st (by simp (disch:=omega) only [seval,go_sem,cnd,intV,shV,convV,strV,rowL,hZ];rfl) ?_)))<;>(try (fail));all_goals (try clear hZ))
    all_goals (try (refine isNextM ((i+1,a++[false])) (by (refine leQL_spec ?_);(try simp only [seval,go_sem,rowBo]);first|((repeat' (with_reducible apply And.intro))<;>first|rfl|(simp [rowBo];done));done) (by (refine leQH_spec ?_);(try simp only [seval,go_sem,rowBo]);first|((repeat' (with_reducible apply And.intro))<;>first|(simp [rowBo];done));done) ?_ ?_<;>(try (omega))))
    all_goals (try exact ⟨by simp only;omega,by simp only [List.length_append,List.length_cons,List.length_nil];omega,by simp only [List.append_assoc,List.cons_append,List.nil_append,List.drop_eq_nil_of_le (show os.length≤i+1 by omega)];exact hf⟩)
  ·rw [List.drop_eq_nil_of_le (show ns.length≤i by omega)] at hf
   have hz:sharedR (os.drop i) []=[]:=by cases os.drop i<;>rfl
   rw [hz,List.append_nil] at hf
   subst hf
   have htk:(a.map rowBo).take a.length=a.map rowBo:=List.take_of_length_le (by rw [hll];exact Nat.le_refl _)
   (all_goals (try have hZ:=(And.intro hll htk));(repeat' (first|(with_reducible refine isRet ?_;(refine RetOK.frz 32 (by simp only [seval,go_sem];rfl) (by simp only [seval,go_sem,hZ];rfl) ?_);(with_reducible refine isRet ?_;refine RetOK.q rfl rfl (by simp only [seval,go_sem];rfl) (by decide) (by simp only [seval,go_sem];rfl) (by simp only [seval,go_sem];rfl) rfl ?_<;>(try simp only [seval,go_sem,hZ])<;>(repeat' (with_reducible apply And.intro))<;>(try rfl)))|(with_reducible (refine TVq (st:=[29]) ?_))|simp only [seval,go_sem,hZ]|(with_reducible refine oV_st (by simp (disch:=omega) only [seval,go_sem,cnd,intV,shV,convV,strV,hZ];rfl) ?_)))<;>(try (fail));all_goals (try clear hZ))
set_option maxRecDepth 100000 in set_option maxHeartbeats 3200000 in
theorem at_calls {l:List Int} {i:Nat} (hi:i≤1000000):ACalls Tryz.prog 10 [.sl 1 (l.map rowI), .sc (.int .i64 i)] (.sc (.int .i64 (atK l i))) []:=by
 by_cases h0:l.length=0
 ·have e:atK l i=(i:Int)%65536:=by rw [atK,if_pos h0]
  rw [e]
  refine of_tri [] [] Tryz.func10 rfl call10 rfl (by decide) (by decide) rfl rfl Tryz.ntmps10 (by simp (disch:=omega) only [seval,go_sem,cnd,intV,shV,convV,strV,List.replicate,l_2,l_1];rfl) (by simp (disch:=omega) only [seval,go_sem,cnd,intV,shV,convV,strV,l_2,l_1];rfl) ?_
  ((repeat' (first|(with_reducible refine isRet ?_;refine RetV (rs:=[.tmp 4]) (by with_unfolding_all rfl) rfl ?_<;>simp only [seval,go_sem]<;>(repeat' (with_reducible apply And.intro))<;>(try rfl))|(with_reducible (refine TVq (st:=[]) ?_))|simp only [seval,go_sem]|(with_reducible refine oV_st (by simp (disch:=omega) only [seval,go_sem,cnd,intV,shV,convV,strV];rfl) ?_)))<;>(try (fail)))
 ·have hlt:i%l.length<l.length:=Nat.mod_lt _ (by omega)
  obtain ⟨x,hx⟩:=get_lt hlt
  have hx':=get_map rowI hx
  have e:atK l i=x%65536+((i/l.length:Nat):Int):=by rw [atK,if_neg h0,hx];rfl
  rw [e]
  have h1:((i:Int)%(l.length:Int))=((i%l.length:Nat):Int):=rfl
  have h2:((i:Int)/(l.length:Int))=((i/l.length:Nat):Int):=rfl
  have h3:i/l.length≤i:=Nat.div_le_self _ _
  refine of_tri [] [] Tryz.func10 rfl call10 rfl (by decide) (by decide) rfl rfl Tryz.ntmps10 (by simp (disch:=omega) only [seval,go_sem,cnd,intV,shV,convV,strV,List.replicate,l_2,l_1];rfl) (by simp (disch:=omega) only [seval,go_sem,cnd,intV,shV,convV,strV,l_2,l_1];rfl) ?_
  generalize i/l.length=q at *
  generalize i%l.length=r at *
  (all_goals (try have hZ:=(And.intro hx' (And.intro h1 h2)));(repeat' (first|(with_reducible refine ListD.nil ?_)|((with_reducible refine isListD ?_);(with_reducible first|refine ListD.step (by simp only [seval,go_sem,rowI,hZ];rfl) ?_|refine ListD.step (by simp (disch:=omega) only [seval,go_sem,cnd,intV,shV,convV,strV,rowI,hZ];rfl) ?_))|(with_reducible refine isDrawn ?_;refine Tri.drawnD mix (by kernel_rfl) (by simp only [l_3,l_4];rfl) ?_)|(with_reducible refine isRet ?_;refine RetV (rs:=[.tmp 4]) (by with_unfolding_all rfl) rfl ?_<;>simp only [seval,go_sem]<;>(repeat' (with_reducible apply And.intro))<;>(try rfl))|(with_reducible (refine TVq (st:=[]) ?_))|simp only [seval,go_sem,rowI,hZ]|(with_reducible refine oV_st (by simp (disch:=omega) only [seval,go_sem,cnd,intV,shV,convV,strV,rowI,hZ];rfl) ?_)))<;>(try (fail));all_goals (try clear hZ))
def w8 (n:Int):Int:=IntKind.u8.wrap n
set_option maxRecDepth 100000 in set_option maxHeartbeats 6400000 in
theorem bytesk_calls {n:Int} (h0:0≤n) (h1:n≤1000000000):ACalls Tryz.prog 22 [.sc (.int .i64 n)] (.sl 1 ((bytesK n).map rowW)) []:=by
 refine of_tri [] [16,17] Tryz.func22 rfl call22 rfl (by decide) (by decide) rfl rfl Tryz.ntmps22 (by simp (disch:=omega) only [seval,go_sem,cnd,intV,shV,convV,strV,List.replicate,l_2,l_1];rfl) (by simp (disch:=omega) only [seval,go_sem,cnd,intV,shV,convV,strV,l_2,l_1];rfl) ?_
 ((repeat' (first|(with_reducible (refine TVq (st:=[]) ?_))|simp only [seval,go_sem]))<;>(try (fail)))
 all_goals (refine Tri.virt 3 17 1 (by first|(simp only [seval,go_sem];done)) (by first|(simp only [seval,go_sem];done)) (by simp only [seval,go_sem];rfl) ?_)
 all_goals (with_reducible refine Tri.loopU (fun (k:Nat)=>[(4,.sc (.int .i64 k)),(3,.slo 17 1 0 k),(5,.any),(6,.any),(7,.any),(8,.any),(9,.any),(10,.any),(11,.any),(12,.any),(13,.any),(14,.any),(15,.any),(16,.any),(17,.any),(18,.any),(19,.any),(20,.any),(21,.any),(22,.any),(23,.any),(24,.any),(25,.any),(26,.any),(27,.any),(28,.any)]) (fun (k:Nat)=>[(17,.row 1 (((List.range k).map (byteK n)).map rowW)),(16,.dead)]) (fun (k:Nat)=>k≤(n/8%64%61).toNat) (fun (k:Nat)=>64-k) (0) (Nat.zero_le _) (by intro _;simp (disch:=omega) only [seval,go_sem,cnd,intV,shV,convV,strV];rfl) (by intro _;simp (disch:=omega) only [seval,go_sem,cnd,intV,shV,convV,strV];rfl) (by (refine leQL_spec ?_);(try simp only [seval,go_sem,List.range_zero,l_4]);done) (by (refine leQH_spec ?_);(try simp only [seval,go_sem,List.range_zero,l_4]);done) (fun k hI=>?_))
 all_goals
  have hll:(((List.range k).map (byteK n)).map rowW).length=k:=by simp
  have hk61:k≤61:=by omega
  by_cases hlt:(k:Int)<n/8%64%61
  ·have hl1:(((List.range k).map (byteK n)).map rowW++[[D.sc (.int .u8 (k:Int))]]).length=k+1:=by simp
   have hgk:(((List.range k).map (byteK n)).map rowW++[[D.sc (.int .u8 (k:Int))]])[k]? = some [D.sc (.int .u8 (k:Int))]:=by
    rw [List.getElem?_append_right (by rw [hll];exact Nat.le_refl _),hll,Nat.sub_self];rfl
   have hgs: ∀ r,(((List.range k).map (byteK n)).map rowW++[[D.sc (.int .u8 (k:Int))]]).set k r=((List.range k).map (byteK n)).map rowW++[r]:=fun r=>by
    rw [List.set_append_right _ _ (by rw [hll];exact Nat.le_refl _),hll,Nat.sub_self];rfl
   have hrs:((List.range (k+1)).map (byteK n)).map rowW=((List.range k).map (byteK n)).map rowW++[rowW (byteK n k)]:=by rw [List.range_succ];simp
   by_cases hc:((k%16:Nat):Int)=n/512%16
   ·have hbk:byteK n k=n%256:=by rw [byteK,if_pos hc]
    have hw8:IntKind.u8.wrap n=n%256:=by simp [IntKind.wrap,IntKind.bits,IntKind.signed]
    (all_goals (try have hZ:=(And.intro hll (And.intro hl1 (And.intro hgk (And.intro hgs hw8)))));(repeat' (first|(with_reducible (refine TVq (st:=[]) ?_))|simp only [seval,go_sem,hZ]|(with_reducible refine oV_st (by simp (disch:=omega) only [seval,go_sem,cnd,intV,shV,convV,strV,hZ];rfl) ?_)))<;>(try (fail));all_goals (try clear hZ))
    all_goals (try (refine isNextM (k+1) (by (refine leQL_spec ?_);(try simp only [seval,go_sem,List.range_succ,hbk,rowW]);first|((repeat' (with_reducible apply And.intro))<;>first|rfl);done) (by (refine leQH_spec ?_);(try simp only [seval,go_sem,List.range_succ,hbk,rowW]);first|((repeat' (with_reducible apply And.intro))<;>first|(simp [List.range_succ,hbk,rowW];done));done) ?_ ?_<;>(try (omega))))
    all_goals (try omega)
   ·have hbk:byteK n k=(k:Int):=by rw [byteK,if_neg hc]
    (all_goals (try have hZ:=(And.intro hll hl1));(repeat' (first|(with_reducible (refine TVq (st:=[]) ?_))|simp only [seval,go_sem,hZ]|(with_reducible refine oV_st (by simp (disch:=omega) only [seval,go_sem,cnd,intV,shV,convV,strV,hZ];rfl) ?_)))<;>(try (fail));all_goals (try clear hZ))
    all_goals (try (refine isNextM (k+1) (by (refine leQL_spec ?_);(try simp only [seval,go_sem,List.range_succ,hbk,rowW]);first|((repeat' (with_reducible apply And.intro))<;>first|rfl);done) (by (refine leQH_spec ?_);(try simp only [seval,go_sem,List.range_succ,hbk,rowW]);first|((repeat' (with_reducible apply And.intro))<;>first|(simp [List.range_succ,hbk,rowW];done));done) ?_ ?_<;>(try (omega))))
    all_goals (try omega)
  ·have hk:(n/8%64%61).toNat=k:=by omega
   have htk:(((List.range k).map (byteK n)).map rowW).take k=((List.range k).map (byteK n)).map rowW:=List.take_of_length_le (by rw [hll];exact Nat.le_refl _)
   rw [bytesK,hk]
   (all_goals (try have hZ:=(And.intro hll htk));(repeat' (first|(with_reducible refine isRet ?_;(refine RetOK.frz 17 (by simp only [seval,go_sem];rfl) (by simp only [seval,go_sem,hZ];rfl) ?_);(with_reducible refine isRet ?_;refine RetOK.q rfl rfl (by simp only [seval,go_sem];rfl) (by decide) (by simp only [seval,go_sem];rfl) (by simp only [seval,go_sem];rfl) rfl ?_<;>(try simp only [seval,go_sem,hZ])<;>(repeat' (with_reducible apply And.intro))<;>(try rfl)))|(with_reducible (refine TVq (st:=[]) ?_))|simp only [seval,go_sem,hZ]|(with_reducible refine oV_st (by simp (disch:=omega) only [seval,go_sem,cnd,intV,shV,convV,strV,hZ];rfl) ?_)))<;>(try (fail));all_goals (try clear hZ))
end Go.Proofs.YtmgodadmafcliaaGreat
