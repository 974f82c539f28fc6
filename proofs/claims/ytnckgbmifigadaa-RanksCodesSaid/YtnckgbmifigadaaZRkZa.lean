/- Ranks: Encode of the program and of the reference walked. -/
import Derived.Test.YtnckgbmifigadaaZRkZp
set_option linter.unusedSimpArgs false
set_option linter.unusedVariables false
namespace Go.Proofs.Ytnckgbmifigadaa
open Go.RowKit Go.Avm
set_option maxRecDepth 100000 in set_option maxHeartbeats 6400000 in
theorem numberr_calls {bs : List Int} {ns : List Nat} {n m : Nat} (hn : bs.length = n) (hm : ns.length = m) (hl : n ≤ 1000000) (hml : m ≤ 1000) (hr : ∀ z ∈ ns,z ≤ 4611686018427387904) : MCalls Try.prog 102 [.row 1 (bs.map rowB),.row 1 (ns.map rowNat)] [.slo 0 1 0 n,.slo 1 1 0 m] (.slo 2 1 0 (bs ++ numsB ns).length) [.dead,.dead,.row 1 ((bs ++ numsB ns).map rowB)] := by
  subst hn hm
  refine of_tri [1000,1001] [17,22] Try.func102 rfl call102 rfl (by decide) (by decide) rfl rfl Try.ntmps102 (by simp (disch := omega) only [seval,go_sem,cnd,intV,shV,convV,strV,List.replicate,List.zip_nil_left,List.zip_cons_cons];rfl) (by simp (disch := omega) only [seval,go_sem,cnd,intV,shV,convV,strV,List.zip_nil_left,List.zip_cons_cons];rfl) ?_
  ((repeat' (first|(with_reducible (first|refine Tri.seq ?_|refine Tri.block ?_|refine TriD.nil ?_|refine thenQ_n ?_|refine Tri.regionD (by simp only [List.map_cons,List.map_nil];rfl) ?_))|((with_reducible refine isTriD ?_);first|(with_reducible refine TriD.step (by simp only [seval,go_sem];rfl) ?_)))) <;> (try (fail)))
  (refine Tri.rn 1000 22 (by decide) (by first | (simp only [seval, go_sem]; first | done | fail) | rfl | decide) (by simp only [seval, go_sem]; rfl) ?_)
  (with_reducible refine Tri.loopU (fun (t : Nat × List Int) => [(11,.sc (.int .i64 t.1)),(0,.slo 22 1 0 t.2.length),(6,.any),(7,.any),(8,.any),(12,.any),(13,.any),(14,.any),(15,.any),(16,.any),(17,.any),(18,.any),(19,.any),(20,.any),(21,.any),(22,.any),(23,.any)]) (fun (t : Nat × List Int) => [(22,.row 1 (t.2.map rowB)),(17,.dead)]) (fun (t : Nat × List Int) => t.1 ≤ ns.length ∧ t.2.length ≤ bs.length + 9 * t.1 ∧ t.2 ++ numsB (ns.drop t.1) = bs ++ numsB ns) (fun (t : Nat × List Int) => ns.length - t.1) ((0,bs)) (⟨Nat.zero_le _,Nat.le_refl _,rfl⟩) (by intro _;simp (disch := omega) only [seval,go_sem,cnd,intV,shV,convV,strV];rfl) (by intro _;simp (disch := omega) only [seval,go_sem,cnd,intV,shV,convV,strV];rfl) (by (first|refine leQL_spec ?_);(try simp only [seval,go_sem]);first|done) (by (first|refine leQH_spec ?_);(try simp only [seval,go_sem]);first|done) (fun t hI => ?_))
  obtain ⟨k, out⟩ := t
  obtain ⟨hk, hl2, he⟩ := hI
  simp only at hk hl2 he
  by_cases hlt : k < ns.length
  · obtain ⟨z, hz⟩ := get_lt hlt
    have hz' := get_map rowNat hz
    have hzr := hr z (List.mem_of_getElem? hz)
    have hu := uintB_len hzr
    rw [drop_get hz, numsB] at he
    ((repeat' (first|(with_reducible (first|refine Tri.seq ?_|refine Tri.block ?_|refine Tri.skip ?_|refine TriD.nil ?_|refine thenQ_n ?_|refine inBlockQ_n ?_|refine loopQ_n ?_|refine Tri.regionD (by simp only [List.map_cons,List.map_nil];rfl) ?_))|((with_reducible refine isTriD ?_);first|(with_reducible refine TriD.step (by simp only [seval,go_sem,hz',rowNat];rfl) ?_)|((with_reducible refine isCallD ?_);first|((with_reducible (first|refine TriD.dE (by simp only [seval,go_sem,hz',rowNat];rfl) (by simp only [seval,go_sem,hz',rowNat];first|rfl) ?_));first|refine CallK.c (dst := some 17) [17] (eui_calls ?_) (by simp only [seval,go_sem,hz',rowNat];rfl) ?_))|(with_reducible refine TriD.step (by simp (disch := omega) only [seval,go_sem,cnd,intV,shV,convV,strV,hz',rowNat];rfl) ?_))|(with_reducible refine isCond ?_;with_reducible refine Tri.cond (by simp only [seval,go_sem,hz',rowNat];rfl) (cvI ?_) (cvI ?_))|(with_reducible refine isCv ?_;intro hc;(try simp only [bls,reduceCtorEq] at hc);(try (exfalso;omega))))) <;> (try (first|(with_reducible assumption))))
    all_goals (try (refine isNextM ((k + 1,out ++ uintB z)) (by (first|refine leQL_spec ?_);(try simp only [seval,go_sem]);first|((repeat' (with_reducible apply And.intro)) <;> first|rfl|(simp [];done));first|done) (by (first|refine leQH_spec ?_);(try simp only [seval,go_sem]);first|((repeat' (with_reducible apply And.intro)) <;> first|(simp [];done));first|done) ?_ ?_ <;> (try (first|omega))))
    all_goals (try (exact ⟨by simp only; omega, by simp only [List.length_append]; omega, by simp only [List.append_assoc]; exact he⟩))
  · rw [List.drop_eq_nil_of_le (by omega), numsB, List.append_nil] at he
    rw [← he]
    ((repeat' (first|(with_reducible (first|refine Tri.seq ?_|refine Tri.exit ?_|refine Tri.ret ?_|refine TriD.nil ?_|refine thenQ_n ?_|refine thenQ_e ?_|refine inBlockQ_e ?_|refine loopQ_e ?_|refine Tri.regionD (by simp only [List.map_cons,List.map_nil];rfl) ?_))|((with_reducible refine isTriD ?_);first|(with_reducible refine TriD.step (by simp only [seval,go_sem];rfl) ?_)|(with_reducible refine TriD.step (by simp (disch := omega) only [seval,go_sem,cnd,intV,shV,convV,strV];rfl) ?_))|(with_reducible refine isCond ?_;with_reducible refine Tri.cond (by simp only [seval,go_sem];rfl) (cvI ?_) (cvI ?_))|(with_reducible refine isCv ?_;intro hc;(try simp only [bls,reduceCtorEq] at hc);(try (exfalso;omega)))|(with_reducible refine isRet ?_;refine RetOK.q rfl rfl (by simp only [seval,go_sem];rfl) (by decide) (by simp only [seval,go_sem];first|rfl) (by simp only [seval,go_sem];first|rfl) rfl ?_ <;> (try simp only [seval,go_sem]) <;> (repeat' (with_reducible apply And.intro)) <;> (try rfl)))) <;> (try (fail)))
set_option maxRecDepth 100000 in set_option maxHeartbeats 6400000 in
theorem numberr_nil {ns : List Nat} {m : Nat} (hm : ns.length = m) (hml : m ≤ 1000) (hr : ∀ z ∈ ns, z ≤ 4611686018427387904) : MCalls Try.prog 102 [.row 1 (ns.map rowNat)] [.sc (.slice none 0 0), .slo 0 1 0 m] (.slo 1 1 0 (numsB ns).length) [.dead, .row 1 ((numsB ns).map rowB)] := by
  subst hm
  refine of_tri [1000] [17,22] Try.func102 rfl call102 rfl (by decide) (by decide) rfl rfl Try.ntmps102 (by simp (disch := omega) only [seval,go_sem,cnd,intV,shV,convV,strV,List.replicate,List.zip_nil_left,List.zip_cons_cons];rfl) (by simp (disch := omega) only [seval,go_sem,cnd,intV,shV,convV,strV,List.zip_nil_left,List.zip_cons_cons];rfl) ?_
  ((repeat' (first|(with_reducible (first|refine Tri.seq ?_|refine Tri.block ?_|refine TriD.nil ?_|refine thenQ_n ?_|refine Tri.regionD (by simp only [List.map_cons,List.map_nil];rfl) ?_))|((with_reducible refine isTriD ?_);first|(with_reducible refine TriD.step (by simp only [seval,go_sem];rfl) ?_)))) <;> (try (fail)))
  (refine Tri.virt 0 22 1 (by first | (simp only [seval, go_sem]; first | done)) (by first | (simp only [seval, go_sem]; first | done)) (by simp only [seval, go_sem]; rfl) ?_)
  (with_reducible refine Tri.loopU (fun (t : Nat × List Int) => [(11,.sc (.int .i64 t.1)),(0,.slo 22 1 0 t.2.length),(6,.any),(7,.any),(8,.any),(12,.any),(13,.any),(14,.any),(15,.any),(16,.any),(17,.any),(18,.any),(19,.any),(20,.any),(21,.any),(22,.any),(23,.any)]) (fun (t : Nat × List Int) => [(22,.row 1 (t.2.map rowB)),(17,.dead)]) (fun (t : Nat × List Int) => t.1 ≤ ns.length ∧ t.2.length ≤ 9 * t.1 ∧ t.2 ++ numsB (ns.drop t.1) = numsB ns) (fun (t : Nat × List Int) => ns.length - t.1) ((0,[])) (⟨Nat.zero_le _,Nat.le_refl _,rfl⟩) (by intro _;simp (disch := omega) only [seval,go_sem,cnd,intV,shV,convV,strV];rfl) (by intro _;simp (disch := omega) only [seval,go_sem,cnd,intV,shV,convV,strV];rfl) (by (first|refine leQL_spec ?_);(try simp only [seval,go_sem]);first|done) (by (first|refine leQH_spec ?_);(try simp only [seval,go_sem]);first|done) (fun t hI => ?_))
  obtain ⟨k, out⟩ := t
  obtain ⟨hk, hl2, he⟩ := hI
  simp only at hk hl2 he
  by_cases hlt : k < ns.length
  · obtain ⟨z, hz⟩ := get_lt hlt
    have hz' := get_map rowNat hz
    have hzr := hr z (List.mem_of_getElem? hz)
    have hu := uintB_len hzr
    rw [drop_get hz, numsB] at he
    ((repeat' (first|(with_reducible (first|refine Tri.seq ?_|refine Tri.block ?_|refine Tri.skip ?_|refine TriD.nil ?_|refine thenQ_n ?_|refine inBlockQ_n ?_|refine loopQ_n ?_|refine Tri.regionD (by simp only [List.map_cons,List.map_nil];rfl) ?_))|((with_reducible refine isTriD ?_);first|(with_reducible refine TriD.step (by simp only [seval,go_sem,hz',rowNat];rfl) ?_)|((with_reducible refine isCallD ?_);first|((with_reducible (first|refine TriD.dE (by simp only [seval,go_sem,hz',rowNat];rfl) (by simp only [seval,go_sem,hz',rowNat];first|rfl) ?_));first|refine CallK.c (dst := some 17) [17] (eui_calls ?_) (by simp only [seval,go_sem,hz',rowNat];rfl) ?_))|(with_reducible refine TriD.step (by simp (disch := omega) only [seval,go_sem,cnd,intV,shV,convV,strV,hz',rowNat];rfl) ?_))|(with_reducible refine isCond ?_;with_reducible refine Tri.cond (by simp only [seval,go_sem,hz',rowNat];rfl) (cvI ?_) (cvI ?_))|(with_reducible refine isCv ?_;intro hc;(try simp only [bls,reduceCtorEq] at hc);(try (exfalso;omega))))) <;> (try (first|(with_reducible assumption))))
    all_goals (try (refine isNextM ((k + 1,out ++ uintB z)) (by (first|refine leQL_spec ?_);(try simp only [seval,go_sem]);first|((repeat' (with_reducible apply And.intro)) <;> first|rfl|(simp [];done));first|done) (by (first|refine leQH_spec ?_);(try simp only [seval,go_sem]);first|((repeat' (with_reducible apply And.intro)) <;> first|(simp [];done));first|done) ?_ ?_ <;> (try (first|omega))))
    all_goals (try (exact ⟨by simp only; omega, by simp only [List.length_append]; omega, by simp only [List.append_assoc]; exact he⟩))
  · rw [List.drop_eq_nil_of_le (by omega), numsB, List.append_nil] at he
    rw [← he]
    ((repeat' (first|(with_reducible (first|refine Tri.seq ?_|refine Tri.exit ?_|refine Tri.ret ?_|refine TriD.nil ?_|refine thenQ_n ?_|refine thenQ_e ?_|refine inBlockQ_e ?_|refine loopQ_e ?_|refine Tri.regionD (by simp only [List.map_cons,List.map_nil];rfl) ?_))|((with_reducible refine isTriD ?_);first|(with_reducible refine TriD.step (by simp only [seval,go_sem];rfl) ?_)|(with_reducible refine TriD.step (by simp (disch := omega) only [seval,go_sem,cnd,intV,shV,convV,strV];rfl) ?_))|(with_reducible refine isCond ?_;with_reducible refine Tri.cond (by simp only [seval,go_sem];rfl) (cvI ?_) (cvI ?_))|(with_reducible refine isCv ?_;intro hc;(try simp only [bls,reduceCtorEq] at hc);(try (exfalso;omega)))|(with_reducible refine isRet ?_;refine RetOK.q rfl rfl (by simp only [seval,go_sem];rfl) (by decide) (by simp only [seval,go_sem];first|rfl) (by simp only [seval,go_sem];first|rfl) rfl ?_ <;> (try simp only [seval,go_sem]) <;> (repeat' (with_reducible apply And.intro)) <;> (try rfl)))) <;> (try (fail)))
theorem textB_lenR {x : ByteArray} (h : 1 ≤ x.size ∧ x.size ≤ 32) : (textB x).length ≤ 41 := by
  have := uintB_len (n := x.size) (by omega)
  simp only [textB, List.length_append, bytesB_len]; omega
set_option maxRecDepth 100000 in set_option maxHeartbeats 6400000 in
theorem encr_ok {S T L : Nat} {ls : List (List ByteArray)} {sat : Bool} (hz : validR ⟨S, T, L, ls, sat⟩ = 0) : ACalls Try.prog 53 [dR ⟨S, T, L, ls, sat⟩] (.tup [.slo 0 1 0 (encRB S T L ls sat).length, .sc (.int .i64 0)]) [.row 1 ((encRB S T L ls sat).map rowB)] := by
  obtain ⟨S', T', L', e, b1, b2, b3, hll, hko⟩ := natR hz
  simp only [Rk.mk.injEq] at e
  simp only at hll hko
  have b1' : S ≤ 32 := by omega
  have b2' : T ≤ 1099511627776 := by omega
  have b3' : L ≤ 1099511627776 := by omega
  have hvd := validr_calls (r := ⟨S, T, L, ls, sat⟩) (by simp only; omega) (fun l hl => ⟨by have := (hko l hl).1; omega, fun x hx => by have := (hko l hl).2 x hx; omega⟩)
  rw [hz] at hvd
  have hn0 := numberr_nil (ns := [S, T, L, if sat then 1 else 0, ls.length]) (m := 5) rfl (by omega) (by intro z hz; simp only [List.mem_cons, List.not_mem_nil, or_false] at hz; rcases hz with rfl | rfl | rfl | rfl | rfl <;> first | omega | (split <;> omega))
  have hh := headR_len (S := S) (T := T) (L := L) (n := ls.length) (sat := sat) (by omega) (by omega) (by omega) (by omega)
  change MCalls Try.prog _ _ _ (.slo 1 1 0 (headR S T L sat ls.length).length) [.dead, .row 1 ((headR S T L sat ls.length).map rowB)] at hn0
  simp only [List.map_cons, List.map_nil, rowNat] at hn0
  simp only [encRB, dR] at hvd ⊢
  generalize headR S T L sat ls.length = H at *
  have c0 : ((0 : Nat) : Int) = 0 := rfl
  have c1 : ((1 : Nat) : Int) = 1 := rfl
  cases sat
  all_goals
    simp only [if_true, Bool.false_eq_true, if_false, c0, c1] at hn0
    refine of_tri [] [1,14,30,31,42,43,52,57] Try.func53 rfl call53 rfl (by decide) (by decide) rfl rfl Try.ntmps53 (by simp (disch := omega) only [seval,go_sem,cnd,intV,shV,convV,strV,List.replicate,List.zip_nil_left,List.zip_cons_cons];rfl) (by simp (disch := omega) only [seval,go_sem,cnd,intV,shV,convV,strV,List.zip_nil_left,List.zip_cons_cons];rfl) ?_
    ((repeat' (first|((with_reducible refine isTriD ?_);first|((with_reducible refine isCallD ?_);first|((with_reducible (first|(refine TriD.cI (dst := some 31) [31] (by simp only [seval,go_sem];rfl) (by simp only [seval,go_sem];first|rfl) (hn0) (by simp only [seval,go_sem];first|done) (by simp only [seval,go_sem];first|done) (by simp only [seval,go_sem];rfl) ?_)));refine LVs (st := []) ?_)|((with_reducible refine LVcall (st := []) ?_);simp only [seval,go_sem];first|(refine CallL.c (hvd) ?_))))|(with_reducible (first|refine TVq (st := []) ?_))|simp only [seval,go_sem]|(with_reducible refine oV_st (by simp (disch := omega) only [seval,go_sem,cnd,intV,shV,convV,strV];rfl) ?_))) <;> (try (fail)))
    all_goals (refine Tri.rn 31 57 (by decide) (by first | (simp only [seval, go_sem]; first | done | fail) | rfl | decide) (by simp only [seval, go_sem]; rfl) ?_)
    all_goals (refine Tri.bx 1 (by simp only [seval, go_sem]; rfl) (by simp only [seval, go_sem]; first | done | rfl) (by simp only [seval, go_sem]; rfl) ?_)
    all_goals (with_reducible refine Tri.loopU (fun (t : Nat × List Int) => [(35,.sc (.int .i64 t.1)),(6,.slo 57 1 0 t.2.length),(31,.any),(8,.any),(10,.any),(11,.any),(12,.any),(36,.any),(37,.any),(38,.any),(39,.any),(40,.any),(41,.any),(42,.any),(43,.any),(44,.any),(45,.any),(46,.any),(47,.any),(48,.any),(49,.any),(50,.any),(51,.any),(52,.any),(53,.any),(54,.any),(55,.any),(56,.any),(57,.any),(58,.any),(59,.any)]) (fun (t : Nat × List Int) => [(57,.row 1 (t.2.map rowB)),(42,.dead),(43,.dead),(52,.dead)]) (fun (t : Nat × List Int) => t.1 ≤ ls.length ∧ t.2.length ≤ 45 + 1600 * t.1 ∧ t.2 ++ levsB (ls.drop t.1) = H ++ levsB ls) (fun (t : Nat × List Int) => ls.length - t.1) ((0,H)) (⟨Nat.zero_le _,by simpa using hh,rfl⟩) (by intro _;simp (disch := omega) only [seval,go_sem,cnd,intV,shV,convV,strV];rfl) (by intro _;simp (disch := omega) only [seval,go_sem,cnd,intV,shV,convV,strV];rfl) (by (first|refine leQL_spec ?_);(try simp only [seval,go_sem]);first|done) (by (first|refine leQH_spec ?_);(try simp only [seval,go_sem]);first|done) (fun t hI => ?_))
    all_goals
      obtain ⟨i, out⟩ := t
      obtain ⟨hi, hl2, he⟩ := hI
      simp only at hi hl2 he
      by_cases hlt : i < ls.length
      · obtain ⟨l, hli⟩ := get_lt hlt
        have hli' := get_map lvD hli
        obtain ⟨hkl, hks⟩ := hko l (List.mem_of_getElem? hli)
        have hul := uintB_len (n := l.length) (by omega)
        have hnum := numberr_calls (bs := out) (ns := [l.length]) (n := out.length) (m := 1) rfl rfl (by omega) (by omega) (by intro z hz; simp only [List.mem_cons, List.not_mem_nil, or_false] at hz; omega)
        simp only [List.map_cons, List.map_nil, rowNat, numsB, List.append_nil] at hnum
        rw [drop_get hli, levsB] at he
        ((repeat' (first|((with_reducible refine isTriD ?_);first|((with_reducible refine isCallD ?_);first|((with_reducible (first|(refine TriD.cI (dst := some 43) [43] (by simp only [seval,go_sem,hli',lvD];rfl) (by simp only [seval,go_sem,hli',lvD];first|rfl) (hnum) (by simp only [seval,go_sem,hli',lvD];first|done) (by simp only [seval,go_sem,hli',lvD];first|done) (by simp only [seval,go_sem,hli',lvD];rfl) ?_)));refine LVs (st := []) ?_)))|(with_reducible (first|refine TVq (st := []) ?_))|simp only [seval,go_sem,hli',lvD]|(with_reducible refine oV_st (by simp (disch := omega) only [seval,go_sem,cnd,intV,shV,convV,strV,hli',lvD];rfl) ?_))) <;> (try (fail)))
        all_goals (refine Tri.rn 43 57 (by decide) (by first | (simp only [seval, go_sem]; first | done | fail) | rfl | decide) (by simp only [seval, go_sem]; rfl) ?_)
        all_goals (with_reducible refine Tri.loopU (fun (u : Nat × List Int) => [(46,.sc (.int .i64 u.1)),(6,.slo 57 1 0 u.2.length),(43,.any),(10,.any),(11,.any),(12,.any),(47,.any),(48,.any),(49,.any),(50,.any),(51,.any),(52,.any),(53,.any),(54,.any),(55,.any),(56,.any),(57,.any),(58,.any)]) (fun (u : Nat × List Int) => [(57,.row 1 (u.2.map rowB)),(52,.dead)]) (fun (u : Nat × List Int) => u.1 ≤ l.length ∧ u.2.length ≤ out.length + 9 + 50 * u.1 ∧ u.2 ++ (keysB (l.drop u.1) ++ levsB (ls.drop (i + 1))) = H ++ levsB ls) (fun (u : Nat × List Int) => l.length - u.1) ((0,out ++ uintB l.length)) (⟨Nat.zero_le _,by simp only [List.length_append];omega,by simp only [List.drop_zero,List.append_assoc];exact he⟩) (by intro _;simp (disch := omega) only [seval,go_sem,cnd,intV,shV,convV,strV];rfl) (by intro _;simp (disch := omega) only [seval,go_sem,cnd,intV,shV,convV,strV];rfl) (by (first|refine leQL_spec ?_);(try simp only [seval,go_sem]);first|done) (by (first|refine leQH_spec ?_);(try simp only [seval,go_sem]);first|done) (fun u hI => ?_))
        all_goals
          obtain ⟨k, o2⟩ := u
          obtain ⟨hk, hl3, he3⟩ := hI
          simp only at hk hl3 he3
          by_cases hkt : k < l.length
          · obtain ⟨x, hx⟩ := get_lt hkt
            have hx' := get_map rowKr hx
            have hxs := hks x (List.mem_of_getElem? hx)
            have htl := textB_lenR hxs
            rw [drop_get hx, keysB] at he3
            ((repeat' (first|((with_reducible refine isTriD ?_);first|((with_reducible refine isCallD ?_);first|((with_reducible refine LVcall (st := []) ?_);simp only [seval,go_sem,hx',rowKr,List.length_append,List.length_map];first|(refine CallL.n (et_calls ?_) ?_))))|(with_reducible (first|refine TVq (st := []) ?_))|simp only [seval,go_sem,hx',rowKr,List.length_append,List.length_map]|(with_reducible refine oV_st (by simp (disch := omega) only [seval,go_sem,cnd,intV,shV,convV,strV,hx',rowKr,List.length_append,List.length_map];rfl) ?_))) <;> (try (first|((with_reducible show (_ : Nat) ≤ _);omega))))
            all_goals (try (refine isNextM ((k + 1,o2 ++ textB x)) (by (first|refine leQL_spec ?_);(try simp only [seval,go_sem]);first|((repeat' (with_reducible apply And.intro)) <;> first|rfl|(simp [];done));first|done) (by (first|refine leQH_spec ?_);(try simp only [seval,go_sem]);first|((repeat' (with_reducible apply And.intro)) <;> first|(simp [];done));first|done) ?_ ?_ <;> (try (first|omega))))
            all_goals (try (exact ⟨by simp only; omega, by simp only [List.length_append]; omega, by simp only [List.append_assoc] at he3 ⊢; exact he3⟩))
          · rw [List.drop_eq_nil_of_le (by omega), keysB, List.nil_append] at he3
            ((repeat' (first | (with_reducible (first | refine TVq (st := []) ?_)) | simp only [seval, go_sem] | (with_reducible refine oV_st (by simp (disch := omega) only [seval, go_sem, cnd, intV, shV, convV, strV]; rfl) ?_))) <;> (try (fail)))
            all_goals (try (refine isNextM ((i + 1,o2)) (by (first|refine leQL_spec ?_);(try simp only [seval,go_sem]);first|((repeat' (with_reducible apply And.intro)) <;> first|rfl);first|done) (by (first|refine leQH_spec ?_);(try simp only [seval,go_sem]);first|done) ?_ ?_ <;> (try (first|omega))))
            all_goals (try (exact ⟨by simp only; omega, by simp only; omega, he3⟩))
      · rw [List.drop_eq_nil_of_le (by omega), levsB, List.append_nil] at he
        rw [← he]
        ((repeat' (first|(with_reducible refine isRet ?_;refine RetV (rs := [.tmp 2,.tmp 3]) (by with_unfolding_all rfl) rfl ?_ <;> simp only [seval,go_sem] <;> (repeat' (with_reducible apply And.intro)) <;> (try rfl))|(with_reducible (first|refine TVq (st := []) ?_))|simp only [seval,go_sem]|(with_reducible refine oV_st (by simp (disch := omega) only [seval,go_sem,cnd,intV,shV,convV,strV];rfl) ?_))) <;> (try (fail)))
set_option maxRecDepth 100000 in set_option maxHeartbeats 6400000 in
theorem encrr_ok {S T L : Nat} {ls : List (List ByteArray)} {sat : Bool} (hz : validR ⟨S, T, L, ls, sat⟩ = 0) : ACalls Try.prog 54 [dR ⟨S, T, L, ls, sat⟩] (.tup [.slo 0 1 0 (encRB S T L ls sat).length, .sc (.int .i64 0)]) [.row 1 ((encRB S T L ls sat).map rowB)] := by
  obtain ⟨S', T', L', e, b1, b2, b3, hll, hko⟩ := natR hz
  simp only [Rk.mk.injEq] at e
  simp only at hll hko
  have b1' : S ≤ 32 := by omega
  have b2' : T ≤ 1099511627776 := by omega
  have b3' : L ≤ 1099511627776 := by omega
  have hvd := validr2_calls (r := ⟨S, T, L, ls, sat⟩) (by simp only; omega) (fun l hl => ⟨by have := (hko l hl).1; omega, fun x hx => by have := (hko l hl).2 x hx; omega⟩)
  rw [hz] at hvd
  have hh := headR_len (S := S) (T := T) (L := L) (n := ls.length) (sat := sat) (by omega) (by omega) (by omega) (by omega)
  have hH : headR S T L sat ls.length = uintB S ++ uintB T ++ uintB L ++ [if sat then 1 else 0] ++ uintB ls.length := by
    cases sat <;> simp [headR, numsB, uintB]
  have u1 := uintB_len (n := S) (by omega); have u2 := uintB_len (n := T) (by omega); have u3 := uintB_len (n := L) (by omega); have u4 := uintB_len (n := ls.length) (by omega)
  simp only [encRB, dR] at hvd ⊢
  generalize headR S T L sat ls.length = H at *
  cases sat
  all_goals
    simp only [if_true, Bool.false_eq_true, if_false] at hH
    refine of_tri [] [1,9,15,18,19,23,24,27,28,33,34,49,50,70,71] Try.func54 rfl call54 rfl (by decide) (by decide) rfl rfl Try.ntmps54 (by simp (disch := omega) only [seval,go_sem,cnd,intV,shV,convV,strV,List.replicate,List.zip_nil_left,List.zip_cons_cons];rfl) (by simp (disch := omega) only [seval,go_sem,cnd,intV,shV,convV,strV,List.zip_nil_left,List.zip_cons_cons];rfl) ?_
    ((repeat' (first|((with_reducible refine isTriD ?_);first|((with_reducible refine isCallD ?_);first|((with_reducible refine LVcall (st := []) ?_);simp only [seval,go_sem,List.length_append,List.length_map,List.length_cons,List.length_nil];first|(refine CallL.c (hvd) ?_)|(refine CallL.n (rui2 ?_) ?_)|(refine CallL.n (flag_calls) ?_)))|((with_reducible first|refine TriD.step (by simp (disch := omega) only [seval,go_sem,cnd,intV,shV,convV,strV,List.length_append,List.length_map,List.length_cons,List.length_nil];rfl) ?_);refine LVs (st := []) ?_))|(with_reducible refine isDrawnN 4 ?_;(try (refine Tri.bx 1 (by simp only [seval,go_sem,List.length_append,List.length_map,List.length_cons,List.length_nil];rfl) (by simp only [seval,go_sem,List.length_append,List.length_map,List.length_cons,List.length_nil];first|done) (by simp only [seval,go_sem,List.length_append,List.length_map,List.length_cons,List.length_nil];rfl) ?_));refine Tri.mixedP 4 mix 8 rfl (.f 0 <| .f 3 <| .r 1 <| .r 4 <| .a <| .b 2 (.a <| .b 5 (.a <| .b 6 (.f 7 <| .d) .e) .e) .e) (by kernel_rfl) ?_)|(with_reducible refine isDrawnN 5 ?_;(try (refine Tri.bx 1 (by simp only [seval,go_sem,List.length_append,List.length_map,List.length_cons,List.length_nil];rfl) (by simp only [seval,go_sem,List.length_append,List.length_map,List.length_cons,List.length_nil];fail) (by simp only [seval,go_sem,List.length_append,List.length_map,List.length_cons,List.length_nil];rfl) ?_));refine Tri.mixedP 5 mix 10 rfl (.f 0 <| .f 1 <| .f 5 <| .r 2 <| .r 6 <| .a <| .b 3 (.a <| .b 4 (.a <| .b 7 (.a <| .b 8 (.f 9 <| .d) .e) .e) .e) .e) (by kernel_rfl) ?_)|(with_reducible refine isAnyP ?_;first|refine AnyP.D ?_|refine AnyP.F (by simp only [seval,go_sem,List.getElem?_cons_succ,List.getElem?_cons_zero];rfl) (by first|(simp only [seval,go_sem,List.length_append,List.length_map,List.length_cons,List.length_nil];first|done)) (by first|(simp only [seval,go_sem,List.length_append,List.length_map,List.length_cons,List.length_nil];with_reducible rfl)) ?_|refine AnyP.R (by simp only [seval,go_sem,List.getElem?_cons_succ,List.getElem?_cons_zero];rfl) (by first|exact .inl (by simp only [seval,go_sem,List.length_append,List.length_map,List.length_cons,List.length_nil])) (by first|(simp only [seval,go_sem,List.length_append,List.length_map,List.length_cons,List.length_nil];with_reducible rfl)) ?_|refine AnyP.A ?_)|(with_reducible first|exact NextsP.E|refine NextsP.B (by simp only [seval,go_sem,List.getElem?_cons_succ,List.getElem?_cons_zero];rfl) ?_ ?_)|(with_reducible (first|refine TVq (st := []) ?_))|simp only [seval,go_sem,List.length_append,List.length_map,List.length_cons,List.length_nil]|(with_reducible refine oV_st (by simp (disch := omega) only [seval,go_sem,cnd,intV,shV,convV,strV,List.length_append,List.length_map,List.length_cons,List.length_nil];rfl) ?_))) <;> (try (first|((with_reducible show (_ : Nat) ≤ _);omega))))
    all_goals (try (first | omega | (with_reducible assumption)))
    all_goals (refine Tri.rn 34 71 (by decide) (by first | (simp only [seval, go_sem]; first | done | fail) | rfl | decide) (by simp only [seval, go_sem]; rfl) ?_)
    all_goals (with_reducible refine Tri.loopU (fun (t : Nat × List Int) => [(6,.sc (.int .i64 t.1)),(5,.slo 71 1 0 t.2.length),(34,.any),(7,.any),(35,.any),(36,.any),(37,.any),(38,.any),(39,.any),(40,.any),(41,.any),(42,.any),(43,.any),(44,.any),(45,.any),(46,.any),(47,.any),(48,.any),(49,.any),(50,.any),(51,.any),(52,.any),(53,.any),(54,.any),(55,.any),(56,.any),(57,.any),(58,.any),(59,.any),(60,.any),(61,.any),(62,.any),(63,.any),(64,.any),(65,.any),(66,.any),(67,.any),(68,.any),(69,.any),(70,.any),(71,.any)]) (fun (t : Nat × List Int) => [(71,.row 1 (t.2.map rowB)),(49,.dead),(50,.dead),(70,.dead)]) (fun (t : Nat × List Int) => t.1 ≤ ls.length ∧ t.2.length ≤ 45 + 1600 * t.1 ∧ t.2 ++ levsB (ls.drop t.1) = H ++ levsB ls) (fun (t : Nat × List Int) => ls.length - t.1) ((0,H)) (⟨Nat.zero_le _,by simpa using hh,rfl⟩) (by intro _;simp (disch := omega) only [seval,go_sem,cnd,intV,shV,convV,strV];rfl) (by intro _;simp (disch := omega) only [seval,go_sem,cnd,intV,shV,convV,strV];rfl) (by (first|refine leQL_spec ?_);(try simp only [seval,go_sem,hH,rowB]);first|((repeat' (with_reducible apply And.intro)) <;> first|(simp [hH,rowB];omega));first|done) (by (first|refine leQH_spec ?_);(try simp only [seval,go_sem,hH,rowB]);first|((repeat' (with_reducible apply And.intro)) <;> first|(simp [hH,rowB];done));first|done) (fun t hI => ?_))
    all_goals
      obtain ⟨i, out⟩ := t
      obtain ⟨hi, hl2, he⟩ := hI
      simp only at hi hl2 he
      by_cases hlt : i < ls.length
      · obtain ⟨l, hli⟩ := get_lt hlt
        have hli' := get_map lvD hli
        obtain ⟨hkl, hks⟩ := hko l (List.mem_of_getElem? hli)
        have hul := uintB_len (n := l.length) (by omega)
        rw [drop_get hli, levsB] at he
        ((repeat' (first|((with_reducible refine isTriD ?_);first|((with_reducible refine isCallD ?_);first|((with_reducible refine LVcall (st := []) ?_);simp only [seval,go_sem,hli',lvD,List.length_append,List.length_map];first|(refine CallL.n (rui2 ?_) ?_))))|(with_reducible (first|refine TVq (st := []) ?_))|simp only [seval,go_sem,hli',lvD,List.length_append,List.length_map]|(with_reducible refine oV_st (by simp (disch := omega) only [seval,go_sem,cnd,intV,shV,convV,strV,hli',lvD,List.length_append,List.length_map];rfl) ?_))) <;> (try (first|((with_reducible show (_ : Nat) ≤ _);omega))))
        all_goals (try (first | omega | (with_reducible assumption)))
        all_goals (refine Tri.rn 50 71 (by decide) (by first | (simp only [seval, go_sem]; first | done | fail) | rfl | decide) (by simp only [seval, go_sem]; rfl) ?_)
        all_goals (with_reducible refine Tri.loopU (fun (u : Nat × List Int) => [(7,.sc (.int .i64 u.1)),(5,.slo 71 1 0 u.2.length),(50,.any),(51,.any),(52,.any),(53,.any),(54,.any),(55,.any),(56,.any),(57,.any),(58,.any),(59,.any),(60,.any),(61,.any),(62,.any),(63,.any),(64,.any),(65,.any),(66,.any),(67,.any),(68,.any),(69,.any),(70,.any),(71,.any)]) (fun (u : Nat × List Int) => [(71,.row 1 (u.2.map rowB)),(70,.dead)]) (fun (u : Nat × List Int) => u.1 ≤ l.length ∧ u.2.length ≤ out.length + 9 + 50 * u.1 ∧ u.2 ++ (keysB (l.drop u.1) ++ levsB (ls.drop (i + 1))) = H ++ levsB ls) (fun (u : Nat × List Int) => l.length - u.1) ((0,out ++ uintB l.length)) (⟨Nat.zero_le _,by simp only [List.length_append];omega,by simp only [List.drop_zero,List.append_assoc];exact he⟩) (by intro _;simp (disch := omega) only [seval,go_sem,cnd,intV,shV,convV,strV];rfl) (by intro _;simp (disch := omega) only [seval,go_sem,cnd,intV,shV,convV,strV];rfl) (by (first|refine leQL_spec ?_);(try simp only [seval,go_sem]);first|((repeat' (with_reducible apply And.intro)) <;> first|(simp [];done));first|done) (by (first|refine leQH_spec ?_);(try simp only [seval,go_sem]);first|((repeat' (with_reducible apply And.intro)) <;> first|(simp [];done));first|done) (fun u hI => ?_))
        all_goals
          obtain ⟨k, o2⟩ := u
          obtain ⟨hk, hl3, he3⟩ := hI
          simp only at hk hl3 he3
          by_cases hkt : k < l.length
          · obtain ⟨x, hx⟩ := get_lt hkt
            have hx' := get_map rowKr hx
            have hxs := hks x (List.mem_of_getElem? hx)
            have htl := textB_lenR hxs
            rw [drop_get hx, keysB] at he3
            (all_goals (try have hZ := (And.intro hli' hx'));(repeat' (first|((with_reducible refine isTriD ?_);first|((with_reducible refine isCallD ?_);first|((with_reducible refine LVcall (st := []) ?_);simp only [seval,go_sem,lvD,rowKr,List.length_append,List.length_map,hZ];first|(refine CallL.n (rt_calls ?_) ?_))))|(with_reducible (first|refine TVq (st := []) ?_))|simp only [seval,go_sem,lvD,rowKr,List.length_append,List.length_map,hZ]|(with_reducible refine oV_st (by simp (disch := omega) only [seval,go_sem,cnd,intV,shV,convV,strV,lvD,rowKr,List.length_append,List.length_map,hZ];rfl) ?_))) <;> (try (first|((with_reducible show (_ : Nat) ≤ _);omega)));all_goals (try clear hZ))
            all_goals (try (refine isNextM ((k + 1,o2 ++ textB x)) (by (first|refine leQL_spec ?_);(try simp only [seval,go_sem]);first|((repeat' (with_reducible apply And.intro)) <;> first|rfl|(simp [];done));first|done) (by (first|refine leQH_spec ?_);(try simp only [seval,go_sem]);first|((repeat' (with_reducible apply And.intro)) <;> first|(simp [];done));first|done) ?_ ?_ <;> (try (first|omega))))
            all_goals (try (exact ⟨by simp only; omega, by simp only [List.length_append]; omega, by simp only [List.append_assoc] at he3 ⊢; exact he3⟩))
          · rw [List.drop_eq_nil_of_le (by omega), keysB, List.nil_append] at he3
            ((repeat' (first | (with_reducible (first | refine TVq (st := []) ?_)) | simp only [seval, go_sem, hli', lvD] | (with_reducible refine oV_st (by simp (disch := omega) only [seval, go_sem, cnd, intV, shV, convV, strV, hli', lvD]; rfl) ?_))) <;> (try (fail)))
            all_goals (try (refine isNextM ((i + 1,o2)) (by (first|refine leQL_spec ?_);(try simp only [seval,go_sem]);first|((repeat' (with_reducible apply And.intro)) <;> first|rfl);first|done) (by (first|refine leQH_spec ?_);(try simp only [seval,go_sem]);first|done) ?_ ?_ <;> (try (first|omega))))
            all_goals (try (exact ⟨by simp only; omega, by simp only; omega, he3⟩))
      · rw [List.drop_eq_nil_of_le (by omega), levsB, List.append_nil] at he
        rw [← he]
        ((repeat' (first|(with_reducible refine isRet ?_;refine RetV (rs := [.tmp 2,.tmp 3]) (by with_unfolding_all rfl) rfl ?_ <;> simp only [seval,go_sem] <;> (repeat' (with_reducible apply And.intro)) <;> (try rfl))|(with_reducible (first|refine TVq (st := []) ?_))|simp only [seval,go_sem]|(with_reducible refine oV_st (by simp (disch := omega) only [seval,go_sem,cnd,intV,shV,convV,strV];rfl) ?_))) <;> (try (fail)))
        all_goals (rw [he, List.length_append])
set_option maxRecDepth 100000 in set_option maxHeartbeats 6400000 in
theorem encr_bad {r : Rk} {e : Int} (hl : r.levels.length ≤ 1000) (hk : ∀ l ∈ r.levels, l.length ≤ 100000 ∧ ∀ x ∈ l, x.size ≤ 1000000000) (hv : validR r = e) (he : e ≠ 0) : ACalls Try.prog 53 [dR r] (.tup [.sc (.slice none 0 0), .sc (.int .i64 e)]) [] := by
  have hvd := validr_calls (r := r) hl hk
  rw [hv] at hvd
  simp only [dR] at hvd ⊢
  refine of_tri [] [1,14,30,31,42,43,52,57] Try.func53 rfl call53 rfl (by decide) (by decide) rfl rfl Try.ntmps53 (by simp (disch := omega) only [seval,go_sem,cnd,intV,shV,convV,strV,List.replicate,List.zip_nil_left,List.zip_cons_cons];rfl) (by simp (disch := omega) only [seval,go_sem,cnd,intV,shV,convV,strV,List.zip_nil_left,List.zip_cons_cons];rfl) ?_
  ((repeat' (first|((with_reducible refine isTriD ?_);first|((with_reducible refine isCallD ?_);first|((with_reducible refine LVcall (st := []) ?_);simp only [seval,go_sem];first|(refine CallL.c (hvd) ?_))))|(with_reducible refine isRet ?_;refine RetV (rs := [.tmp 2,.tmp 3]) (by with_unfolding_all rfl) rfl ?_ <;> simp only [seval,go_sem] <;> (repeat' (with_reducible apply And.intro)) <;> (try rfl))|(with_reducible (first|refine TVq (st := []) ?_))|simp only [seval,go_sem]|(with_reducible refine oV_st (by simp (disch := omega) only [seval,go_sem,cnd,intV,shV,convV,strV];rfl) ?_))) <;> (try (fail)))
set_option maxRecDepth 100000 in set_option maxHeartbeats 6400000 in
theorem encrr_bad {r : Rk} {e : Int} (hl : r.levels.length ≤ 1000) (hk : ∀ l ∈ r.levels, l.length ≤ 100000 ∧ ∀ x ∈ l, x.size ≤ 1000000000) (hv : validR r = e) (he : e ≠ 0) : ACalls Try.prog 54 [dR r] (.tup [.sc (.slice none 0 0), .sc (.int .i64 e)]) [] := by
  have hvd := validr2_calls (r := r) hl hk
  rw [hv] at hvd
  simp only [dR] at hvd ⊢
  refine of_tri [] [1,9,15,18,19,23,24,27,28,33,34,49,50,70,71] Try.func54 rfl call54 rfl (by decide) (by decide) rfl rfl Try.ntmps54 (by simp (disch := omega) only [seval,go_sem,cnd,intV,shV,convV,strV,List.replicate,List.zip_nil_left,List.zip_cons_cons];rfl) (by simp (disch := omega) only [seval,go_sem,cnd,intV,shV,convV,strV,List.zip_nil_left,List.zip_cons_cons];rfl) ?_
  ((repeat' (first|((with_reducible refine isTriD ?_);first|((with_reducible refine isCallD ?_);first|((with_reducible refine LVcall (st := []) ?_);simp only [seval,go_sem];first|(refine CallL.c (hvd) ?_))))|(with_reducible refine isRet ?_;refine RetV (rs := [.tmp 2,.tmp 3]) (by with_unfolding_all rfl) rfl ?_ <;> simp only [seval,go_sem] <;> (repeat' (with_reducible apply And.intro)) <;> (try rfl))|(with_reducible (first|refine TVq (st := []) ?_))|simp only [seval,go_sem]|(with_reducible refine oV_st (by simp (disch := omega) only [seval,go_sem,cnd,intV,shV,convV,strV];rfl) ?_))) <;> (try (fail)))
end Go.Proofs.Ytnckgbmifigadaa
