/- Ranks: Validate of the reference walked. -/
import Derived.Test.YtnckgbmifigadaaZRkA
set_option linter.unusedSimpArgs false
set_option linter.unusedVariables false
namespace Go.Proofs.Ytnckgbmifigadaa
open Go.RowKit Go.Avm
set_option maxRecDepth 100000 in set_option maxHeartbeats 12800000 in
theorem validr2_calls {r : Rk} (hl : r.levels.length ≤ 1000) (hk : ∀ l ∈ r.levels, l.length ≤ 100000 ∧ ∀ x ∈ l, x.size ≤ 1000000000) : ACalls Try.prog 38 [dR r] (.sc (.int .i64 (validR r))) [] := by
  obtain ⟨s, t, sl, ls, sat⟩ := r
  have key := validR_cases ⟨s, t, sl, ls, sat⟩
  simp only at key hl hk
  generalize hv : validR ⟨s, t, sl, ls, sat⟩ = v at *
  simp only [dR]
  rcases key with ⟨h1, e⟩ | ⟨h1, h2, e⟩ | ⟨h1, h2, h3, e⟩ | ⟨h1, h2, h3, e⟩
  · have h1' : ¬ (2 ≤ s ∧ s ≤ 32 ∧ s % 2 = 0) := by simp [evenOk] at h1; omega
    rw [e]
    refine of_tri [] [1,8,19,25,66] Try.func38 rfl call38 rfl (by decide) (by decide) rfl rfl Try.ntmps38 (by simp (disch := omega) only [seval,go_sem,cnd,intV,shV,convV,strV,List.replicate,List.zip_nil_left,List.zip_cons_cons];rfl) (by simp (disch := omega) only [seval,go_sem,cnd,intV,shV,convV,strV,List.zip_nil_left,List.zip_cons_cons];rfl) ?_
    ((repeat' (first|(with_reducible refine isCv ?_;intro hc;(try simp only [bls,reduceCtorEq] at hc);(try (exfalso;omega)))|((with_reducible refine isTriD ?_);first|((with_reducible refine isCallD ?_);first|((with_reducible refine LVcall (st := []) ?_);simp only [seval,go_sem];first|(refine CallL.c (within_calls) ?_))))|(with_reducible refine isRet ?_;refine RetV (rs := [.tmp 2]) (by with_unfolding_all rfl) rfl ?_ <;> simp only [seval,go_sem] <;> (repeat' (with_reducible apply And.intro)) <;> (try rfl))|(with_reducible (first|refine TVq (st := []) ?_))|simp only [seval,go_sem]|(with_reducible refine oV_st (by simp (disch := omega) only [seval,go_sem,cnd,intV,shV,convV,strV];rfl) ?_)|(with_reducible refine gV_split (by simp only [seval,go_sem];rfl) (by simp only [seval,go_sem];rfl) (by simp only [seval,go_sem];first|done) (cvI ?_) (cvI ?_) (by simp only [seval,go_sem])))) <;> (try (fail)))
    all_goals (try (exfalso; omega))
  · have h1' : 2 ≤ s ∧ s ≤ 32 ∧ s % 2 = 0 := by simp only [evenOk, Bool.and_eq_true, decide_eq_true_eq] at h1; omega
    rw [e]
    refine of_tri [] [1,8,19,25,66] Try.func38 rfl call38 rfl (by decide) (by decide) rfl rfl Try.ntmps38 (by simp (disch := omega) only [seval,go_sem,cnd,intV,shV,convV,strV,List.replicate,List.zip_nil_left,List.zip_cons_cons];rfl) (by simp (disch := omega) only [seval,go_sem,cnd,intV,shV,convV,strV,List.zip_nil_left,List.zip_cons_cons];rfl) ?_
    ((repeat' (first|(with_reducible refine isCv ?_;intro hc;(try simp only [bls,reduceCtorEq] at hc);(try (exfalso;omega)))|((with_reducible refine isTriD ?_);first|((with_reducible refine isCallD ?_);first|((with_reducible refine LVcall (st := []) ?_);simp only [seval,go_sem];first|(refine CallL.c (within_calls) ?_))))|(with_reducible refine isRet ?_;refine RetV (rs := [.tmp 2]) (by with_unfolding_all rfl) rfl ?_ <;> simp only [seval,go_sem] <;> (repeat' (with_reducible apply And.intro)) <;> (try rfl))|(with_reducible (first|refine TVq (st := []) ?_))|simp only [seval,go_sem]|(with_reducible refine oV_st (by simp (disch := omega) only [seval,go_sem,cnd,intV,shV,convV,strV];rfl) ?_)|(with_reducible refine gV_split (by simp only [seval,go_sem];rfl) (by simp only [seval,go_sem];rfl) (by simp only [seval,go_sem];first|done) (cvI ?_) (cvI ?_) (by simp only [seval,go_sem]))|(with_reducible refine cV_split (cvI ?_) (cvI ?_)))) <;> (try (fail)))
    all_goals (try (exfalso; omega))
  · have h1' : 2 ≤ s ∧ s ≤ 32 ∧ s % 2 = 0 := by simp only [evenOk, Bool.and_eq_true, decide_eq_true_eq] at h1; omega
    rw [e]
    refine of_tri [] [1,8,19,25,66] Try.func38 rfl call38 rfl (by decide) (by decide) rfl rfl Try.ntmps38 (by simp (disch := omega) only [seval,go_sem,cnd,intV,shV,convV,strV,List.replicate,List.zip_nil_left,List.zip_cons_cons];rfl) (by simp (disch := omega) only [seval,go_sem,cnd,intV,shV,convV,strV,List.zip_nil_left,List.zip_cons_cons];rfl) ?_
    ((repeat' (first|(with_reducible refine isCv ?_;intro hc;(try simp only [bls,reduceCtorEq] at hc);(try (exfalso;omega)))|((with_reducible refine isTriD ?_);first|((with_reducible refine isCallD ?_);first|((with_reducible refine LVcall (st := []) ?_);simp only [seval,go_sem];first|(refine CallL.c (within_calls) ?_))))|(with_reducible refine isRet ?_;refine RetV (rs := [.tmp 2]) (by with_unfolding_all rfl) rfl ?_ <;> simp only [seval,go_sem] <;> (repeat' (with_reducible apply And.intro)) <;> (try rfl))|(with_reducible (first|refine TVq (st := []) ?_))|simp only [seval,go_sem]|(with_reducible refine oV_st (by simp (disch := omega) only [seval,go_sem,cnd,intV,shV,convV,strV];rfl) ?_)|(with_reducible refine gV_split (by simp only [seval,go_sem];rfl) (by simp only [seval,go_sem];rfl) (by simp only [seval,go_sem];first|done) (cvI ?_) (cvI ?_) (by simp only [seval,go_sem]))|(with_reducible refine cV_split (cvI ?_) (cvI ?_)))) <;> (try (fail)))
    all_goals (try (exfalso; omega))
  · have hs32 : 2 ≤ s ∧ s ≤ 32 ∧ s % 2 = 0 := by simp only [evenOk, Bool.and_eq_true, decide_eq_true_eq] at h1; omega
    refine of_tri [] [1,8,19,25,66] Try.func38 rfl call38 rfl (by decide) (by decide) rfl rfl Try.ntmps38 (by simp (disch := omega) only [seval,go_sem,cnd,intV,shV,convV,strV,List.replicate,List.zip_nil_left,List.zip_cons_cons];rfl) (by simp (disch := omega) only [seval,go_sem,cnd,intV,shV,convV,strV,List.zip_nil_left,List.zip_cons_cons];rfl) ?_
    ((repeat' (first|(with_reducible refine isCv ?_;intro hc;(try simp only [bls,reduceCtorEq] at hc);(try (exfalso;omega)))|((with_reducible refine isTriD ?_);first|((with_reducible refine isCallD ?_);first|((with_reducible refine LVcall (st := []) ?_);simp only [seval,go_sem];first|(refine CallL.c (within_calls) ?_))))|(with_reducible (first|refine TVq (st := []) ?_))|simp only [seval,go_sem]|(with_reducible refine oV_st (by simp (disch := omega) only [seval,go_sem,cnd,intV,shV,convV,strV];rfl) ?_)|(with_reducible refine gV_split (by simp only [seval,go_sem];rfl) (by simp only [seval,go_sem];rfl) (by simp only [seval,go_sem];first|done) (cvI ?_) (cvI ?_) (by simp only [seval,go_sem]))|(with_reducible refine cV_split (cvI ?_) (cvI ?_)))) <;> (try (fail)))
    all_goals (try (exfalso; omega))
    all_goals (with_reducible refine Tri.loopU (fun (z : Nat × Int) => [(4,.sc (.int .i64 z.1)),(3,.sc (.int .i64 z.2)),(2,.any),(5,.any),(32,.any),(33,.any),(34,.any),(35,.any),(36,.any),(37,.any),(38,.any),(39,.any),(40,.any),(41,.any),(42,.any),(43,.any),(44,.any),(45,.any),(46,.any),(47,.any),(48,.any),(49,.any),(50,.any),(51,.any),(52,.any),(53,.any),(54,.any),(55,.any),(56,.any),(57,.any),(58,.any),(59,.any),(60,.any),(61,.any),(62,.any),(63,.any),(64,.any),(65,.any),(66,.any),(67,.any),(68,.any),(69,.any),(70,.any),(71,.any),(72,.any),(73,.any),(74,.any),(75,.any),(76,.any),(77,.any),(78,.any),(79,.any),(80,.any),(81,.any),(82,.any),(83,.any),(84,.any),(85,.any),(86,.any),(87,.any),(88,.any),(89,.any),(90,.any),(91,.any),(92,.any),(93,.any),(94,.any),(95,.any),(96,.any),(97,.any),(98,.any),(99,.any),(100,.any)]) (fun (z : Nat × Int) => [(66,.dead)]) (fun (z : Nat × Int) => z.1 ≤ ls.length ∧ badLs s z.1 z.2 (ls.drop z.1) = badLs s 0 0 ls ∧ 0 ≤ z.2 ∧ z.2 ≤ 32 * 2 ^ z.1) (fun (z : Nat × Int) => ls.length - z.1) ((0,0)) (⟨Nat.zero_le _,rfl,by simp,by simp⟩) (by intro _;simp (disch := omega) only [seval,go_sem,cnd,intV,shV,convV,strV];rfl) (by intro _;simp (disch := omega) only [seval,go_sem,cnd,intV,shV,convV,strV];rfl) (by (first|refine leQL_spec ?_);(try simp only [seval,go_sem]);first|done) (by (first|refine leQH_spec ?_);(try simp only [seval,go_sem]);first|done) (fun z hI => ?_))
    all_goals
      obtain ⟨i, tt⟩ := z
      obtain ⟨hi, hb, ht0, ht1⟩ := hI
      simp only at hi hb ht0 ht1
      by_cases hlt : i < ls.length
      · obtain ⟨l, hli⟩ := get_lt hlt
        have hli' := get_map lvD hli
        obtain ⟨hll, hks⟩ := hk l (List.mem_of_getElem? hli)
        rw [drop_get hli, badLs] at hb
        by_cases hc1 : s ≤ (l.length : Int)
        · rw [if_pos hc1] at hb
          rw [e, ← hb, if_pos (by simp)]
          ((repeat' (first|(with_reducible refine ListD.nil ?_)|((with_reducible refine isListD ?_);first|(with_reducible refine ListD.step (by simp only [seval,go_sem,hli',lvD];rfl) ?_)|(with_reducible refine ListD.step (by simp (disch := omega) only [seval,go_sem,cnd,intV,shV,convV,strV,hli',lvD];rfl) ?_))|(with_reducible refine isDrawn ?_;refine Tri.drawnD mix (by kernel_rfl) (by simp only [List.map_cons,List.map_nil];rfl) ?_)|(with_reducible refine isRet ?_;refine RetV (rs := [.tmp 2]) (by with_unfolding_all rfl) rfl ?_ <;> simp only [seval,go_sem] <;> (repeat' (with_reducible apply And.intro)) <;> (try rfl))|(with_reducible (first|refine TVq (st := []) ?_))|simp only [seval,go_sem,hli',lvD]|(with_reducible refine oV_st (by simp (disch := omega) only [seval,go_sem,cnd,intV,shV,convV,strV,hli',lvD];rfl) ?_))) <;> (try (fail)))
        · rw [if_neg hc1] at hb
          ((repeat' (first|(with_reducible refine ListD.nil ?_)|((with_reducible refine isListD ?_);first|(with_reducible refine ListD.step (by simp only [seval,go_sem,hli',lvD];rfl) ?_)|(with_reducible refine ListD.step (by simp (disch := omega) only [seval,go_sem,cnd,intV,shV,convV,strV,hli',lvD];rfl) ?_))|(with_reducible refine isDrawn ?_;refine Tri.drawnD mix (by kernel_rfl) (by simp only [List.map_cons,List.map_nil];rfl) ?_)|(with_reducible (first|refine TVq (st := []) ?_))|simp only [seval,go_sem,hli',lvD]|(with_reducible refine oV_st (by simp (disch := omega) only [seval,go_sem,cnd,intV,shV,convV,strV,hli',lvD];rfl) ?_))) <;> (try (fail)))
          all_goals (with_reducible refine Tri.loopU (fun (k : Nat) => [(5,.sc (.int .i64 k)),(2,.any),(48,.any),(49,.any),(50,.any),(51,.any),(52,.any),(53,.any),(54,.any),(55,.any),(56,.any),(57,.any),(58,.any),(59,.any),(60,.any),(61,.any),(62,.any),(63,.any),(64,.any),(65,.any),(66,.any),(67,.any),(68,.any),(69,.any),(70,.any),(71,.any),(72,.any),(73,.any),(74,.any),(75,.any),(76,.any),(77,.any),(78,.any),(79,.any),(80,.any),(81,.any),(82,.any),(83,.any),(84,.any),(85,.any),(86,.any),(87,.any),(88,.any),(89,.any)]) (fun (k : Nat) => [(66,.dead)]) (fun (k : Nat) => k ≤ l.length ∧ badL (l.take k) (l.drop k) = badL [] l) (fun (k : Nat) => l.length - k) (0) (⟨Nat.zero_le _,rfl⟩) (by intro _;simp (disch := omega) only [seval,go_sem,cnd,intV,shV,convV,strV];rfl) (by intro _;simp (disch := omega) only [seval,go_sem,cnd,intV,shV,convV,strV];rfl) (by (first|refine leQL_spec ?_);(try simp only [seval,go_sem]);first|done) (by (first|refine leQH_spec ?_);(try simp only [seval,go_sem]);first|done) (fun k hI => ?_))
          all_goals
            obtain ⟨hkl, hbl⟩ := hI
            by_cases hkt : k < l.length
            · obtain ⟨x, hx⟩ := get_lt hkt
              have hx' := get_map rowKr hx
              have hxs := hks x (List.mem_of_getElem? hx)
              rcases badL_cases hx with ⟨c1, c2⟩ | ⟨c1, c2, c3⟩ | ⟨c1, c2, q, hq, ⟨c3, c4⟩ | ⟨c3, c4⟩⟩
              · rw [c2] at hbl
                rw [← hbl, if_pos (by simp)] at hb
                rw [e, ← hb, if_pos (by simp)]
                (all_goals (try have hZ := (And.intro hli' hx'));(repeat' (first|((with_reducible refine isTriD ?_);first|((with_reducible refine isCallD ?_);first|((with_reducible refine LVcall (st := []) ?_);simp only [seval,go_sem,lvD,rowKr,c1,hZ];first|(refine CallL.c (riskey_calls ?_) ?_))))|(with_reducible refine isRet ?_;refine RetV (rs := [.tmp 2]) (by with_unfolding_all rfl) rfl ?_ <;> simp only [seval,go_sem] <;> (repeat' (with_reducible apply And.intro)) <;> (try rfl))|(with_reducible (first|refine TVq (st := []) ?_))|simp only [seval,go_sem,lvD,rowKr,c1,hZ]|(with_reducible refine oV_st (by simp (disch := omega) only [seval,go_sem,cnd,intV,shV,convV,strV,lvD,rowKr,c1,hZ];rfl) ?_))) <;> (try (first|(with_reducible assumption)));all_goals (try clear hZ))
              · (all_goals (try have hZ := (And.intro hli' hx'));(repeat' (first|((with_reducible refine isTriD ?_);first|((with_reducible refine isCallD ?_);first|((with_reducible refine LVcall (st := []) ?_);simp only [seval,go_sem,lvD,rowKr,c1,hZ];first|(refine CallL.c (riskey_calls ?_) ?_))))|(with_reducible refine ListD.nil ?_)|((with_reducible refine isListD ?_);first|(with_reducible refine ListD.step (by simp only [seval,go_sem,lvD,rowKr,c1,hZ];rfl) ?_)|(with_reducible refine ListD.step (by simp (disch := omega) only [seval,go_sem,cnd,intV,shV,convV,strV,lvD,rowKr,c1,hZ];rfl) ?_))|(with_reducible refine isDrawn ?_;refine Tri.drawnD mix (by kernel_rfl) (by simp only [List.map_cons,List.map_nil];rfl) ?_)|(with_reducible (first|refine TVq (st := []) ?_))|simp only [seval,go_sem,lvD,rowKr,c1,hZ]|(with_reducible refine oV_st (by simp (disch := omega) only [seval,go_sem,cnd,intV,shV,convV,strV,lvD,rowKr,c1,hZ];rfl) ?_))) <;> (try (first|(with_reducible assumption)));all_goals (try clear hZ))
                all_goals (try (refine isNextM (k + 1) (by (first|refine leQL_spec ?_);(try simp only [seval,go_sem]);first|((repeat' (with_reducible apply And.intro)) <;> first|rfl);first|done) (by (first|refine leQH_spec ?_);(try simp only [seval,go_sem]);first|done) ?_ ?_ <;> (try (first|omega))))
                all_goals (try (exact ⟨by omega, by rw [← c3]; exact hbl⟩))
              · have hq' := get_map rowKr hq
                rw [c4] at hbl
                rw [← hbl, if_pos (by simp)] at hb
                rw [e, ← hb, if_pos (by simp)]
                (all_goals (try have hZ := (And.intro hli' (And.intro hx' hq')));(repeat' (first|((with_reducible refine isTriD ?_);first|((with_reducible refine isCallD ?_);first|((with_reducible refine LVcall (st := []) ?_);simp only [seval,go_sem,lvD,rowKr,c1,c3,hZ];first|(refine CallL.c (riskey_calls ?_) ?_))))|(with_reducible refine ListD.nil ?_)|((with_reducible refine isListD ?_);first|(with_reducible refine ListD.step (by simp only [seval,go_sem,lvD,rowKr,c1,c3,hZ];rfl) ?_)|(with_reducible refine ListD.step (by simp (disch := omega) only [seval,go_sem,cnd,intV,shV,convV,strV,lvD,rowKr,c1,c3,hZ];rfl) ?_))|(with_reducible refine isDrawn ?_;refine Tri.drawnD mix (by kernel_rfl) (by simp only [List.map_cons,List.map_nil];rfl) ?_)|(with_reducible refine isRet ?_;refine RetV (rs := [.tmp 2]) (by with_unfolding_all rfl) rfl ?_ <;> simp only [seval,go_sem] <;> (repeat' (with_reducible apply And.intro)) <;> (try rfl))|(with_reducible (first|refine TVq (st := []) ?_))|simp only [seval,go_sem,lvD,rowKr,c1,c3,hZ]|(with_reducible refine oV_st (by simp (disch := omega) only [seval,go_sem,cnd,intV,shV,convV,strV,lvD,rowKr,c1,c3,hZ];rfl) ?_))) <;> (try (first|(with_reducible assumption)));all_goals (try clear hZ))
              · have hq' := get_map rowKr hq
                (all_goals (try have hZ := (And.intro hli' (And.intro hx' hq')));(repeat' (first|((with_reducible refine isTriD ?_);first|((with_reducible refine isCallD ?_);first|((with_reducible refine LVcall (st := []) ?_);simp only [seval,go_sem,lvD,rowKr,c1,c3,hZ];first|(refine CallL.c (riskey_calls ?_) ?_))))|(with_reducible refine ListD.nil ?_)|((with_reducible refine isListD ?_);first|(with_reducible refine ListD.step (by simp only [seval,go_sem,lvD,rowKr,c1,c3,hZ];rfl) ?_)|(with_reducible refine ListD.step (by simp (disch := omega) only [seval,go_sem,cnd,intV,shV,convV,strV,lvD,rowKr,c1,c3,hZ];rfl) ?_))|(with_reducible refine isDrawn ?_;refine Tri.drawnD mix (by kernel_rfl) (by simp only [List.map_cons,List.map_nil];rfl) ?_)|(with_reducible (first|refine TVq (st := []) ?_))|simp only [seval,go_sem,lvD,rowKr,c1,c3,hZ]|(with_reducible refine oV_st (by simp (disch := omega) only [seval,go_sem,cnd,intV,shV,convV,strV,lvD,rowKr,c1,c3,hZ];rfl) ?_))) <;> (try (first|(with_reducible assumption)));all_goals (try clear hZ))
                all_goals (try (refine isNextM (k + 1) (by (first|refine leQL_spec ?_);(try simp only [seval,go_sem]);first|((repeat' (with_reducible apply And.intro)) <;> first|rfl);first|done) (by (first|refine leQH_spec ?_);(try simp only [seval,go_sem]);first|done) ?_ ?_ <;> (try (first|omega))))
                all_goals (try (exact ⟨by omega, by rw [← c4]; exact hbl⟩))
            · rw [List.drop_eq_nil_of_le (by omega), badL] at hbl
              rw [if_neg (by rw [← hbl]; decide)] at hb
              have hmin : min i 64 = i := by omega
              have hpw : (1 : Int) ≤ 2 ^ i := by exact_mod_cast Nat.one_le_two_pow
              have hpw2 : (2 : Int) ^ i ≤ 2 ^ 41 := by exact_mod_cast Nat.pow_le_pow_right (by decide) (show i ≤ 41 by omega)
              have hm1 : 0 ≤ (l.length : Int) * 2 ^ i := Int.mul_nonneg (by omega) (by omega)
              have hm2 : (l.length : Int) * 2 ^ i ≤ 32 * 2 ^ i := Int.mul_le_mul_of_nonneg_right (by omega) (by omega)
              have hp1 : (2 : Int) ^ (i + 1) = 2 * 2 ^ i := by rw [Int.pow_succ]; omega
              (all_goals (try have hZ := (And.intro hli' hmin));(repeat' (first|(with_reducible (first|refine TVq (st := []) ?_))|simp only [seval,go_sem,lvD,hZ]|(with_reducible refine oV_st (by simp (disch := omega) only [seval,go_sem,cnd,intV,shV,convV,strV,lvD,hZ];rfl) ?_))) <;> (try (fail));all_goals (try clear hZ))
              all_goals (change ∃ t' : Nat × Int, _ ∧ _ < ls.length - ((i, tt) : Nat × Int).1 ∧ _)
              all_goals (refine isNextM ((i + 1,tt + (l.length : Int) * 2 ^ i)) (by (first|refine leQL_spec ?_);(try simp only [seval,go_sem]);first|((repeat' (with_reducible apply And.intro)) <;> first|rfl);first|done) (by (first|refine leQH_spec ?_);(try simp only [seval,go_sem]);first|done) ?_ ?_ <;> (try (first|omega)))
              all_goals (try (exact ⟨by omega, hb, by omega, by simp only; omega⟩))
      · rw [List.drop_eq_nil_of_le (by omega), badLs] at hb
        rw [← hb, if_neg (by simp)] at e
        by_cases h0 : ls.length = 0
        · have hn : ls = [] := List.length_eq_zero_iff.1 h0
          subst hn
          ((repeat' (first|(with_reducible refine isCv ?_;intro hc;(try simp only [bls,reduceCtorEq] at hc);(try (exfalso;omega)))|(with_reducible refine isRet ?_;refine RetV (rs := [.tmp 2]) (by with_unfolding_all rfl) rfl ?_ <;> simp only [seval,go_sem] <;> (repeat' (with_reducible apply And.intro)) <;> (try rfl))|(with_reducible (first|refine TVq (st := []) ?_))|simp only [seval,go_sem]|(with_reducible refine oV_st (by simp (disch := omega) only [seval,go_sem,cnd,intV,shV,convV,strV];rfl) ?_)|(with_reducible refine cV_split (cvI ?_) (cvI ?_)))) <;> (try (fail)))
          all_goals (rw [e]; by_cases hq9 : tt = t <;> simp_all)
        · obtain ⟨q, hq⟩ := get_lt (show ls.length - 1 < ls.length by omega)
          have hq' := get_map lvD hq
          have hla : ls.getLast? = some q := by rw [List.getLast?_eq_getElem?]; exact hq
          have hcast : ((ls.length : Int) - 1).toNat = ls.length - 1 := by omega
          rw [hla] at e
          cases q with
          | nil =>
            rw [e, if_pos rfl]
            (all_goals (try have hZ := (And.intro hq' hcast));(repeat' (first|(with_reducible refine isRet ?_;refine RetV (rs := [.tmp 2]) (by with_unfolding_all rfl) rfl ?_ <;> simp only [seval,go_sem] <;> (repeat' (with_reducible apply And.intro)) <;> (try rfl))|(with_reducible (first|refine TVq (st := []) ?_))|simp only [seval,go_sem,lvD,hZ]|(with_reducible refine oV_st (by simp (disch := omega) only [seval,go_sem,cnd,intV,shV,convV,strV,lvD,hZ];rfl) ?_))) <;> (try (fail));all_goals (try clear hZ))
          | cons x q =>
            rw [if_neg (by simp)] at e
            (all_goals (try have hZ := (And.intro hq' hcast));(repeat' (first|(with_reducible refine isCv ?_;intro hc;(try simp only [bls,reduceCtorEq] at hc);(try (exfalso;omega)))|(with_reducible refine isRet ?_;refine RetV (rs := [.tmp 2]) (by with_unfolding_all rfl) rfl ?_ <;> simp only [seval,go_sem] <;> (repeat' (with_reducible apply And.intro)) <;> (try rfl))|(with_reducible (first|refine TVq (st := []) ?_))|simp only [seval,go_sem,lvD,hZ]|(with_reducible refine oV_st (by simp (disch := omega) only [seval,go_sem,cnd,intV,shV,convV,strV,lvD,hZ];rfl) ?_)|(with_reducible refine cV_split (cvI ?_) (cvI ?_)))) <;> (try (fail));all_goals (try clear hZ))
            all_goals (rw [e]; by_cases hq9 : tt = t <;> simp_all)
end Go.Proofs.Ytnckgbmifigadaa
