/- Ranks: the law's example, computed (plain). -/
import Derived.Test.YtnckgbmifigadaaZRkK
import Derived.Test.YtnckgbmifigadaaZRkI
set_option linter.unusedSimpArgs false
set_option linter.unusedVariables false
namespace Go.Proofs.Ytnckgbmifigadaa
open Go.RowKit Go.Avm
def kA : ByteArray := ⟨#[97]⟩
def kB : ByteArray := ⟨#[98]⟩
theorem sortA : sortK [kA] = [kA] := (sortK_uniq (List.Perm.refl _) (List.pairwise_singleton _ _)).symm
theorem sortAB : sortK [kA, kB] = [kA, kB] := (sortK_uniq (List.Perm.refl _) (by refine List.Pairwise.cons (fun x hx => ?_) (List.pairwise_singleton _ _); rw [List.mem_singleton.1 hx, leK, Go.ByteArray.toList_eq, Go.ByteArray.toList_eq]; decide)).symm
theorem pow1 : powS 1 0 = [0] := by rw [powS_odd 0 (by decide), powS_zero]
theorem insK1 : insR ⟨2, 0, 0, [], false⟩ kA 1 [] 0 = (⟨2, 1, 0, [[kA]], false⟩, 0, 0) := by
  have h1 : validR ⟨2, 0, 0, [], false⟩ = 0 := by decide
  have h2 : itemE kA 1 = 0 := by decide
  have hs : settleK 2 [] 0 0 (putK kA (powS (1 : Int).toNat 0) []) = ([[kA]], 0, 0) := by
    have e : putK kA (powS (1 : Int).toNat 0) [] = [[kA]] := by
      show putK kA (powS 1 0) [] = _
      rw [pow1, putK_cons, addH_as, putK_nil]; rfl
    rw [e, settleK, setS_keep (by simp), setS_nil, sortA]
    exact congrArg (fun x => (x, (0 : Int), (0 : Int))) (trimK_c [] (by simp))
  unfold insR
  rw [if_neg (by simp [h1]), if_neg (by simp [h2]), if_neg (by decide), if_neg (by decide)]
  simp only [hs]
  rfl
theorem insK2 : insR ⟨2, 1, 0, [[kA]], false⟩ kB 1 [] 0 = (⟨2, 2, 1, [[], [kA]], false⟩, 1, 0) := by
  have h1 : validR ⟨2, 1, 0, [[kA]], false⟩ = 0 := by decide
  have h2 : itemE kB 1 = 0 := by decide
  have hs : settleK 2 [] 0 0 (putK kB (powS (1 : Int).toNat 0) [[kA]]) = ([[], [kA]], 1, 1) := by
    have e : putK kB (powS (1 : Int).toNat 0) [[kA]] = [[kA, kB]] := by
      show putK kB (powS 1 0) _ = _
      rw [pow1, putK_cons, addH_as, putK_nil]; rfl
    have hst : stayK [kA, kB] = [] := rfl
    have hb : (bitR [] 0).toNat = 0 := by decide
    have hev : evK (lowK [kA, kB]) 0 = [kA] := by
      rw [evK_lt (show (lowK [kA, kB])[0]? = some kA from rfl), evK_ge (by rw [lowK_len]; simp)]
    rw [e, settleK, setS_full (by simp) (by decide), sortAB, hst, hb, hev]
    have ha : addH [kA] [] = [[kA]] := rfl
    rw [ha, setS_keep (by simp), setS_nil, sortA]
    have hsm : (sumT 0 (2 ^ 0)).1 = 1 := by decide
    rw [hsm]
    exact congrArg (fun x => (x, (1 : Int), (1 : Int))) (trimK_c [[]] (by simp))
  unfold insR
  rw [if_neg (by simp [h1]), if_neg (by simp [h2]), if_neg (by decide), if_neg (by decide)]
  simp only [hs]
  rfl
theorem rankK2 : rankR ⟨2, 2, 1, [[], [kA]], false⟩ kA = (2, 0) := by
  have h : cntL kA [kA] = 1 := by rw [cntL_yes (bl_irrefl _), cntL_nil]
  unfold rankR
  rw [if_neg (by decide), if_neg (by decide)]
  simp only [rankL, h, cntL_nil]
  rfl
set_option maxRecDepth 100000 in set_option maxHeartbeats 6400000 in
theorem knownr_calls : ACalls Try.prog 29 [] (.sc (.bool true)) [] := by
  have c0 := newr_calls (n := 2)
  have c1 := insr_calls (r := ⟨2, 0, 0, [], false⟩) (k := kA) (w := 1) (a := 0) (c := []) (by simp) (by simp) (by decide) (by simp)
  have c2 := insr_calls (r := ⟨2, 1, 0, [[kA]], false⟩) (k := kB) (w := 1) (a := 0) (c := []) (by simp) (by intro l hl; simp only [List.mem_singleton] at hl; subst hl; exact ⟨by decide, fun x hx => by rw [List.mem_singleton.1 hx]; decide⟩) (by decide) (by simp)
  have b3 : ∀ l ∈ ([[], [kA]] : List (List ByteArray)), l.length ≤ 100000 ∧ ∀ x ∈ l, x.size ≤ 1000000000 := by
    intro l hl
    simp only [List.mem_cons, List.not_mem_nil, or_false] at hl
    rcases hl with rfl | rfl
    · simp
    · exact ⟨by decide, fun x hx => by rw [List.mem_singleton.1 hx]; decide⟩
  have c3 := pRank_calls (r := ⟨2, 2, 1, [[], [kA]], false⟩) (key := kA) (by simp) b3 (by decide)
  rw [insK1] at c1
  rw [insK2] at c2
  rw [rankK2] at c3
  rw [show newR 2 = (⟨2, 0, 0, [], false⟩, 0) by unfold newR; rw [if_pos (by decide)]] at c0
  simp only [dR, lvD, rowKr, List.map_cons, List.map_nil, kA, kB] at c0 c1 c2 c3
  have d1 := c1.args (args' := [_, _, .sc (.slice none 0 0), _]) (.cons (.refl _) (.cons (.refl _) (.cons (.nil 1) (.cons (.refl _) .nil))))
  have d2 := c2.args (args' := [_, _, .sc (.slice none 0 0), _]) (.cons (.refl _) (.cons (.refl _) (.cons (.nil 1) (.cons (.refl _) .nil))))
  refine of_tri [] [1,3,6,12,18,26,32] Try.func29 rfl call29 rfl (by decide) (by decide) rfl rfl Try.ntmps29 (by simp (disch := omega) only [seval,go_sem,cnd,intV,shV,convV,strV,List.replicate,List.zip_nil_left,List.zip_cons_cons];rfl) (by simp (disch := omega) only [seval,go_sem,cnd,intV,shV,convV,strV,List.zip_nil_left,List.zip_cons_cons];rfl) ?_
  ((repeat' (first|((with_reducible refine isTriD ?_);first|((with_reducible refine isCallD ?_);first|((with_reducible refine LVcall (st := [39,43,47,51,55,59,64,70,78,86]) ?_);simp only [seval,go_sem];first|(refine CallL.c (c0) ?_)|(refine CallL.c (d1) ?_)|(refine CallL.c (d2) ?_)|(refine CallL.c (c3) ?_)))|((with_reducible first|refine TriD.step (by simp (disch := omega) only [seval,go_sem,cnd,intV,shV,convV,strV];rfl) ?_);refine LVs (st := [39,43,47,51,55,59,64,70,78,86]) ?_))|(with_reducible refine isRet ?_;refine RetV (rs := [.tmp 0]) (by with_unfolding_all rfl) rfl ?_ <;> simp only [seval,go_sem] <;> (repeat' (with_reducible apply And.intro)) <;> (try rfl))|(with_reducible (first|refine TVq (st := [39,43,47,51,55,59,64,70,78,86]) ?_))|simp only [seval,go_sem]|(with_reducible refine oV_st (by simp (disch := omega) only [seval,go_sem,cnd,intV,shV,convV,strV];rfl) ?_))) <;> (try (fail)))
  all_goals done
set_option maxRecDepth 100000 in set_option maxHeartbeats 6400000 in
theorem same_calls {r : Rk} (hl : r.levels.length ≤ 1000) (hk : ∀ l ∈ r.levels, l.length ≤ 100000 ∧ ∀ x ∈ l, x.size ≤ 1000000000) : ACalls Try.prog 36 [dR r, dR r] (.sc (.bool true)) [] := by
  obtain ⟨s, t, sl, ls, sat⟩ := r
  simp only at hl hk
  simp only [dR]
  refine of_tri [] [2,3] Try.func36 rfl call36 rfl (by decide) (by decide) rfl rfl Try.ntmps36 (by simp (disch := omega) only [seval,go_sem,cnd,intV,shV,convV,strV,List.replicate,List.zip_nil_left,List.zip_cons_cons];rfl) (by simp (disch := omega) only [seval,go_sem,cnd,intV,shV,convV,strV,List.zip_nil_left,List.zip_cons_cons];rfl) ?_
  ((repeat' (first | (with_reducible (first | refine TVq (st := []) ?_)) | simp only [seval, go_sem] | (with_reducible refine oV_st (by simp (disch := omega) only [seval, go_sem, cnd, intV, shV, convV, strV]; rfl) ?_))) <;> (try (fail)))
  all_goals (try (exfalso; simp_all; done))
  all_goals (with_reducible refine Tri.loopU (fun (i : Nat) => [(5,.sc (.int .i64 i)),(4,.any),(6,.any),(42,.any),(43,.any),(44,.any),(45,.any),(46,.any),(47,.any),(48,.any),(49,.any),(50,.any),(51,.any),(52,.any),(53,.any),(54,.any),(55,.any),(56,.any),(57,.any),(58,.any),(59,.any),(60,.any),(61,.any),(62,.any),(63,.any),(64,.any),(65,.any),(66,.any),(67,.any),(68,.any),(69,.any),(70,.any),(71,.any),(72,.any),(73,.any),(74,.any),(75,.any),(76,.any),(77,.any),(78,.any),(79,.any),(80,.any),(81,.any),(82,.any),(83,.any),(84,.any),(85,.any),(86,.any),(87,.any),(88,.any)]) (fun (i : Nat) => []) (fun (i : Nat) => i ≤ ls.length) (fun (i : Nat) => ls.length - i) (0) (Nat.zero_le _) (by intro _;simp (disch := omega) only [seval,go_sem,cnd,intV,shV,convV,strV];rfl) (by intro _;simp (disch := omega) only [seval,go_sem,cnd,intV,shV,convV,strV];rfl) (by (first|refine leQL_spec ?_);(try simp only [seval,go_sem]);first|done) (by (first|refine leQH_spec ?_);(try simp only [seval,go_sem]);first|done) (fun i hI => ?_))
  all_goals
    by_cases hlt : i < ls.length
    · obtain ⟨l, hli⟩ := get_lt hlt
      have hli' := get_map lvD hli
      obtain ⟨hll, hks⟩ := hk l (List.mem_of_getElem? hli)
      ((repeat' (first|(with_reducible refine ListD.nil ?_)|((with_reducible refine isListD ?_);first|(with_reducible refine ListD.step (by simp only [seval,go_sem,hli',lvD];rfl) ?_)|(with_reducible refine ListD.step (by simp (disch := omega) only [seval,go_sem,cnd,intV,shV,convV,strV,hli',lvD];rfl) ?_))|(with_reducible refine isDrawn ?_;refine Tri.drawnD mix (by kernel_rfl) (by simp only [List.map_cons,List.map_nil];rfl) ?_)|(with_reducible (first|refine TVq (st := []) ?_))|simp only [seval,go_sem,hli',lvD]|(with_reducible refine oV_st (by simp (disch := omega) only [seval,go_sem,cnd,intV,shV,convV,strV,hli',lvD];rfl) ?_))) <;> (try (fail)))
      all_goals (with_reducible refine Tri.loopU (fun (k : Nat) => [(6,.sc (.int .i64 k)),(4,.any),(62,.any),(63,.any),(64,.any),(65,.any),(66,.any),(67,.any),(68,.any),(69,.any),(70,.any),(71,.any),(72,.any),(73,.any),(74,.any),(75,.any),(76,.any),(77,.any),(78,.any),(79,.any),(80,.any),(81,.any),(82,.any),(83,.any),(84,.any),(85,.any),(86,.any),(87,.any),(88,.any)]) (fun (k : Nat) => []) (fun (k : Nat) => k ≤ l.length) (fun (k : Nat) => l.length - k) (0) (Nat.zero_le _) (by intro _;simp (disch := omega) only [seval,go_sem,cnd,intV,shV,convV,strV];rfl) (by intro _;simp (disch := omega) only [seval,go_sem,cnd,intV,shV,convV,strV];rfl) (by (first|refine leQL_spec ?_);(try simp only [seval,go_sem]);first|done) (by (first|refine leQH_spec ?_);(try simp only [seval,go_sem]);first|done) (fun k hI => ?_))
      all_goals
        by_cases hkt : k < l.length
        · obtain ⟨x, hx⟩ := get_lt hkt
          have hx' := get_map rowKr hx
          have hxs := hks x (List.mem_of_getElem? hx)
          (all_goals (try have hZ := (And.intro hli' hx'));(repeat' (first|(with_reducible refine ListD.nil ?_)|((with_reducible refine isListD ?_);first|(with_reducible refine ListD.step (by simp only [seval,go_sem,lvD,rowKr,hZ];rfl) ?_)|(with_reducible refine ListD.step (by simp (disch := omega) only [seval,go_sem,cnd,intV,shV,convV,strV,lvD,rowKr,hZ];rfl) ?_))|(with_reducible refine isDrawn ?_;refine Tri.drawnD mix (by kernel_rfl) (by simp only [List.map_cons,List.map_nil];rfl) ?_)|(with_reducible (first|refine TVq (st := []) ?_))|simp only [seval,go_sem,lvD,rowKr,hZ]|(with_reducible refine oV_st (by simp (disch := omega) only [seval,go_sem,cnd,intV,shV,convV,strV,lvD,rowKr,hZ];rfl) ?_))) <;> (try (fail));all_goals (try clear hZ))
          all_goals (try (refine isNextM (k + 1) (by (first|refine leQL_spec ?_);(try simp only [seval,go_sem]);first|((repeat' (with_reducible apply And.intro)) <;> first|rfl);first|done) (by (first|refine leQH_spec ?_);(try simp only [seval,go_sem]);first|done) ?_ ?_ <;> (try (first|omega))))
        · ((repeat' (first | (with_reducible (first | refine TVq (st := []) ?_)) | simp only [seval, go_sem, hli', lvD] | (with_reducible refine oV_st (by simp (disch := omega) only [seval, go_sem, cnd, intV, shV, convV, strV, hli', lvD]; rfl) ?_))) <;> (try (fail)))
          all_goals (try (refine isNextM (i + 1) (by (first|refine leQL_spec ?_);(try simp only [seval,go_sem]);first|((repeat' (with_reducible apply And.intro)) <;> first|rfl);first|done) (by (first|refine leQH_spec ?_);(try simp only [seval,go_sem]);first|done) ?_ ?_ <;> (try (first|omega))))
    · ((repeat' (first|(with_reducible refine isRet ?_;refine RetV (rs := [.tmp 4]) (by with_unfolding_all rfl) rfl ?_ <;> simp only [seval,go_sem] <;> (repeat' (with_reducible apply And.intro)) <;> (try rfl))|(with_reducible (first|refine TVq (st := []) ?_))|simp only [seval,go_sem]|(with_reducible refine oV_st (by simp (disch := omega) only [seval,go_sem,cnd,intV,shV,convV,strV];rfl) ?_))) <;> (try (fail)))
end Go.Proofs.Ytnckgbmifigadaa
