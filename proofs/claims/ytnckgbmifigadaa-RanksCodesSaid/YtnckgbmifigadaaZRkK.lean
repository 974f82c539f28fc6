/- Ranks: rank, Rank and SameRanks walked. -/
import Derived.Test.YtnckgbmifigadaaZRkB
import Derived.Test.YtnckgbmifigadaaZRkC
set_option linter.unusedSimpArgs false
set_option linter.unusedVariables false
namespace Go.Proofs.Ytnckgbmifigadaa
open Go.RowKit Go.Avm
def rankR (r : Rk) (k : ByteArray) : Int × Int := if validR r ≠ 0 then (0, validR r) else if keyOk k = false then (0, 7) else (rankL k 0 r.levels, 0)
theorem cntL_le (k : ByteArray) (l : List ByteArray) : cntL k l ≤ l.length := by unfold cntL; exact List.length_filter_le _ _
theorem cntL_nil (k : ByteArray) : cntL k [] = 0 := rfl
theorem cntL_yes {k x : ByteArray} {l : List ByteArray} (h : Op.bytesLess k.toList x.toList = false) : cntL k (x :: l) = cntL k l + 1 := by simp [cntL, h]
theorem cntL_no {k x : ByteArray} {l : List ByteArray} (h : Op.bytesLess k.toList x.toList = true) : cntL k (x :: l) = cntL k l := by simp [cntL, h]
theorem le_not (x y : List UInt8) : (Op.bytesLess x y || x == y) = !Op.bytesLess y x := by
  rcases bl_total x y with h | h | h
  · rw [h, bl_asymm h]; rfl
  · subst h; rw [bl_irrefl]; simp
  · rw [h, bl_asymm h]
    have : x ≠ y := fun e => bl_ne h e.symm
    simp [this]
theorem rankL_rng (k : ByteArray) : ∀ (i : Nat) (ls : List (List ByteArray)), 0 ≤ rankL k i ls ∧ rankL k i ls ≤ wtL i ls
  | _, [] => ⟨Int.le_refl _, Int.le_refl _⟩
  | i, l :: ls => by
    have ih := rankL_rng k (i + 1) ls
    have h2 := two_pos i
    have h3 : 0 ≤ (cntL k l : Int) * 2 ^ i := Int.mul_nonneg (by omega) (by omega)
    have h4 : (cntL k l : Int) * 2 ^ i ≤ (l.length : Int) * 2 ^ i := Int.mul_le_mul_of_nonneg_right (by have := cntL_le k l; omega) (by omega)
    simp only [rankL, wtL]; omega
set_option maxRecDepth 100000 in set_option maxHeartbeats 6400000 in
theorem prank_calls {r : Rk} {key : ByteArray} (hl : r.levels.length ≤ 41) (hk : ∀ l ∈ r.levels, l.length ≤ 100000 ∧ ∀ x ∈ l, x.size ≤ 1000000000) (hkk : key.size ≤ 1000000000) (hw : wtL 0 r.levels ≤ 1099511627776) :
    ACalls Try.prog 84 [dR r, .sc (.string key)] (.sc (.int .i64 (rankL key 0 r.levels))) [] := by
  obtain ⟨s, t, sl, ls, sat⟩ := r
  simp only at hl hk hw ⊢
  simp only [dR]
  have hR := rankL_rng key 0 ls
  refine of_tri [] [2] Try.func84 rfl call84 rfl (by decide) (by decide) rfl rfl Try.ntmps84 (by simp (disch := omega) only [seval,go_sem,cnd,intV,shV,convV,strV,List.replicate,List.zip_nil_left,List.zip_cons_cons];rfl) (by simp (disch := omega) only [seval,go_sem,cnd,intV,shV,convV,strV,List.zip_nil_left,List.zip_cons_cons];rfl) ?_
  ((repeat' (first | (with_reducible (first | refine TVq (st := []) ?_)) | simp only [seval, go_sem])) <;> (try (fail)))
  all_goals (with_reducible refine Tri.loopU (fun (z : Nat × Int) => [(13,.sc (.int .i64 z.1)),(5,.sc (.int .i64 z.2)),(6,.any),(7,.any),(9,.any),(14,.any),(15,.any),(16,.any),(17,.any),(18,.any),(19,.any),(20,.any),(21,.any),(22,.any),(23,.any),(24,.any),(25,.any),(26,.any),(27,.any),(28,.any),(29,.any),(30,.any),(31,.any),(32,.any)]) (fun (z : Nat × Int) => []) (fun (z : Nat × Int) => z.1 ≤ ls.length ∧ z.2 + rankL key z.1 (ls.drop z.1) = rankL key 0 ls ∧ 0 ≤ z.2) (fun (z : Nat × Int) => ls.length - z.1) ((0,0)) (⟨Nat.zero_le _,by simp,by simp⟩) (by intro _;simp (disch := omega) only [seval,go_sem,cnd,intV,shV,convV,strV];rfl) (by intro _;simp (disch := omega) only [seval,go_sem,cnd,intV,shV,convV,strV];rfl) (by (first|refine leQL_spec ?_);(try simp only [seval,go_sem]);first|done) (by (first|refine leQH_spec ?_);(try simp only [seval,go_sem]);first|done) (fun z hI => ?_))
  all_goals
    obtain ⟨i, n⟩ := z
    obtain ⟨hi, hn, hn0⟩ := hI
    simp only at hi hn hn0
    by_cases hlt : i < ls.length
    · obtain ⟨l, hli⟩ := get_lt hlt
      have hli' := get_map lvD hli
      obtain ⟨hll, hks⟩ := hk l (List.mem_of_getElem? hli)
      rw [drop_get hli, rankL] at hn
      have hmin : min i 64 = i := by omega
      have hp1 := two_pos i
      have hp2 : (2 : Int) ^ i ≤ 2 ^ 41 := by exact_mod_cast Nat.pow_le_pow_right (by decide) (show i ≤ 41 by omega)
      have hrest := (rankL_rng key (i + 1) (ls.drop (i + 1))).1
      ((repeat' (first | (with_reducible (first | refine TVq (st := []) ?_)) | simp only [seval, go_sem, hli', lvD] | (with_reducible refine oV_st (by simp (disch := omega) only [seval, go_sem, cnd, intV, shV, convV, strV, hli', lvD]; rfl) ?_))) <;> (try (fail)))
      all_goals (with_reducible refine Tri.loopU (fun (u : Nat × Int) => [(20,.sc (.int .i64 u.1)),(5,.sc (.int .i64 u.2)),(9,.any),(21,.any),(22,.any),(23,.any),(24,.any),(25,.any),(26,.any),(27,.any),(28,.any),(29,.any),(30,.any),(31,.any)]) (fun (u : Nat × Int) => []) (fun (u : Nat × Int) => u.1 ≤ l.length ∧ u.2 + (cntL key (l.drop u.1) : Int) * 2 ^ i = n + (cntL key l : Int) * 2 ^ i ∧ 0 ≤ u.2) (fun (u : Nat × Int) => l.length - u.1) ((0,n)) (⟨Nat.zero_le _,by simp,hn0⟩) (by intro _;simp (disch := omega) only [seval,go_sem,cnd,intV,shV,convV,strV];rfl) (by intro _;simp (disch := omega) only [seval,go_sem,cnd,intV,shV,convV,strV];rfl) (by (first|refine leQL_spec ?_);(try simp only [seval,go_sem]);first|done) (by (first|refine leQH_spec ?_);(try simp only [seval,go_sem]);first|done) (fun u hI => ?_))
      all_goals
        obtain ⟨k, m⟩ := u
        obtain ⟨hk', hm, hm0⟩ := hI
        simp only at hk' hm hm0
        by_cases hkt : k < l.length
        · obtain ⟨x, hx⟩ := get_lt hkt
          have hx' := get_map rowKr hx
          have hxs := hks x (List.mem_of_getElem? hx)
          have h0 : 0 ≤ (cntL key (l.drop (k + 1)) : Int) * 2 ^ i := Int.mul_nonneg (by omega) (by omega)
          rw [drop_get hx] at hm
          have hle := le_not x.toList key.toList
          cases hb : Op.bytesLess key.toList x.toList with
          | true =>
            rw [cntL_no hb] at hm
            rw [hb] at hle
            (all_goals (try have hZ := (And.intro hx' hle));(repeat' (first|(with_reducible (first|refine TVq (st := []) ?_))|simp only [seval,go_sem,rowKr,Bool.not_true,hZ]|(with_reducible refine oV_st (by simp (disch := omega) only [seval,go_sem,cnd,intV,shV,convV,strV,rowKr,Bool.not_true,hZ];rfl) ?_))) <;> (try (fail));all_goals (try clear hZ))
            all_goals (refine isNextM ((k + 1,m)) (by (first|refine leQL_spec ?_);(try simp only [seval,go_sem]);first|((repeat' (with_reducible apply And.intro)) <;> first|rfl);first|done) (by (first|refine leQH_spec ?_);(try simp only [seval,go_sem]);first|done) ?_ ?_ <;> (try (first|omega|(simp;omega))))
            all_goals exact ⟨by simp only; omega, hm, hm0⟩
          | false =>
            rw [cntL_yes hb, Int.natCast_add, Int.add_mul] at hm
            rw [hb] at hle
            (all_goals (try have hZ := (And.intro hx' (And.intro hle hmin)));(repeat' (first|(with_reducible (first|refine TVq (st := []) ?_))|simp only [seval,go_sem,rowKr,Int.one_mul,Bool.not_false,hZ]|(with_reducible refine oV_st (by simp (disch := omega) only [seval,go_sem,cnd,intV,shV,convV,strV,rowKr,Int.one_mul,Bool.not_false,hZ];rfl) ?_))) <;> (try (fail));all_goals (try clear hZ))
            all_goals (refine isNextM ((k + 1,m + 2 ^ i)) (by (first|refine leQL_spec ?_);(try simp only [seval,go_sem]);first|((repeat' (with_reducible apply And.intro)) <;> first|rfl);first|done) (by (first|refine leQH_spec ?_);(try simp only [seval,go_sem]);first|done) ?_ ?_ <;> (try (first|omega|(simp;omega))))
            all_goals exact ⟨by simp only; omega, by simp only; omega, by simp only; omega⟩
        · rw [List.drop_eq_nil_of_le (by omega), cntL_nil] at hm
          ((repeat' (first | (with_reducible (first | refine TVq (st := []) ?_)) | simp only [seval, go_sem] | (with_reducible refine oV_st (by simp (disch := omega) only [seval, go_sem, cnd, intV, shV, convV, strV]; rfl) ?_))) <;> (try (fail)))
          all_goals (refine isNextM ((i + 1,m)) (by (first|refine leQL_spec ?_);(try simp only [seval,go_sem]);first|((repeat' (with_reducible apply And.intro)) <;> first|rfl);first|done) (by (first|refine leQH_spec ?_);(try simp only [seval,go_sem]);first|done) ?_ ?_ <;> (try (first|omega|(simp;omega))))
          all_goals exact ⟨by simp only; omega, by simp only; omega, hm0⟩
    · rw [List.drop_eq_nil_of_le (by omega), rankL] at hn
      ((repeat' (first|(with_reducible refine isRet ?_;refine RetV (rs := [.tmp 4]) (by with_unfolding_all rfl) rfl ?_ <;> simp only [seval,go_sem] <;> (repeat' (with_reducible apply And.intro)) <;> (try rfl))|(with_reducible (first|refine TVq (st := []) ?_))|simp only [seval,go_sem]|(with_reducible refine oV_st (by simp (disch := omega) only [seval,go_sem,cnd,intV,shV,convV,strV];rfl) ?_))) <;> (try (fail)))
      all_goals omega
set_option maxRecDepth 100000 in set_option maxHeartbeats 6400000 in
theorem pRank_calls {r : Rk} {key : ByteArray} (hl : r.levels.length ≤ 1000) (hk : ∀ l ∈ r.levels, l.length ≤ 100000 ∧ ∀ x ∈ l, x.size ≤ 1000000000) (hkk : key.size ≤ 1000000000) :
    ACalls Try.prog 40 [dR r, .sc (.string key)] (.tup [.sc (.int .i64 (rankR r key).1), .sc (.int .i64 (rankR r key).2)]) [] := by
  have hvd := validr_calls (r := r) hl hk
  unfold rankR
  by_cases h1 : validR r = 0
  · rw [h1] at hvd
    have ok := validR_ok h1
    have hrk := prank_calls (r := r) (key := key) ok.len hk hkk (by rw [ok.wt]; exact ok.t2)
    obtain ⟨s, t, sl, ls, sat⟩ := r
    simp only [dR] at hvd hrk ⊢
    rw [h1]
    cases h2 : keyOk key
    · simp only [ne_eq, not_true_eq_false, if_true, if_false]
      refine of_tri [] [2,8,13,17] Try.func40 rfl call40 rfl (by decide) (by decide) rfl rfl Try.ntmps40 (by simp (disch := omega) only [seval,go_sem,cnd,intV,shV,convV,strV,List.replicate,List.zip_nil_left,List.zip_cons_cons];rfl) (by simp (disch := omega) only [seval,go_sem,cnd,intV,shV,convV,strV,List.zip_nil_left,List.zip_cons_cons];rfl) ?_
      ((repeat' (first|((with_reducible refine isTriD ?_);first|((with_reducible refine isCallD ?_);first|((with_reducible refine LVcall (st := []) ?_);simp only [seval,go_sem,h2];first|(refine CallL.c (hvd) ?_)|(refine CallL.c (iskey_calls ?_) ?_))))|(with_reducible refine isRet ?_;refine RetV (rs := [.tmp 4,.tmp 5]) (by with_unfolding_all rfl) rfl ?_ <;> simp only [seval,go_sem] <;> (repeat' (with_reducible apply And.intro)) <;> (try rfl))|(with_reducible (first|refine TVq (st := []) ?_))|simp only [seval,go_sem,h2]|(with_reducible refine oV_st (by simp (disch := omega) only [seval,go_sem,cnd,intV,shV,convV,strV,h2];rfl) ?_))) <;> (try (first|(with_reducible assumption))))
    · simp only [ne_eq, not_true_eq_false, if_false, Bool.true_eq_false]
      refine of_tri [] [2,8,13,17] Try.func40 rfl call40 rfl (by decide) (by decide) rfl rfl Try.ntmps40 (by simp (disch := omega) only [seval,go_sem,cnd,intV,shV,convV,strV,List.replicate,List.zip_nil_left,List.zip_cons_cons];rfl) (by simp (disch := omega) only [seval,go_sem,cnd,intV,shV,convV,strV,List.zip_nil_left,List.zip_cons_cons];rfl) ?_
      ((repeat' (first|((with_reducible refine isTriD ?_);first|((with_reducible refine isCallD ?_);first|((with_reducible refine LVcall (st := []) ?_);simp only [seval,go_sem,h2];first|(refine CallL.c (hvd) ?_)|(refine CallL.c (hrk) ?_)|(refine CallL.c (iskey_calls ?_) ?_))))|(with_reducible refine isRet ?_;refine RetV (rs := [.tmp 4,.tmp 5]) (by with_unfolding_all rfl) rfl ?_ <;> simp only [seval,go_sem] <;> (repeat' (with_reducible apply And.intro)) <;> (try rfl))|(with_reducible (first|refine TVq (st := []) ?_))|simp only [seval,go_sem,h2]|(with_reducible refine oV_st (by simp (disch := omega) only [seval,go_sem,cnd,intV,shV,convV,strV,h2];rfl) ?_))) <;> (try (first|(with_reducible assumption))))
  · rw [if_pos h1]
    obtain ⟨s, t, sl, ls, sat⟩ := r
    simp only [dR] at hvd ⊢
    refine of_tri [] [2,8,13,17] Try.func40 rfl call40 rfl (by decide) (by decide) rfl rfl Try.ntmps40 (by simp (disch := omega) only [seval,go_sem,cnd,intV,shV,convV,strV,List.replicate,List.zip_nil_left,List.zip_cons_cons];rfl) (by simp (disch := omega) only [seval,go_sem,cnd,intV,shV,convV,strV,List.zip_nil_left,List.zip_cons_cons];rfl) ?_
    ((repeat' (first|((with_reducible refine isTriD ?_);first|((with_reducible refine isCallD ?_);first|((with_reducible refine LVcall (st := []) ?_);simp only [seval,go_sem];first|(refine CallL.c (hvd) ?_))))|(with_reducible refine isRet ?_;refine RetV (rs := [.tmp 4,.tmp 5]) (by with_unfolding_all rfl) rfl ?_ <;> simp only [seval,go_sem] <;> (repeat' (with_reducible apply And.intro)) <;> (try rfl))|(with_reducible (first|refine TVq (st := []) ?_))|simp only [seval,go_sem]|(with_reducible refine oV_st (by simp (disch := omega) only [seval,go_sem,cnd,intV,shV,convV,strV];rfl) ?_))) <;> (try (fail)))
end Go.Proofs.Ytnckgbmifigadaa
