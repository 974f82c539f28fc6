/- Ranks: how far a settling moves ranks, and what stays valid (plain). -/
import Derived.Test.YtnckgbmifigadaaZRkM
import Derived.Test.YtnckgbmifigadaaZRkJ
import Derived.Test.YtnckgbmifigadaaZRkK
set_option linter.unusedSimpArgs false
set_option linter.unusedVariables false
namespace Go.Proofs.Ytnckgbmifigadaa
open Go.RowKit Go.Avm
theorem cntL_app (k : ByteArray) (a b : List ByteArray) : cntL k (a ++ b) = cntL k a + cntL k b := by simp [cntL]
theorem cntL_perm {k : ByteArray} {a b : List ByteArray} (h : a.Perm b) : cntL k a = cntL k b := by unfold cntL; exact (h.filter _).length_eq
theorem cntL_zero {k : ByteArray} : ∀ {l : List ByteArray}, (∀ x ∈ l, Op.bytesLess k.toList x.toList = true) → cntL k l = 0
  | [], _ => rfl
  | x :: l, h => by rw [cntL_no (h x (List.mem_cons_self ..)), cntL_zero fun y hy => h y (List.mem_cons_of_mem _ hy)]
theorem evK_shift (x y : ByteArray) (l : List ByteArray) : ∀ n k, l.length - k ≤ n → evK (x :: y :: l) (k + 2) = evK l k
  | n, k, h => by
    by_cases hk : k < l.length
    · cases n with
      | zero => omega
      | succ n =>
        obtain ⟨z, hz⟩ := get_lt hk
        rw [evK_lt (x := z) (by simpa using hz), evK_lt hz, evK_shift x y l n (k + 2) (by omega)]
    · rw [evK_ge (by simp; omega), evK_ge (by omega)]
theorem lt_leK {k x y : ByteArray} (h : Op.bytesLess k.toList x.toList = true) (g : leK x y) : Op.bytesLess k.toList y.toList = true := by
  cases e : Op.bytesLess k.toList y.toList with
  | true => rfl
  | false => exact absurd (leK_trans g (show leK y k from e)) (by rw [leK, h]; decide)
/-- Of the keys that are at most a key, every second one goes up. -/
theorem half_rank (k : ByteArray) : ∀ (n : Nat) (l : List ByteArray) (b : Nat), l.length = 2 * n → l.Pairwise leK → b ≤ 1 → 2 * cntL k (evK l b) ≤ cntL k l + 1 ∧ cntL k l ≤ 2 * cntL k (evK l b) + 1
  | 0, l, b, h, _, _ => by
    obtain rfl := List.eq_nil_of_length_eq_zero h
    rw [evK_ge (by simp), cntL_nil]; omega
  | n + 1, [], b, h, _, _ => by simp at h
  | n + 1, [x], b, h, _, _ => by simp at h; omega
  | n + 1, x :: y :: l, b, h, hs, hb => by
    obtain ⟨hx, hs1⟩ := List.pairwise_cons.1 hs
    obtain ⟨hy, hs2⟩ := List.pairwise_cons.1 hs1
    have ih := half_rank k n l b (by simp at h; omega) hs2 hb
    have hxy := hx y (List.mem_cons_self ..)
    have e0 : b = 0 → evK (x :: y :: l) b = x :: evK l b := fun e => by subst e; rw [evK_lt (x := x) (by rfl), evK_shift x y l _ 0 (Nat.le_refl _)]
    have e1 : b = 1 → evK (x :: y :: l) b = y :: evK l b := fun e => by subst e; rw [evK_lt (x := y) (by rfl), evK_shift x y l _ 1 (Nat.le_refl _)]
    have hm := evK_mem l _ b (Nat.le_refl _)
    cases cx : Op.bytesLess k.toList x.toList with
    | true =>
      have cy := lt_leK cx hxy
      have z1 : cntL k l = 0 := cntL_zero fun z hz => lt_leK cy (hy z hz)
      have z2 : cntL k (evK l b) = 0 := cntL_zero fun z hz => lt_leK cy (hy z (hm z hz))
      rw [cntL_no cx, cntL_no cy, z1]
      rcases (show b = 0 ∨ b = 1 by omega) with e | e
      · rw [e0 e, cntL_no cx, z2]; omega
      · rw [e1 e, cntL_no cy, z2]; omega
    | false =>
      cases cy : Op.bytesLess k.toList y.toList with
      | true =>
        have z1 : cntL k l = 0 := cntL_zero fun z hz => lt_leK cy (hy z hz)
        have z2 : cntL k (evK l b) = 0 := cntL_zero fun z hz => lt_leK cy (hy z (hm z hz))
        rw [cntL_yes cx, cntL_no cy, z1]
        rcases (show b = 0 ∨ b = 1 by omega) with e | e
        · rw [e0 e, cntL_yes cx, z2]; omega
        · rw [e1 e, cntL_no cy, z2]; omega
      | false =>
        rw [cntL_yes cx, cntL_yes cy]
        rcases (show b = 0 ∨ b = 1 by omega) with e | e
        · rw [e0 e, cntL_yes cx]; omega
        · rw [e1 e, cntL_yes cy]; omega
theorem rankL_addH (k : ByteArray) (u : List ByteArray) (i : Nat) (ls : List (List ByteArray)) : rankL k i (addH u ls) = (cntL k u : Int) * 2 ^ i + rankL k i ls := by
  cases ls with
  | nil => simp [addH, rankL]
  | cons l ls =>
    simp only [addH, rankL, cntL_app]
    rw [Int.natCast_add, Int.add_mul]; omega
theorem rankL_app (k : ByteArray) : ∀ (i : Nat) (a b : List (List ByteArray)), rankL k i (a ++ b) = rankL k i a + rankL k (i + a.length) b
  | i, [], b => by simp [rankL]
  | i, l :: a, b => by
    simp only [List.cons_append, rankL, List.length_cons]
    rw [rankL_app k (i + 1) a b, show i + 1 + a.length = i + (a.length + 1) by omega]; omega
theorem rankL_rep (k : ByteArray) : ∀ (n i : Nat), rankL k i (List.replicate n []) = 0
  | 0, _ => rfl
  | n + 1, i => by rw [List.replicate_succ, rankL, rankL_rep k n, cntL_nil]; simp
theorem rankL_pad (k : ByteArray) (i : Nat) (ls : List (List ByteArray)) (n : Nat) : rankL k i (padL ls n) = rankL k i ls := by rw [padL, rankL_app, rankL_rep]; omega
theorem rankL_set (k : ByteArray) : ∀ (i n : Nat) (ls : List (List ByteArray)) (l u : List ByteArray), ls[n]? = some l → rankL k i (ls.set n (l ++ u)) = rankL k i ls + (cntL k u : Int) * 2 ^ (i + n)
  | i, n, [], l, u, h => by simp at h
  | i, 0, x :: ls, l, u, h => by
    simp only [List.getElem?_cons_zero, Option.some.injEq] at h
    subst h
    simp only [List.set_cons_zero, rankL, cntL_app, Nat.add_zero]
    rw [Int.natCast_add, Int.add_mul]; omega
  | i, n + 1, x :: ls, l, u, h => by
    simp only [List.set_cons_succ, rankL]
    rw [rankL_set k (i + 1) n ls l u (by simpa using h), show i + 1 + n = i + (n + 1) by omega]; omega
theorem rankL_addL (k : ByteArray) (ls : List (List ByteArray)) (n : Nat) (u : List ByteArray) : rankL k 0 (addL ls n u) = rankL k 0 ls + (cntL k u : Int) * 2 ^ n := by
  obtain ⟨l, hl⟩ := get_lt (show n < (padL ls (n + 1)).length by rw [padL_len]; omega)
  rw [addL_at hl, rankL_set k 0 n _ l u hl, rankL_pad, Nat.zero_add]
theorem rankL_putK (key k : ByteArray) : ∀ (m n i : Nat) (ls : List (List ByteArray)), n < 2 ^ m → rankL key 0 (putK k (powS n i) ls) = rankL key 0 ls + (cntL key [k] : Int) * ((n : Int) * 2 ^ i)
  | 0, n, i, ls, h => by rw [show n = 0 by simpa using h, powS_zero, putK_nil]; simp
  | m + 1, n, i, ls, h => by
    have ih := fun ls => rankL_putK key k m (n / 2) (i + 1) ls (by rw [Nat.pow_succ] at h; omega)
    have e : (2 : Int) ^ (i + 1) = 2 * 2 ^ i := by rw [Int.pow_succ]; omega
    by_cases h0 : n = 0
    · subst h0; rw [powS_zero, putK_nil]; simp
    · have e3 : (n : Int) * 2 ^ i = ((n / 2 : Nat) : Int) * (2 * 2 ^ i) + ((n % 2 : Nat) : Int) * 2 ^ i := by
        have e2 : (n : Int) = 2 * ((n / 2 : Nat) : Int) + ((n % 2 : Nat) : Int) := by omega
        conv => lhs; rw [e2]
        rw [Int.add_mul, Int.mul_comm 2 ((n / 2 : Nat) : Int), Int.mul_assoc]
      rcases Nat.mod_two_eq_zero_or_one n with h2 | h2
      · rw [powS_even i h0 h2, ih, e, e3, h2]; simp
      · rw [powS_odd i h2, putK_cons, ih, rankL_addL, e, e3, h2, Int.mul_add]; simp; omega
theorem rankL_zip (k : ByteArray) : ∀ (i : Nat) (a b : List (List ByteArray)), rankL k i (zipL a b) = rankL k i a + rankL k i b
  | i, [], b => by simp [zipL, rankL]
  | i, x :: a, [] => by simp [zipL, rankL]
  | i, x :: a, y :: b => by
    simp only [zipL, rankL, cntL_app, rankL_zip k (i + 1) a b]
    rw [Int.natCast_add, Int.add_mul]; omega
theorem sumT_val {a b : Int} (h : 0 ≤ a) (h2 : a ≤ 1099511627776) (hb : 0 ≤ b) : (sumT a b).1 = min (a + b) 1099511627776 := by
  by_cases e : 1099511627776 < a + b
  · rw [sumT_full h h2 hb e]; simp only; omega
  · rw [sumT_fits h hb e]; simp only; omega
/-- A settling moves a rank by no more than what the slack grows by, but where the slack is as great as can be. -/
theorem setS_rank (key : ByteArray) {size : Int} {c : List Int} (h2 : 2 ≤ size) : ∀ (n i : Nat) (sl a : Int) (ls : List (List ByteArray)), keysN ls ≤ n → 0 ≤ sl → sl ≤ 1099511627776 →
    sl ≤ (setS size c i sl a ls).2.1 ∧ (setS size c i sl a ls).2.1 ≤ 1099511627776 ∧
    ((setS size c i sl a ls).2.1 = 1099511627776 ∨ (rankL key i (setS size c i sl a ls).1 - rankL key i ls ≤ (setS size c i sl a ls).2.1 - sl ∧ rankL key i ls - rankL key i (setS size c i sl a ls).1 ≤ (setS size c i sl a ls).2.1 - sl)) ∧
    a ≤ (setS size c i sl a ls).2.2 ∧ (setS size c i sl a ls).2.2 ≤ a + (setS size c i sl a ls).1.length
  | n, i, sl, a, [], _, _, h => by rw [setS_nil]; exact ⟨Int.le_refl _, h, .inr ⟨by simp, by simp⟩, Int.le_refl _, by simp⟩
  | 0, i, sl, a, l :: ls, hn, _, _ => by simp only [keysN] at hn; omega
  | n + 1, i, sl, a, l :: ls, hn, h0, hM => by
    simp only [keysN] at hn
    by_cases hf : (l.length : Int) < size
    · rw [setS_keep hf]
      obtain ⟨i1, i2, i3, i4, i5⟩ := setS_rank key (c := c) h2 n (i + 1) sl a ls (by omega) h0 hM
      refine ⟨i1, i2, ?_, i4, by simp only [List.length_cons]; omega⟩
      simp only [rankL, cntL_perm (sortK_perm l)]
      rcases i3 with e | ⟨e1, e2⟩
      · exact .inl e
      · exact .inr ⟨by omega, by omega⟩
    · have hb := bitN c a
      rw [setS_full (by omega) h2]
      dsimp only
      have hk := keysN_addH (evK (lowK (sortK l)) (bitR c a).toNat) ls
      have hup := upK_len (sortK l) hb
      have hsl := sortK_len l
      have hp := two_pos i
      have hsv := sumT_val h0 hM (show (0 : Int) ≤ 2 ^ i by omega)
      generalize (sumT sl (2 ^ i)).1 = s1 at *
      obtain ⟨i1, i2, i3, i4, i5⟩ := setS_rank key (c := c) h2 n (i + 1) s1 (a + 1) (addH (evK (lowK (sortK l)) (bitR c a).toNat) ls) (by omega) (by omega) (by omega)
      generalize setS size c (i + 1) s1 (a + 1) (addH (evK (lowK (sortK l)) (bitR c a).toNat) ls) = G at *
      obtain ⟨G1, G2, G3⟩ := G
      dsimp only at i1 i2 i3 i4 i5 ⊢
      have hlow : (lowK (sortK l)).Pairwise leK := (sortK_sorted l).sublist (List.take_sublist _ _)
      have hhalf := half_rank key ((sortK l).length / 2) (lowK (sortK l)) (bitR c a).toNat (by rw [lowK_len]; omega) hlow hb
      have hsplit : cntL key l = cntL key (lowK (sortK l)) + cntL key (stayK (sortK l)) := by
        rw [← cntL_app, lowK, stayK, List.take_append_drop, cntL_perm (sortK_perm l)]
      rw [rankL_addH, Int.pow_succ] at i3
      refine ⟨by omega, i2, ?_, by omega, by simp only [List.length_cons]; omega⟩
      simp only [rankL]
      rw [hsplit, Int.natCast_add, Int.add_mul]
      generalize cntL key (evK (lowK (sortK l)) (bitR c a).toNat) = cu at *
      generalize cntL key (lowK (sortK l)) = cl at *
      generalize (2 : Int) ^ i = p at *
      have hd : (cu : Int) * (p * 2) - (cl : Int) * p ≤ p ∧ (cl : Int) * p - (cu : Int) * (p * 2) ≤ p := by
        have e : (cu : Int) * (p * 2) = (2 * cu : Int) * p := by rw [Int.mul_comm p 2, ← Int.mul_assoc, Int.mul_comm (cu : Int) 2]
        rw [e, ← Int.sub_mul, ← Int.sub_mul]
        have h1 : ((2 * cu : Int) - cl) ≤ 1 := by omega
        have h3 : ((cl : Int) - 2 * cu) ≤ 1 := by omega
        have q1 := Int.mul_le_mul_of_nonneg_right h1 (show 0 ≤ p by omega)
        have q2 := Int.mul_le_mul_of_nonneg_right h3 (show 0 ≤ p by omega)
        rw [Int.one_mul] at q1 q2
        exact ⟨q1, q2⟩
      by_cases hfull : 1099511627776 < sl + p
      · exact .inl (by omega)
      · rcases i3 with e | ⟨e1, e2⟩
        · exact .inl e
        · exact .inr ⟨by omega, by omega⟩
theorem trimK_split (F : List (List ByteArray)) : ∃ n, F = trimK F ++ List.replicate n [] ∧ (trimK F).getLast? ≠ some [] := by
  have h : ∀ m, m ≤ F.length → ∃ n, F.take m = trimK (F.take m) ++ List.replicate n [] ∧ (trimK (F.take m)).getLast? ≠ some [] := by
    intro m
    induction m with
    | zero => intro _; exact ⟨0, by simp [trimK_nil], by simp [trimK_nil]⟩
    | succ m ih =>
      intro hm
      rcases trim_cases F (m + 1) hm with ⟨h0, _⟩ | ⟨_, hq, e⟩ | ⟨_, x, q, hq, e⟩
      · omega
      · obtain ⟨n, e1, e2⟩ := ih (by omega)
        simp only [Nat.add_sub_cancel] at hq e
        refine ⟨n + 1, ?_, by rw [e]; exact e2⟩
        rw [e, List.replicate_succ', ← List.append_assoc, ← e1, List.take_add_one, hq]; rfl
      · simp only [Nat.add_sub_cancel] at hq
        refine ⟨0, by rw [e]; simp, ?_⟩
        rw [e, lastTk hm, if_neg (by omega)]
        simp only [Nat.add_sub_cancel, hq]; simp
  have := h F.length (Nat.le_refl _)
  rwa [List.take_length] at this
theorem trimK_wt (F : List (List ByteArray)) (i : Nat) : wtL i (trimK F) = wtL i F := by
  obtain ⟨n, e, _⟩ := trimK_split F
  conv => rhs; rw [e]
  rw [wtL_app, wtL_rep]; omega
theorem trimK_rank (k : ByteArray) (F : List (List ByteArray)) (i : Nat) : rankL k i (trimK F) = rankL k i F := by
  obtain ⟨n, e, _⟩ := trimK_split F
  conv => rhs; rw [e]
  rw [rankL_app, rankL_rep]; omega
theorem badL_zero : ∀ (l pre : List ByteArray), (∀ x ∈ l, keyOk x = true) → (pre ++ l).Pairwise leK → badL pre l = 0
  | [], _, _, _ => rfl
  | k :: l, pre, h1, h2 => by
    rw [badL, if_neg (by rw [h1 k (List.mem_cons_self ..)]; decide), if_neg]
    · exact badL_zero l (pre ++ [k]) (fun x hx => h1 x (List.mem_cons_of_mem _ hx)) (by simpa using h2)
    · cases hl : pre.getLast? with
      | none => simp
      | some p =>
        have hp := List.mem_of_getLast? hl
        have := (List.pairwise_append.1 h2).2.2 p hp k (List.mem_cons_self ..)
        simp only [Option.any_some, Bool.not_eq_true]
        exact this
theorem badLs_zero {size : Int} : ∀ (i : Nat) (t : Int) (ls : List (List ByteArray)), (∀ l ∈ ls, (l.length : Int) < size ∧ badL [] l = 0) → badLs size i t ls = (0, t + wtL i ls)
  | i, t, [], _ => by simp [badLs, wtL]
  | i, t, l :: ls, h => by
    have h1 := h l (List.mem_cons_self ..)
    rw [badLs, if_neg (by omega), if_neg (by simp [h1.2]), badLs_zero (i + 1) _ ls fun x hx => h x (List.mem_cons_of_mem _ hx), wtL, Int.add_assoc]
theorem okR_valid {r : Rk} (h : OkR r) : validR r = 0 := by
  obtain ⟨s1, s2, s3, t1, t2, l1, l2, ln, lev, lst, wt⟩ := h
  have e : evenOk r.size = true := by simp only [evenOk, Bool.and_eq_true, decide_eq_true_eq]; omega
  unfold validR
  rw [if_neg (by simp only [e, Bool.true_eq_false, false_or]; omega), if_neg (by omega), badLs_zero 0 0 r.levels lev, if_neg (by simp), if_neg lst, if_neg (by simp only; omega)]
/-- A valid summary whose rank of a key is off by at most its slack. -/
structure GdR (size : Int) (key : ByteArray) (T tot : Int) (r : Rk) : Prop where
  v : validR r = 0
  sat : r.sat = false
  sz : r.size = size
  tt : r.total = tot
  lo : rankL key 0 r.levels - T ≤ r.slack
  hi : T - rankL key 0 r.levels ≤ r.slack
  t0 : 0 ≤ T
  t1 : T ≤ tot
theorem settle_ok {P : ByteArray → Prop} {size : Int} {c : List Int} {sl a : Int} {ls : List (List ByteArray)} (hs1 : 2 ≤ size) (hs2 : size ≤ 32) (hs3 : size % 2 = 0) (h0 : 0 ≤ sl) (hM : sl ≤ 1099511627776) (hln : ls.length ≤ 41) (hk : ∀ l ∈ ls,∀ x ∈ l,keyOk x = true ∧ P x) (hw : wtL 0 ls ≤ 1099511627776) (sat : Bool) :
    validR ⟨size, wtL 0 ls, (settleK size c sl a ls).2.1, (settleK size c sl a ls).1, sat⟩ = 0 ∧ (∀ l ∈ (settleK size c sl a ls).1, ∀ x ∈ l, P x) ∧ a ≤ (settleK size c sl a ls).2.2 ∧ (settleK size c sl a ls).2.2 ≤ a + 41 ∧ sl ≤ (settleK size c sl a ls).2.1 ∧
    ∀ key, (settleK size c sl a ls).2.1 = 1099511627776 ∨ (rankL key 0 (settleK size c sl a ls).1 - rankL key 0 ls ≤ (settleK size c sl a ls).2.1 - sl ∧ rankL key 0 ls - rankL key 0 (settleK size c sl a ls).1 ≤ (settleK size c sl a ls).2.1 - sl) := by
  have hi := setS_inv (P := fun x => keyOk x = true ∧ P x) (c := c) hs1 _ 0 sl a ls (Nat.le_refl _) hk hw
  have hr := fun key => setS_rank key (c := c) hs1 _ 0 sl a ls (Nat.le_refl _) h0 hM
  have hr0 := hr .empty
  have hwn := wtL_nonneg 0 ls
  simp only [settleK]
  obtain ⟨hi1, hi2, hi3⟩ := hi
  have htl := (trimK_len (setS size c 0 sl a ls).1).1
  refine ⟨okR_valid ⟨hs1, hs2, hs3, hwn, hw, by simp only; omega, by simp only; omega, by simp only; omega, fun l hl => ?_, ?_, ?_⟩, fun l hl x hx => ((hi1 l (trimK_mem hl)).2.2 x hx).2, hr0.2.2.2.1, by omega, hr0.1, fun key => ?_⟩
  · have q := hi1 l (trimK_mem hl)
    exact ⟨q.1, badL_zero l [] (fun x hx => (q.2.2 x hx).1) (by simpa using q.2.1)⟩
  · obtain ⟨n, _, e2⟩ := trimK_split (setS size c 0 sl a ls).1
    exact e2
  · simp only [trimK_wt, hi2]
  · have := (hr key).2.2.1
    rw [trimK_rank]; exact this
theorem cnt1 (key k : ByteArray) : (cntL key [k] : Int) = if Op.bytesLess key.toList k.toList = true then 0 else 1 := by
  cases h : Op.bytesLess key.toList k.toList with
  | true => rw [cntL_no h, cntL_nil]; rfl
  | false => rw [cntL_yes h, cntL_nil]; rfl
theorem insR_ok {P : ByteArray → Prop} {r : Rk} {k : ByteArray} {w a : Int} {c : List Int} (hv : validR r = 0) (hi : itemE k w = 0) (hp : placeOk a = true) (ht : r.total + w ≤ 1099511627776) (hk : ∀ l ∈ r.levels, ∀ x ∈ l, P x) (hkk : P k) :
    (insR r k w c a).2.2 = 0 ∧ validR (insR r k w c a).1 = 0 ∧ (insR r k w c a).1.size = r.size ∧ (insR r k w c a).1.total = r.total + w ∧ (insR r k w c a).1.sat = r.sat ∧ (∀ l ∈ (insR r k w c a).1.levels, ∀ x ∈ l, P x) ∧
    a ≤ (insR r k w c a).2.1 ∧ (insR r k w c a).2.1 ≤ a + 41 ∧ r.slack ≤ (insR r k w c a).1.slack ∧ (insR r k w c a).1.slack ≤ 1099511627776 ∧
    ∀ key,(insR r k w c a).1.slack = 1099511627776 ∨ (rankL key 0 (insR r k w c a).1.levels - (rankL key 0 r.levels + (cntL key [k] : Int) * w) ≤ (insR r k w c a).1.slack - r.slack ∧ rankL key 0 r.levels + (cntL key [k] : Int) * w - rankL key 0 (insR r k w c a).1.levels ≤ (insR r k w c a).1.slack - r.slack) := by
  rcases insR_cases r k w c a with ⟨h, _⟩ | ⟨_, h, _⟩ | ⟨_, _, h, _⟩ | ⟨_, _, _, h, _⟩ | ⟨h1, h2, _, h4, e⟩
  · exact absurd hv h
  · exact absurd hi h
  · rw [hp] at h; cases h
  · omega
  · rw [e]
    have ok := validR_ok h1
    have hi := itemE_okR h2
    have hW : w.toNat < 2 ^ 33 := by omega
    have hps := powS_lt 33 w.toNat 0 hW
    have hw : wtL 0 (putK k (powS w.toNat 0) r.levels) = r.total + w := by
      rw [wtL_putK k 33 w.toNat 0 r.levels hW, ok.wt]; simp; omega
    have hln := putK_len (k := k) (powS w.toNat 0) r.levels (fun p hp => by have := hps p hp; omega) ok.len
    have hs := settle_ok (P := P) (c := c) (a := a) ok.s1 ok.s2 ok.s3 ok.l1 ok.l2 hln (putK_mem (P := fun x => keyOk x = true ∧ P x) ⟨hi.2.2, hkk⟩ _ (fun l hl x hx => ⟨badL_ok l [] (ok.lev l hl).2 x hx, hk l hl x hx⟩)) (by omega) r.sat
    rw [hw] at hs
    obtain ⟨s1, s2, s3, s4, s5, s6⟩ := hs
    refine ⟨rfl, s1, rfl, rfl, rfl, s2, s3, s4, s5, (validR_ok s1).l2, fun key => ?_⟩
    have hrk := rankL_putK key k 33 w.toNat 0 r.levels hW
    rw [show ((w.toNat : Nat) : Int) * 2 ^ 0 = w by simp; omega] at hrk
    have := s6 key
    rw [hrk] at this
    exact this
theorem GdR.insert {size T tot w a : Int} {key k : ByteArray} {r : Rk} {c : List Int} (h : GdR size key T tot r) (hi : itemE k w = 0) (hp : placeOk a = true) (ht : tot + w ≤ 1099511627776) :
    (insR r k w c a).2.2 = 0 ∧ GdR size key (T + if Op.bytesLess key.toList k.toList = true then 0 else w) (tot + w) (insR r k w c a).1 ∧ a ≤ (insR r k w c a).2.1 ∧ (insR r k w c a).2.1 ≤ a + 41 := by
  obtain ⟨i1, i2, i3, i4, i5, _, i7, i8, i9, i10, i11⟩ := insR_ok (P := fun _ => True) (c := c) h.v hi hp (by have := h.tt; omega) (fun _ _ _ _ => trivial) trivial
  have hw := (itemE_okR hi).1
  have ok := validR_ok i2
  have hr := rankL_rng key 0 (insR r k w c a).1.levels
  rw [ok.wt] at hr
  have hc : (cntL key [k] : Int) * w = if Op.bytesLess key.toList k.toList = true then 0 else w := by
    rw [cnt1]; split <;> simp
  have i12 := i11 key
  rw [hc] at i12
  have h0 : 0 ≤ (if Op.bytesLess key.toList k.toList = true then 0 else w) ∧ (if Op.bytesLess key.toList k.toList = true then 0 else w) ≤ w := by split <;> omega
  generalize (if Op.bytesLess key.toList k.toList = true then 0 else w) = d at *
  obtain ⟨v, sat, sz, tt, lo, hi', t0, t1⟩ := h
  have ht2 := ok.t2
  refine ⟨i1, ⟨i2, by rw [i5, sat], by rw [i3, sz], by rw [i4, tt], ?_, ?_, by omega, by omega⟩, i7, i8⟩
  · rcases i12 with e | ⟨e1, e2⟩ <;> omega
  · rcases i12 with e | ⟨e1, e2⟩ <;> omega
theorem mrgR_cases (r s : Rk) (c : List Int) (a : Int) :
    (validR r ≠ 0 ∧ mrgR r s c a = (zeroR, 0, validR r)) ∨ (validR r = 0 ∧ validR s ≠ 0 ∧ mrgR r s c a = (zeroR, 0, validR s)) ∨ (validR r = 0 ∧ validR s = 0 ∧ r.size ≠ s.size ∧ mrgR r s c a = (zeroR, 0, 10)) ∨
    (validR r = 0 ∧ validR s = 0 ∧ r.size = s.size ∧ placeOk a = false ∧ mrgR r s c a = (zeroR, 0, 5)) ∨
    (validR r = 0 ∧ validR s = 0 ∧ r.size = s.size ∧ placeOk a = true ∧ 1099511627776 < r.total + s.total ∧ mrgR r s c a = (⟨r.size, r.total, r.slack, r.levels, true⟩, a, 0)) ∨
    (validR r = 0 ∧ validR s = 0 ∧ r.size = s.size ∧ placeOk a = true ∧ ¬ 1099511627776 < r.total + s.total ∧ mrgR r s c a = (⟨r.size,r.total + s.total,(settleK r.size c (sumT r.slack s.slack).1 a (zipL r.levels s.levels)).2.1,(settleK r.size c (sumT r.slack s.slack).1 a (zipL r.levels s.levels)).1,r.sat || s.sat⟩,(settleK r.size c (sumT r.slack s.slack).1 a (zipL r.levels s.levels)).2.2,0)) := by
  unfold mrgR
  by_cases h1 : validR r = 0
  · rw [if_neg (by simp [h1])]
    by_cases h2 : validR s = 0
    · rw [if_neg (by simp [h2])]
      by_cases h3 : r.size = s.size
      · rw [if_neg (by simp [h3])]
        by_cases h4 : placeOk a = false
        · exact .inr (.inr (.inr (.inl ⟨h1, h2, h3, h4, if_pos h4⟩)))
        · rw [if_neg h4]
          have h4' : placeOk a = true := by simpa using h4
          by_cases h5 : 1099511627776 < r.total + s.total
          · exact .inr (.inr (.inr (.inr (.inl ⟨h1, h2, h3, h4', h5, if_pos h5⟩))))
          · exact .inr (.inr (.inr (.inr (.inr ⟨h1, h2, h3, h4', h5, if_neg h5⟩))))
      · rw [if_pos h3]; exact .inr (.inr (.inl ⟨h1, h2, h3, rfl⟩))
    · rw [if_pos h2]; exact .inr (.inl ⟨h1, h2, rfl⟩)
  · rw [if_pos h1]; exact .inl ⟨h1, rfl⟩
theorem zipL_mem {P : List ByteArray → Prop} (hP : ∀ x y, P x → P y → P (x ++ y)) : ∀ {a b : List (List ByteArray)}, (∀ l ∈ a, P l) → (∀ l ∈ b, P l) → ∀ l ∈ zipL a b, P l
  | [], b, _, hb => by simpa [zipL] using hb
  | x :: a, [], ha, _ => by simpa [zipL] using ha
  | x :: a, y :: b, ha, hb => by
    intro l hl
    rcases List.mem_cons.1 hl with rfl | hl
    · exact hP x y (ha x (List.mem_cons_self ..)) (hb y (List.mem_cons_self ..))
    · exact zipL_mem hP (fun z hz => ha z (List.mem_cons_of_mem _ hz)) (fun z hz => hb z (List.mem_cons_of_mem _ hz)) l hl
theorem mrgR_ok {P : ByteArray → Prop} {r s : Rk} {a : Int} {c : List Int} (hv : validR r = 0) (hv' : validR s = 0) (hs : r.size = s.size) (hp : placeOk a = true) (ht : r.total + s.total ≤ 1099511627776) (hk : ∀ l ∈ r.levels, ∀ x ∈ l, P x) (hk' : ∀ l ∈ s.levels, ∀ x ∈ l, P x) :
    (mrgR r s c a).2.2 = 0 ∧ validR (mrgR r s c a).1 = 0 ∧ (mrgR r s c a).1.size = r.size ∧ (mrgR r s c a).1.total = r.total + s.total ∧ (mrgR r s c a).1.sat = (r.sat || s.sat) ∧ (∀ l ∈ (mrgR r s c a).1.levels, ∀ x ∈ l, P x) ∧
    (sumT r.slack s.slack).1 ≤ (mrgR r s c a).1.slack ∧ (mrgR r s c a).1.slack ≤ 1099511627776 ∧
    ∀ key,(mrgR r s c a).1.slack = 1099511627776 ∨ (rankL key 0 (mrgR r s c a).1.levels - (rankL key 0 r.levels + rankL key 0 s.levels) ≤ (mrgR r s c a).1.slack - (sumT r.slack s.slack).1 ∧ rankL key 0 r.levels + rankL key 0 s.levels - rankL key 0 (mrgR r s c a).1.levels ≤ (mrgR r s c a).1.slack - (sumT r.slack s.slack).1) := by
  rcases mrgR_cases r s c a with ⟨h, _⟩ | ⟨_, h, _⟩ | ⟨_, _, h, _⟩ | ⟨_, _, _, h, _⟩ | ⟨_, _, _, _, h, _⟩ | ⟨h1, h2, h3, h4, h5, e⟩
  · exact absurd hv h
  · exact absurd hv' h
  · exact absurd hs h
  · rw [hp] at h; cases h
  · omega
  · rw [e]
    have ok := validR_ok h1
    have ok' := validR_ok h2
    have hw : wtL 0 (zipL r.levels s.levels) = r.total + s.total := by rw [wtL_zip, ok.wt, ok'.wt]
    have hst := settle_ok (P := P) (c := c) (a := a) (sl := (sumT r.slack s.slack).1) (ls := zipL r.levels s.levels) ok.s1 ok.s2 ok.s3 (sumT_range _ _).1 (sumT_range _ _).2 (by rw [zipL_len]; have := ok.len; have := ok'.len; omega)
      (zipL_mem (P := fun l => ∀ x ∈ l, keyOk x = true ∧ P x) (fun x y hx hy z hz => (List.mem_append.1 hz).elim (hx z) (hy z)) (fun l hl x hx => ⟨badL_ok l [] (ok.lev l hl).2 x hx, hk l hl x hx⟩) (fun l hl x hx => ⟨badL_ok l [] (ok'.lev l hl).2 x hx, hk' l hl x hx⟩)) (by omega) (r.sat || s.sat)
    rw [hw] at hst
    obtain ⟨s1, s2, s3, s4, s5, s6⟩ := hst
    refine ⟨rfl, s1, rfl, rfl, rfl, s2, s5, (validR_ok s1).l2, fun key => ?_⟩
    have := s6 key
    rw [rankL_zip] at this
    exact this
theorem GdR.merge {size T tot T' tot' a : Int} {key : ByteArray} {r s : Rk} {c : List Int} (h : GdR size key T tot r) (h' : GdR size key T' tot' s) (hp : placeOk a = true) (ht : tot + tot' ≤ 1099511627776) :
    (mrgR r s c a).2.2 = 0 ∧ GdR size key (T + T') (tot + tot') (mrgR r s c a).1 := by
  obtain ⟨i1, i2, i3, i4, i5, _, i9, i10, i11⟩ := mrgR_ok (P := fun _ => True) (c := c) h.v h'.v (by rw [h.sz, h'.sz]) hp (by have := h.tt; have := h'.tt; omega) (fun _ _ _ _ => trivial) (fun _ _ _ _ => trivial)
  have ok := validR_ok i2
  have hr := rankL_rng key 0 (mrgR r s c a).1.levels
  rw [ok.wt] at hr
  have i12 := i11 key
  have o1 := validR_ok h.v
  have o2 := validR_ok h'.v
  have hsv := sumT_val o1.l1 o1.l2 o2.l1
  obtain ⟨v, sat, sz, tt, lo, hi', t0, t1⟩ := h
  obtain ⟨v', sat', sz', tt', lo', hi'', t0', t1'⟩ := h'
  have ht2 := ok.t2
  refine ⟨i1, ⟨i2, by rw [i5, sat, sat']; rfl, by rw [i3, sz], by rw [i4, tt, tt'], ?_, ?_, by omega, by omega⟩⟩
  · rcases i12 with e | ⟨e1, e2⟩ <;> omega
  · rcases i12 with e | ⟨e1, e2⟩ <;> omega
theorem GdR.new {size : Int} (key : ByteArray) (h : evenOk size = true) : GdR size key 0 0 ⟨size, 0, 0, [], false⟩ := by
  simp only [evenOk, Bool.and_eq_true, decide_eq_true_eq] at h
  exact ⟨okR_valid ⟨by simp only; omega, by simp only; omega, by simp only; omega, by simp, by simp, by simp, by simp, by simp, by simp, by simp, rfl⟩, rfl, rfl, rfl, by simp [rankL], by simp [rankL], by omega, by omega⟩
end Go.Proofs.Ytnckgbmifigadaa
