/- Ranks: the settling of levels: what it computes, and what weighs (plain). -/
import Derived.Test.YtnckgbmifigadaaZRkP
set_option linter.unusedSimpArgs false
set_option linter.unusedVariables false
namespace Go.Proofs.Ytnckgbmifigadaa
open Go.RowKit Go.Avm
/-- The coin at a place. -/
def bitR (c : List Int) (i : Int) : Int := if i < 0 then 0 else if (c.length : Int) ≤ i / 8 then 0 else (c.getD (i / 8).toNat 0) / 2 ^ (7 - (i % 8).toNat) % 2
theorem bitR_rng (c : List Int) (i : Int) : 0 ≤ bitR c i ∧ bitR c i ≤ 1 := by
  unfold bitR
  split
  · omega
  · split <;> omega
/-- Every second key from place k on. -/
def evK (l : List ByteArray) (k : Nat) : List ByteArray := if h : k < l.length then l[k] :: evK l (k + 2) else []
termination_by l.length - k
theorem evK_lt {l : List ByteArray} {k : Nat} {x : ByteArray} (hx : l[k]? = some x) : evK l k = x :: evK l (k + 2) := by
  obtain ⟨h, e⟩ := List.getElem?_eq_some_iff.1 hx
  rw [evK, dif_pos h, e]
theorem evK_ge {l : List ByteArray} {k : Nat} (h : l.length ≤ k) : evK l k = [] := by rw [evK, dif_neg (by omega)]
theorem evK_len (l : List ByteArray) : ∀ n k, l.length - k ≤ n → (evK l k).length = (l.length - k + 1) / 2 := by
  intro n
  induction n with
  | zero => intro k h; rw [evK_ge (by omega)]; simp; omega
  | succ n ih =>
    intro k h
    by_cases hk : k < l.length
    · rw [evK, dif_pos hk, List.length_cons, ih (k + 2) (by omega)]; omega
    · rw [evK_ge (by omega)]; simp; omega
theorem evK_mem (l : List ByteArray) : ∀ n k, l.length - k ≤ n → ∀ x ∈ evK l k, x ∈ l := by
  intro n
  induction n with
  | zero => intro k h x hx; rw [evK_ge (by omega)] at hx; cases hx
  | succ n ih =>
    intro k h x hx
    by_cases hk : k < l.length
    · rw [evK, dif_pos hk] at hx
      rcases List.mem_cons.1 hx with e | hx
      · rw [e]; exact List.getElem_mem hk
      · exact ih (k + 2) (by omega) x hx
    · rw [evK_ge (by omega)] at hx; cases hx
/-- The keys that make pairs, and the one that stays. -/
def lowK (l : List ByteArray) : List ByteArray := l.take (l.length / 2 * 2)
def stayK (l : List ByteArray) : List ByteArray := l.drop (l.length / 2 * 2)
theorem lowK_len (l : List ByteArray) : (lowK l).length = l.length / 2 * 2 := by rw [lowK, List.length_take]; omega
theorem stayK_len (l : List ByteArray) : (stayK l).length = l.length % 2 := by rw [stayK, List.length_drop]; omega
theorem upK_len (l : List ByteArray) {b : Nat} (hb : b ≤ 1) : (evK (lowK l) b).length = l.length / 2 := by
  rw [evK_len _ _ b (Nat.le_refl _), lowK_len]; omega
/-- A list of keys put on the first level. -/
def addH (u : List ByteArray) : List (List ByteArray) → List (List ByteArray)
  | [] => [u]
  | l :: ls => (l ++ u) :: ls
def keysN : List (List ByteArray) → Nat
  | [] => 0
  | l :: ls => l.length + 1 + keysN ls
theorem keysN_addH (u : List ByteArray) (ls : List (List ByteArray)) : keysN (addH u ls) ≤ u.length + 1 + keysN ls := by
  cases ls <;> simp [addH, keysN] <;> omega
theorem sortK_perm (l : List ByteArray) : (sortK l).Perm l := by
  have h := (List.mergeSort_perm (l.map ofB) (fun x y => decide (x ≤ y))).map toB
  have e : (l.map ofB).map toB = l := by
    rw [List.map_map]
    have : toB ∘ ofB = id := funext fun s => toB_ofB s
    rw [this, List.map_id]
  rw [e] at h
  exact h
theorem upK_lt (l : List ByteArray) (b : Nat) (h : 2 ≤ l.length) (hb : b ≤ 1) : (evK (lowK (sortK l)) b).length < l.length := by
  rw [upK_len _ hb, sortK_len]; omega
theorem bitN (c : List Int) (i : Int) : (bitR c i).toNat ≤ 1 := by have := bitR_rng c i; omega
/-- Levels settled from the lowest one on. -/
def setS (size : Int) (c : List Int) (i : Nat) (sl a : Int) : List (List ByteArray) → List (List ByteArray) × Int × Int
  | [] => ([], sl, a)
  | l :: ls =>
    if h : (l.length : Int) < size ∨ l.length < 2 then (sortK l :: (setS size c (i + 1) sl a ls).1, (setS size c (i + 1) sl a ls).2)
    else (stayK (sortK l) :: (setS size c (i + 1) (sumT sl (2 ^ i)).1 (a + 1) (addH (evK (lowK (sortK l)) (bitR c a).toNat) ls)).1, (setS size c (i + 1) (sumT sl (2 ^ i)).1 (a + 1) (addH (evK (lowK (sortK l)) (bitR c a).toNat) ls)).2)
termination_by ls => keysN ls
decreasing_by all_goals first
  | (simp only [keysN]; omega)
  | (have h1 := keysN_addH (evK (lowK (sortK l)) (bitR c a).toNat) ls
     have h2 := upK_lt l (bitR c a).toNat (by omega) (bitN c a)
     simp only [keysN]; omega)
section
variable {size sl a : Int} {c : List Int} {i : Nat} {l : List ByteArray} {ls : List (List ByteArray)}
theorem setS_nil : setS size c i sl a [] = ([], sl, a) := by rw [setS]
theorem setS_keep (h : (l.length : Int) < size) : setS size c i sl a (l :: ls) = (sortK l :: (setS size c (i + 1) sl a ls).1, (setS size c (i + 1) sl a ls).2) := by rw [setS, dif_pos (.inl h)]
theorem setS_full (h : size ≤ (l.length : Int)) (h2 : 2 ≤ size) : setS size c i sl a (l :: ls) = (stayK (sortK l) :: (setS size c (i + 1) (sumT sl (2 ^ i)).1 (a + 1) (addH (evK (lowK (sortK l)) (bitR c a).toNat) ls)).1,(setS size c (i + 1) (sumT sl (2 ^ i)).1 (a + 1) (addH (evK (lowK (sortK l)) (bitR c a).toNat) ls)).2) := by
  rw [setS, dif_neg (by omega)]
end
/-- The levels without the empty ones at their end. -/
def trimK (ls : List (List ByteArray)) : List (List ByteArray) := (ls.reverse.dropWhile List.isEmpty).reverse
theorem trimK_nil : trimK [] = [] := rfl
theorem trimK_e (ls : List (List ByteArray)) : trimK (ls ++ [[]]) = trimK ls := by simp [trimK]
theorem trimK_c (ls : List (List ByteArray)) {l : List ByteArray} (h : l ≠ []) : trimK (ls ++ [l]) = ls ++ [l] := by
  cases l with
  | nil => exact absurd rfl h
  | cons x l => simp [trimK]
theorem takeLast {α : Type} {l : List α} {k : Nat} {x : α} (h0 : 0 < k) (hx : l[k - 1]? = some x) : l.take k = l.take (k - 1) ++ [x] := by
  conv => lhs; rw [show k = k - 1 + 1 by omega]
  rw [List.take_add_one, hx]; rfl
def settleK (size : Int) (c : List Int) (sl a : Int) (ls : List (List ByteArray)) : List (List ByteArray) × Int × Int := (trimK (setS size c 0 sl a ls).1, (setS size c 0 sl a ls).2)
/-- What the keys of levels weigh. -/
def wtL : Nat → List (List ByteArray) → Int
  | _, [] => 0
  | i, l :: ls => (l.length : Int) * 2 ^ i + wtL (i + 1) ls
theorem two_pos (i : Nat) : (1 : Int) ≤ 2 ^ i := by exact_mod_cast Nat.one_le_two_pow
theorem wtL_nonneg : ∀ (i : Nat) (ls : List (List ByteArray)), 0 ≤ wtL i ls
  | _, [] => Int.le_refl _
  | i, l :: ls => by
    have h1 := wtL_nonneg (i + 1) ls
    have h2 := two_pos i
    have h3 : 0 ≤ (l.length : Int) * 2 ^ i := Int.mul_nonneg (by omega) (by omega)
    simp only [wtL]; omega
theorem wtL_addH (u : List ByteArray) (i : Nat) (ls : List (List ByteArray)) : wtL i (addH u ls) = (u.length : Int) * 2 ^ i + wtL i ls := by
  cases ls with
  | nil => simp [addH, wtL]
  | cons l ls =>
    simp only [addH, wtL, List.length_append]
    rw [Int.natCast_add, Int.add_mul]; omega
/-- A full level's keys weigh as much as what comes of them. -/
theorem wt_full (l : List ByteArray) (i : Nat) {b : Nat} (hb : b ≤ 1) (ls : List (List ByteArray)) : wtL (i + 1) (addH (evK (lowK (sortK l)) b) ls) + ((stayK (sortK l)).length : Int) * 2 ^ i = wtL i (l :: ls) := by
  rw [wtL_addH, upK_len _ hb, stayK_len, sortK_len, wtL]
  have e : (2 : Int) ^ (i + 1) = 2 * 2 ^ i := by rw [Int.pow_succ]; omega
  rw [e]
  have e2 : (l.length : Int) = 2 * ((l.length / 2 : Nat) : Int) + ((l.length % 2 : Nat) : Int) := by omega
  have e3 : (l.length : Int) * 2 ^ i = ((l.length / 2 : Nat) : Int) * (2 * 2 ^ i) + ((l.length % 2 : Nat) : Int) * 2 ^ i := by
    conv => lhs; rw [e2]
    rw [Int.add_mul, Int.mul_comm 2 ((l.length / 2 : Nat) : Int), Int.mul_assoc]
  rw [e3]; omega
/-- A level of two keys or more lies below level 40. -/
theorem wt_two {l : List ByteArray} {i : Nat} {ls : List (List ByteArray)} (h : wtL i (l :: ls) ≤ 1099511627776) (h2 : 2 ≤ l.length) : i ≤ 39 := by
  have h1 := wtL_nonneg (i + 1) ls
  simp only [wtL] at h
  have h3 := two_pos i
  have h4 : (2 : Int) * 2 ^ i ≤ (l.length : Int) * 2 ^ i := Int.mul_le_mul_of_nonneg_right (by omega) (by omega)
  by_cases hi : i ≤ 39
  · exact hi
  · have h5 : (2 : Int) ^ 40 ≤ 2 ^ i := by exact_mod_cast Nat.pow_le_pow_right (by decide) (show 40 ≤ i by omega)
    omega
/-- Levels, with empty ones at their end, to at least n. -/
def padL (ls : List (List ByteArray)) (n : Nat) : List (List ByteArray) := ls ++ List.replicate (n - ls.length) []
def addL (ls : List (List ByteArray)) (n : Nat) (u : List ByteArray) : List (List ByteArray) := (padL ls (n + 1)).set n ((padL ls (n + 1)).getD n [] ++ u)
theorem padL_len (ls : List (List ByteArray)) (n : Nat) : (padL ls n).length = max ls.length n := by simp [padL]; omega
theorem padL_le {ls : List (List ByteArray)} {n : Nat} (h : n ≤ ls.length) : padL ls n = ls := by simp [padL, show n - ls.length = 0 by omega]
theorem padL_snoc {ls : List (List ByteArray)} {n : Nat} (h : ls.length ≤ n) : padL ls n ++ [[]] = padL ls (n + 1) := by
  rw [padL, padL, show n + 1 - ls.length = n - ls.length + 1 by omega, List.replicate_succ', List.append_assoc]
theorem addL_len (ls : List (List ByteArray)) (n : Nat) (u : List ByteArray) : (addL ls n u).length = max ls.length (n + 1) := by rw [addL, List.length_set, padL_len]
theorem addL_at {ls : List (List ByteArray)} {n : Nat} {l u : List ByteArray} (h : (padL ls (n + 1))[n]? = some l) : addL ls n u = (padL ls (n + 1)).set n (l ++ u) := by
  rw [addL, List.getD_eq_getElem?_getD, h]; rfl
theorem addL_app (d : List (List ByteArray)) (s u : List ByteArray) (ls : List (List ByteArray)) : addL (d ++ s :: ls) (d.length + 1) u = d ++ s :: addH u ls := by
  cases ls with
  | nil =>
    have e : padL (d ++ [s]) (d.length + 1 + 1) = d ++ [s, []] := by simp [padL, show d.length + 1 + 1 - (d.length + (0 + 1)) = 1 by omega]
    rw [addL_at (l := []) (by rw [e, List.getElem?_append_right (by omega)]; simp), e]
    simp [addH, List.set_append_right _ _ (show d.length ≤ d.length + 1 by omega)]
  | cons l ls =>
    have hle : d.length + 1 + 1 ≤ (d ++ s :: l :: ls).length := by simp only [List.length_append, List.length_cons]; omega
    rw [addL_at (l := l) (by rw [padL_le hle, List.getElem?_append_right (by omega)]; simp), padL_le hle, List.set_append_right _ _ (by omega)]
    simp [addH]
theorem wtL_app : ∀ (i : Nat) (a b : List (List ByteArray)), wtL i (a ++ b) = wtL i a + wtL (i + a.length) b
  | i, [], b => by simp [wtL]
  | i, l :: a, b => by
    simp only [List.cons_append, wtL, List.length_cons]
    rw [wtL_app (i + 1) a b, show i + 1 + a.length = i + (a.length + 1) by omega]; omega
theorem wtL_rep : ∀ (n i : Nat), wtL i (List.replicate n []) = 0
  | 0, _ => rfl
  | n + 1, i => by rw [List.replicate_succ, wtL, wtL_rep n]; simp
theorem wtL_pad (i : Nat) (ls : List (List ByteArray)) (n : Nat) : wtL i (padL ls n) = wtL i ls := by rw [padL, wtL_app, wtL_rep]; omega
theorem wtL_set : ∀ (i n : Nat) (ls : List (List ByteArray)) (l u : List ByteArray), ls[n]? = some l → wtL i (ls.set n (l ++ u)) = wtL i ls + (u.length : Int) * 2 ^ (i + n)
  | i, n, [], l, u, h => by simp at h
  | i, 0, x :: ls, l, u, h => by
    simp only [List.getElem?_cons_zero, Option.some.injEq] at h
    subst h
    simp only [List.set_cons_zero, wtL, List.length_append, Nat.add_zero]
    rw [Int.natCast_add, Int.add_mul]; omega
  | i, n + 1, x :: ls, l, u, h => by
    simp only [List.set_cons_succ, wtL]
    rw [wtL_set (i + 1) n ls l u (by simpa using h), show i + 1 + n = i + (n + 1) by omega]; omega
theorem wtL_addL (ls : List (List ByteArray)) (n : Nat) (u : List ByteArray) : wtL 0 (addL ls n u) = wtL 0 ls + (u.length : Int) * 2 ^ n := by
  obtain ⟨l, hl⟩ := get_lt (show n < (padL ls (n + 1)).length by rw [padL_len]; omega)
  rw [addL_at hl, wtL_set 0 n _ l u hl, wtL_pad, Nat.zero_add]
/-- The exponents of the powers of two that make a number. -/
def powS (n i : Nat) : List Nat := if h : n = 0 then [] else if n % 2 = 1 then i :: powS (n / 2) (i + 1) else powS (n / 2) (i + 1)
termination_by n
decreasing_by all_goals omega
theorem powS_zero (i : Nat) : powS 0 i = [] := by rw [powS, dif_pos rfl]
theorem powS_odd {n : Nat} (i : Nat) (h : n % 2 = 1) : powS n i = i :: powS (n / 2) (i + 1) := by rw [powS, dif_neg (by omega), if_pos h]
theorem powS_even {n : Nat} (i : Nat) (h0 : n ≠ 0) (h : n % 2 = 0) : powS n i = powS (n / 2) (i + 1) := by rw [powS, dif_neg h0, if_neg (by omega)]
theorem powS_lt : ∀ (m n i : Nat), n < 2 ^ m → ∀ x ∈ powS n i, i ≤ x ∧ x < i + m
  | 0, n, i, h, x, hx => by rw [show n = 0 by simpa using h, powS_zero] at hx; cases hx
  | m + 1, n, i, h, x, hx => by
    have ih := powS_lt m (n / 2) (i + 1) (by rw [Nat.pow_succ] at h; omega)
    by_cases h0 : n = 0
    · subst h0; rw [powS_zero] at hx; cases hx
    · rcases Nat.mod_two_eq_zero_or_one n with h2 | h2
      · rw [powS_even i h0 h2] at hx; have := ih x hx; omega
      · rw [powS_odd i h2] at hx
        rcases List.mem_cons.1 hx with e | hx
        · omega
        · have := ih x hx; omega
/-- A key of a weight put on the levels. -/
def putK (k : ByteArray) (ps : List Nat) (ls : List (List ByteArray)) : List (List ByteArray) := ps.foldl (fun ls i => addL ls i [k]) ls
theorem putK_nil (k : ByteArray) (ls : List (List ByteArray)) : putK k [] ls = ls := rfl
theorem putK_cons (k : ByteArray) (p : Nat) (ps : List Nat) (ls : List (List ByteArray)) : putK k (p :: ps) ls = putK k ps (addL ls p [k]) := rfl
theorem putK_snoc (k : ByteArray) (p : Nat) (ps : List Nat) (ls : List (List ByteArray)) : putK k (ps ++ [p]) ls = addL (putK k ps ls) p [k] := by rw [putK, List.foldl_append]; rfl
theorem wtL_putK (k : ByteArray) : ∀ (m n i : Nat) (ls : List (List ByteArray)), n < 2 ^ m → wtL 0 (putK k (powS n i) ls) = wtL 0 ls + (n : Int) * 2 ^ i
  | 0, n, i, ls, h => by rw [show n = 0 by simpa using h, powS_zero, putK_nil]; simp
  | m + 1, n, i, ls, h => by
    have ih := fun ls => wtL_putK k m (n / 2) (i + 1) ls (by rw [Nat.pow_succ] at h; omega)
    have e : (2 : Int) ^ (i + 1) = 2 * 2 ^ i := by rw [Int.pow_succ]; omega
    by_cases h0 : n = 0
    · subst h0; rw [powS_zero, putK_nil]; simp
    · have e3 : (n : Int) * 2 ^ i = ((n / 2 : Nat) : Int) * (2 * 2 ^ i) + ((n % 2 : Nat) : Int) * 2 ^ i := by
        have e2 : (n : Int) = 2 * ((n / 2 : Nat) : Int) + ((n % 2 : Nat) : Int) := by omega
        conv => lhs; rw [e2]
        rw [Int.add_mul, Int.mul_comm 2 ((n / 2 : Nat) : Int), Int.mul_assoc]
      rcases Nat.mod_two_eq_zero_or_one n with h2 | h2
      · rw [powS_even i h0 h2, ih, e, e3, h2]; simp
      · rw [powS_odd i h2, putK_cons, ih, wtL_addL, e, e3, h2]; simp; omega
/-- The levels of two summaries put together. -/
def zipL : List (List ByteArray) → List (List ByteArray) → List (List ByteArray)
  | [], b => b
  | a, [] => a
  | x :: a, y :: b => (x ++ y) :: zipL a b
theorem zipL_nil (a : List (List ByteArray)) : zipL a [] = a := by cases a <;> rfl
theorem zipL_len : ∀ a b : List (List ByteArray), (zipL a b).length = max a.length b.length
  | [], b => by simp [zipL]
  | x :: a, [] => by simp [zipL]
  | x :: a, y :: b => by simp only [zipL, List.length_cons, zipL_len a b]; omega
theorem addH_as (ls : List (List ByteArray)) (u : List ByteArray) : addL ls 0 u = addH u ls := by
  cases ls with
  | nil => rfl
  | cons l ls => rw [addL_at (l := l) (by rw [padL_le (by simp)]; rfl), padL_le (by simp)]; rfl
theorem addL_cons (l : List ByteArray) (ls : List (List ByteArray)) (n : Nat) (u : List ByteArray) : addL (l :: ls) (n + 1) u = l :: addL ls n u := by
  obtain ⟨x, hx⟩ := get_lt (show n < (padL ls (n + 1)).length by rw [padL_len]; omega)
  have e : padL (l :: ls) (n + 1 + 1) = l :: padL ls (n + 1) := by simp [padL]
  rw [addL_at hx, addL_at (l := x) (by rw [e]; exact hx), e, List.set_cons_succ]
theorem zipL_snoc : ∀ (a b : List (List ByteArray)) (y : List ByteArray), addL (zipL a b) b.length y = zipL a (b ++ [y])
  | [], [], y => rfl
  | [], x :: b, y => by
    have := zipL_snoc [] b y
    simp only [zipL] at this ⊢
    rw [List.length_cons, addL_cons, this]; rfl
  | x :: a, [], y => by simp only [zipL_nil, List.length_nil, addH_as, List.nil_append, zipL, addH]
  | x :: a, z :: b, y => by
    simp only [zipL, List.length_cons, List.cons_append]
    rw [addL_cons, zipL_snoc a b y]
theorem wtL_zip : ∀ (i : Nat) (a b : List (List ByteArray)), wtL i (zipL a b) = wtL i a + wtL i b
  | i, [], b => by simp [zipL, wtL]
  | i, x :: a, [] => by simp [zipL, wtL]
  | i, x :: a, y :: b => by
    simp only [zipL, wtL, List.length_append, wtL_zip (i + 1) a b]
    rw [Int.natCast_add, Int.add_mul]; omega
def placeOk (n : Int) : Bool := decide (0 ≤ n) && decide (n ≤ 1073741824)
def insR (r : Rk) (k : ByteArray) (w : Int) (c : List Int) (a : Int) : Rk × Int × Int :=
  if validR r ≠ 0 then (zeroR, 0, validR r) else if itemE k w ≠ 0 then (zeroR, 0, itemE k w) else if placeOk a = false then (zeroR, 0, 5) else
  if 1099511627776 < r.total + w then (⟨r.size, r.total, r.slack, r.levels, true⟩, a, 0) else
  (⟨r.size, r.total + w, (settleK r.size c r.slack a (putK k (powS w.toNat 0) r.levels)).2.1, (settleK r.size c r.slack a (putK k (powS w.toNat 0) r.levels)).1, r.sat⟩, (settleK r.size c r.slack a (putK k (powS w.toNat 0) r.levels)).2.2, 0)
def mrgR (r s : Rk) (c : List Int) (a : Int) : Rk × Int × Int :=
  if validR r ≠ 0 then (zeroR, 0, validR r) else if validR s ≠ 0 then (zeroR, 0, validR s) else if r.size ≠ s.size then (zeroR, 0, 10) else if placeOk a = false then (zeroR, 0, 5) else
  if 1099511627776 < r.total + s.total then (⟨r.size, r.total, r.slack, r.levels, true⟩, a, 0) else
  (⟨r.size, r.total + s.total, (settleK r.size c (sumT r.slack s.slack).1 a (zipL r.levels s.levels)).2.1, (settleK r.size c (sumT r.slack s.slack).1 a (zipL r.levels s.levels)).1, r.sat || s.sat⟩, (settleK r.size c (sumT r.slack s.slack).1 a (zipL r.levels s.levels)).2.2, 0)
/-- Valid levels: their bounds and their weight. -/
theorem badL_ok : ∀ (l pre : List ByteArray), badL pre l = 0 → (∀ x ∈ l, keyOk x = true)
  | [], _, _ => by simp
  | k :: l, pre, h => by
    unfold badL at h
    split at h
    · omega
    · rename_i h1
      split at h
      · omega
      · intro x hx
        rcases List.mem_cons.1 hx with rfl | hx
        · simpa using h1
        · exact badL_ok l _ h x hx
theorem badLs_ok {size : Int} : ∀ (i : Nat) (t : Int) (ls : List (List ByteArray)), (badLs size i t ls).1 = 0 → (badLs size i t ls).2 = t + wtL i ls ∧ ∀ l ∈ ls, (l.length : Int) < size ∧ badL [] l = 0
  | i, t, [], _ => by simp [badLs, wtL]
  | i, t, l :: ls, h => by
    rw [badLs] at h ⊢
    split at h
    · simp at h
    · rename_i h1
      rw [if_neg h1]
      split at h
      · rename_i h2; exact absurd h h2
      · rename_i h2
        rw [if_neg h2]
        obtain ⟨h3, h4⟩ := badLs_ok (i + 1) _ ls h
        refine ⟨by rw [h3, wtL]; omega, fun x hx => ?_⟩
        rcases List.mem_cons.1 hx with rfl | hx
        · exact ⟨by omega, by simpa using h2⟩
        · exact h4 x hx
structure OkR (r : Rk) : Prop where
  s1 : 2 ≤ r.size
  s2 : r.size ≤ 32
  s3 : r.size % 2 = 0
  t1 : 0 ≤ r.total
  t2 : r.total ≤ 1099511627776
  l1 : 0 ≤ r.slack
  l2 : r.slack ≤ 1099511627776
  len : r.levels.length ≤ 41
  lev : ∀ l ∈ r.levels, (l.length : Int) < r.size ∧ badL [] l = 0
  last : r.levels.getLast? ≠ some []
  wt : wtL 0 r.levels = r.total
theorem validR_ok {r : Rk} (h : validR r = 0) : OkR r := by
  unfold validR at h
  split at h
  · omega
  · rename_i h1
    simp only [not_or, Bool.not_eq_false] at h1
    obtain ⟨h1, h2, h3, h4, h5⟩ := h1
    simp only [evenOk, Bool.and_eq_true, decide_eq_true_eq] at h1
    split at h
    · omega
    · rename_i h6
      split at h
      · rename_i h7; exact absurd h h7
      · rename_i h7
        split at h
        · omega
        · rename_i h8
          split at h
          · omega
          · rename_i h9
            obtain ⟨h10, h11⟩ := badLs_ok 0 0 r.levels (by simpa using h7)
            exact ⟨by omega, by omega, by omega, by omega, by omega, by omega, by omega, by omega, h11, h8, by omega⟩
/-- The order of keys. -/
def leK (a b : ByteArray) : Prop := Op.bytesLess b.toList a.toList = false
theorem key_injR {a b : ByteArray} (h : a.toList = b.toList) : a = b := by
  rw [Go.ByteArray.toList_eq, Go.ByteArray.toList_eq] at h
  exact ByteArray.ext (Array.toList_inj.1 h)
theorem leK_anti {a b : ByteArray} (h : leK a b) (g : leK b a) : a = b := by
  rcases bl_total a.toList b.toList with e | e | e
  · rw [g] at e; cases e
  · exact key_injR e
  · rw [h] at e; cases e
theorem leK_trans {a b c : ByteArray} (h : leK a b) (g : leK b c) : leK a c := by
  unfold leK at *
  rw [Bool.eq_false_iff]
  intro e
  rcases bl_total b.toList c.toList with x | x | x
  · have := bl_trans x e; rw [h] at this; cases this
  · rw [← x] at e; rw [h] at e; cases e
  · rw [g] at x; cases x
theorem leK_refl (a : ByteArray) : leK a a := bl_irrefl _
theorem leK_of {a b : ByteArray} (h : Op.bytesLess a.toList b.toList = true) : leK a b := bl_asymm h
theorem sortK_sorted (l : List ByteArray) : (sortK l).Pairwise leK := by
  have h := List.pairwise_mergeSort (le := fun x y : List UInt8 => decide (x ≤ y)) (fun a b c h1 h2 => by simp only [decide_eq_true_eq] at *; exact List.le_trans h1 h2) (fun a b => by simp only [Bool.or_eq_true, decide_eq_true_eq]; exact List.le_total a b) (l.map ofB)
  rw [sortK, List.pairwise_map]
  refine h.imp (fun {a b} h => ?_)
  simp only [decide_eq_true_eq] at h
  rw [leK, Go.ByteArray.toList_eq, Go.ByteArray.toList_eq, Go.Proofs.bytesLess_eq]
  exact decide_eq_false (List.not_lt.2 h)
theorem sortK_uniq {l m : List ByteArray} (hp : m.Perm l) (hm : m.Pairwise leK) : m = sortK l :=
  List.Perm.eq_of_pairwise (le := leK) (fun a b _ _ h1 h2 => leK_anti h1 h2) hm (sortK_sorted l) (hp.trans (sortK_perm l).symm)
/-- An insertion sort. -/
def bubK (l : List ByteArray) : Nat → List ByteArray
  | 0 => l
  | j + 1 => if ((l[j + 1]?).any fun x => (l[j]?).any fun y => Op.bytesLess x.toList y.toList) = true then bubK ((l.set (j + 1) ((l[j]?).getD .empty)).set j ((l[j + 1]?).getD .empty)) j else l
def insK : List ByteArray → List ByteArray → List ByteArray
  | out, [] => out
  | out, x :: r => insK (bubK (out ++ [x]) out.length) r
theorem bubK_len : ∀ (j : Nat) (l : List ByteArray), (bubK l j).length = l.length
  | 0, l => rfl
  | j + 1, l => by
    unfold bubK
    split
    · rw [bubK_len]; simp
    · rfl
theorem bubK_yes {l : List ByteArray} {j : Nat} {x y : ByteArray} (hx : l[j + 1]? = some x) (hy : l[j]? = some y) (hb : Op.bytesLess x.toList y.toList = true) : bubK l (j + 1) = bubK ((l.set (j + 1) y).set j x) j := by
  rw [bubK, if_pos (by simp [hx, hy, hb])]
  simp [hx, hy]
theorem bubK_no {l : List ByteArray} {j : Nat} {x y : ByteArray} (hx : l[j + 1]? = some x) (hy : l[j]? = some y) (hb : Op.bytesLess x.toList y.toList = false) : bubK l (j + 1) = l := by
  rw [bubK, if_neg (by simp [hx, hy, hb])]
theorem setK_perm {l : List ByteArray} {j : Nat} {x y : ByteArray} (hx : l[j + 1]? = some x) (hy : l[j]? = some y) : ((l.set (j + 1) y).set j x).Perm l := by
  induction l generalizing j with
  | nil => simp at hx
  | cons a l ih =>
    cases j with
    | succ j => simpa using ih (j := j) (by simpa using hx) (by simpa using hy)
    | zero =>
      cases l with
      | nil => simp at hx
      | cons b l =>
        simp at hx hy
        subst hx hy
        exact List.Perm.swap _ _ _
theorem bubK_perm : ∀ (j : Nat) (l : List ByteArray), (bubK l j).Perm l
  | 0, l => List.Perm.refl _
  | j + 1, l => by
    cases hx : l[j + 1]? with
    | none => rw [bubK, if_neg (by simp [hx])]
    | some x =>
      cases hy : l[j]? with
      | none => rw [bubK, if_neg (by simp [hx, hy])]
      | some y =>
        cases hb : Op.bytesLess x.toList y.toList with
        | false => rw [bubK_no hx hy hb]
        | true => rw [bubK_yes hx hy hb]; exact (bubK_perm j _).trans (setK_perm hx hy)
theorem insK_perm : ∀ (r out : List ByteArray), (insK out r).Perm (out ++ r)
  | [], out => by simp [insK]
  | x :: r, out => by
    simp only [insK]
    refine (insK_perm r _).trans ?_
    have h := (bubK_perm out.length (out ++ [x])).append_right r
    simpa using h
theorem bubK_sorted : ∀ (n : Nat) (A B : List ByteArray) (x : ByteArray), A.length = n → (A ++ B).Pairwise leK → (∀ b ∈ B, leK x b) → (bubK (A ++ x :: B) n).Pairwise leK
  | 0, A, B, x, hA, hs, hB => by
    obtain rfl := List.eq_nil_of_length_eq_zero hA
    exact List.Pairwise.cons hB (by simpa using hs)
  | n + 1, A, B, x, hA, hs, hB => by
    rcases List.eq_nil_or_concat A with rfl | ⟨A', y, rfl⟩
    · simp at hA
    · rw [List.concat_eq_append] at hA hs ⊢
      have hn : A'.length = n := by simpa using hA
      have hx : (A' ++ [y] ++ x :: B)[n + 1]? = some x := by rw [List.getElem?_append_right (by simp; omega)]; simp [hn]
      have hy : (A' ++ [y] ++ x :: B)[n]? = some y := by rw [List.append_assoc, List.getElem?_append_right (by omega)]; simp [hn]
      cases hb : Op.bytesLess x.toList y.toList with
      | true =>
        have e : ((A' ++ [y] ++ x :: B).set (n + 1) y).set n x = A' ++ x :: (y :: B) := by
          subst hn
          simp [List.set_append]
        rw [bubK_yes hx hy hb, e]
        refine bubK_sorted n A' (y :: B) x hn (by simpa using hs) (fun b hb' => ?_)
        rcases List.mem_cons.1 hb' with rfl | hb'
        · exact leK_of hb
        · exact hB b hb'
      | false =>
        rw [bubK_no hx hy hb]
        have hyx : leK y x := hb
        rw [List.pairwise_append] at hs
        obtain ⟨h1, h2, h3⟩ := hs
        rw [List.pairwise_append]
        refine ⟨h1, List.Pairwise.cons hB h2, fun a ha b hb' => ?_⟩
        rw [List.pairwise_append] at h1
        have hax : leK a x := by
          rcases List.mem_append.1 ha with ha | ha
          · exact leK_trans (h1.2.2 a ha y (by simp)) hyx
          · simp at ha; subst ha; exact hyx
        rcases List.mem_cons.1 hb' with rfl | hb'
        · exact hax
        · exact h3 a ha b hb'
theorem insK_sorted : ∀ (r out : List ByteArray), out.Pairwise leK → (insK out r).Pairwise leK
  | [], out, h => by simpa [insK] using h
  | x :: r, out, h => by
    simp only [insK]
    exact insK_sorted r _ (bubK_sorted out.length out [] x rfl (by simpa using h) (by simp))
theorem insK_eq (l : List ByteArray) : insK [] l = sortK l := sortK_uniq (by simpa using insK_perm l []) (insK_sorted l [] List.Pairwise.nil)
/-- Something carried, which may be nothing. -/
def addC (u : List ByteArray) (ls : List (List ByteArray)) : List (List ByteArray) := if u = [] then ls else addH u ls
theorem addC_nil (ls : List (List ByteArray)) : addC [] ls = ls := if_pos rfl
theorem addC_cons (u l : List ByteArray) (ls : List (List ByteArray)) : addC u (l :: ls) = (l ++ u) :: ls := by
  unfold addC
  split
  · rename_i h; subst h; simp
  · rfl
theorem addC_end {u : List ByteArray} (h : u ≠ []) : addC u [] = [u] := if_neg h
theorem addC_ne {u : List ByteArray} (h : u ≠ []) (ls : List (List ByteArray)) : addC u ls = addH u ls := if_neg h
theorem upK_ne {l : List ByteArray} {b : Nat} (hb : b ≤ 1) (h : 2 ≤ l.length) : evK (lowK l) b ≠ [] := by
  intro e
  have := upK_len l hb
  rw [e] at this
  simp only [List.length_nil] at this
  omega
theorem lowK_get {l : List ByteArray} {k : Nat} {x : ByteArray} (h : k < l.length / 2 * 2) (hx : l[k]? = some x) : (lowK l)[k]? = some x := by rw [lowK, List.getElem?_take_of_lt h]; exact hx
/-- How the levels end. -/
theorem trim_cases (F : List (List ByteArray)) (m : Nat) (hm : m ≤ F.length) : (m = 0 ∧ trimK (F.take m) = F.take m) ∨ (0 < m ∧ F[m - 1]? = some [] ∧ trimK (F.take m) = trimK (F.take (m - 1))) ∨ (0 < m ∧ ∃ x q, F[m - 1]? = some (x :: q) ∧ trimK (F.take m) = F.take m) := by
  by_cases h : m = 0
  · subst h; exact .inl ⟨rfl, by simp [trimK_nil]⟩
  · obtain ⟨l, hl⟩ := get_lt (show m - 1 < F.length by omega)
    have e := takeLast (by omega) hl
    cases l with
    | nil => exact .inr (.inl ⟨by omega, hl, by rw [e, trimK_e]⟩)
    | cons x q => exact .inr (.inr ⟨by omega, x, q, hl, by rw [e, trimK_c _ (by simp)]⟩)
theorem wtL_tail (i : Nat) (l : List ByteArray) (ls : List (List ByteArray)) : wtL (i + 1) ls ≤ wtL i (l :: ls) := by
  have h2 := two_pos i
  have h3 : 0 ≤ (l.length : Int) * 2 ^ i := Int.mul_nonneg (by omega) (by omega)
  simp only [wtL]; omega
theorem len1 {α : Type} (l : List α) (x : α) : (l ++ [x]).length = l.length + 1 := by simp
/-- The state of the settling after a level that is kept, and after a full one. -/
theorem settle_keep {size s1 a1 fs fa : Int} {c : List Int} {out F ls : List (List ByteArray)} {L : List ByteArray} (hG : (out ++ (setS size c out.length s1 a1 (L :: ls)).1, (setS size c out.length s1 a1 (L :: ls)).2) = (F, fs, fa)) (h : (L.length : Int) < size) :
    (out ++ [sortK L] ++ (setS size c (out ++ [sortK L]).length s1 a1 (addC [] ls)).1, (setS size c (out ++ [sortK L]).length s1 a1 (addC [] ls)).2) = (F, fs, fa) := by
  rw [setS_keep h] at hG
  rw [len1, addC_nil, List.append_assoc]; exact hG
theorem settle_full {size s1 a1 fs fa : Int} {c : List Int} {out F ls : List (List ByteArray)} {L : List ByteArray} (hG : (out ++ (setS size c out.length s1 a1 (L :: ls)).1, (setS size c out.length s1 a1 (L :: ls)).2) = (F, fs, fa)) (h : size ≤ (L.length : Int)) (h2 : 2 ≤ size) :
    (out ++ [stayK (sortK L)] ++ (setS size c (out ++ [stayK (sortK L)]).length (sumT s1 (2 ^ out.length)).1 (a1 + 1) (addC (evK (lowK (sortK L)) (bitR c a1).toNat) ls)).1,(setS size c (out ++ [stayK (sortK L)]).length (sumT s1 (2 ^ out.length)).1 (a1 + 1) (addC (evK (lowK (sortK L)) (bitR c a1).toNat) ls)).2) = (F,fs,fa) := by
  rw [setS_full h h2] at hG
  rw [len1, addC_ne (upK_ne (bitN c a1) (by rw [sortK_len]; omega)), List.append_assoc]; exact hG
end Go.Proofs.Ytnckgbmifigadaa
