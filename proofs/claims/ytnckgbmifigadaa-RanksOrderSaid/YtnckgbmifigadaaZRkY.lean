/- Ranks: where nothing is compacted; what the laws Exact and Order ask (plain). -/
import Derived.Test.YtnckgbmifigadaaZRkU
set_option linter.unusedSimpArgs false
set_option linter.unusedVariables false
namespace Go.Proofs.Ytnckgbmifigadaa
open Go.RowKit Go.Avm
theorem padL_get (ls : List (List ByteArray)) (n j : Nat) : (padL ls n)[j]?.getD [] = ls[j]?.getD [] := by
  unfold padL
  by_cases h : j < ls.length
  · rw [List.getElem?_append_left h]
  · rw [List.getElem?_append_right (by omega), List.getElem?_eq_none (l := ls) (by omega), List.getElem?_replicate]
    split <;> rfl
theorem addL_get (ls : List (List ByteArray)) (n j : Nat) (u : List ByteArray) : (addL ls n u)[j]?.getD [] = if n = j then ls[j]?.getD [] ++ u else ls[j]?.getD [] := by
  obtain ⟨x, hx⟩ := get_lt (show n < (padL ls (n + 1)).length by rw [padL_len]; omega)
  rw [addL_at hx, List.getElem?_set]
  by_cases e : n = j
  · subst e
    have := padL_get ls (n + 1) n
    rw [hx] at this
    rw [if_pos rfl, if_pos rfl, if_pos (by rw [padL_len]; omega), ← this]; rfl
  · rw [if_neg e, if_neg e, padL_get]
theorem putK_get (k : ByteArray) (j : Nat) : ∀ (ps : List Nat) (ls : List (List ByteArray)), ps.Pairwise (· < ·) → ((putK k ps ls)[j]?.getD []).length ≤ (ls[j]?.getD []).length + 1 ∧ (j ∉ ps → (putK k ps ls)[j]?.getD [] = ls[j]?.getD [])
  | [], ls, _ => by rw [putK_nil]; exact ⟨by omega, fun _ => rfl⟩
  | p :: ps, ls, h => by
    obtain ⟨h1, h2⟩ := List.pairwise_cons.1 h
    obtain ⟨i1, i2⟩ := putK_get k j ps (addL ls p [k]) h2
    rw [putK_cons]
    rw [addL_get] at i1 i2
    by_cases e : p = j
    · have hj : j ∉ ps := fun hm => by have := h1 j hm; omega
      rw [i2 hj, if_pos e]
      refine ⟨by simp, fun hn => absurd (by rw [e]; exact List.mem_cons_self ..) hn⟩
    · rw [if_neg e] at i1 i2
      exact ⟨i1, fun hn => i2 fun hm => hn (List.mem_cons_of_mem _ hm)⟩
theorem powS_asc : ∀ (m n i : Nat), n < 2 ^ m → (powS n i).Pairwise (· < ·)
  | 0, n, i, h => by rw [show n = 0 by simpa using h, powS_zero]; exact List.Pairwise.nil
  | m + 1, n, i, h => by
    have h' : n / 2 < 2 ^ m := by rw [Nat.pow_succ] at h; omega
    have ih := powS_asc m (n / 2) (i + 1) h'
    by_cases h0 : n = 0
    · subst h0; rw [powS_zero]; exact List.Pairwise.nil
    · rcases Nat.mod_two_eq_zero_or_one n with h2 | h2
      · rw [powS_even i h0 h2]; exact ih
      · rw [powS_odd i h2]
        exact List.Pairwise.cons (fun x hx => by have := (powS_lt m (n / 2) (i + 1) h' x hx).1; omega) ih
theorem get_all {ls : List (List ByteArray)} {n : Nat} : (∀ l ∈ ls, l.length ≤ n) ↔ ∀ j : Nat, (ls[j]?.getD []).length ≤ n := by
  constructor
  · intro h j
    cases e : ls[j]? with
    | none => simp
    | some l => exact h l (List.mem_of_getElem? e)
  · intro h l hl
    obtain ⟨j, hj⟩ := List.getElem?_of_mem hl
    have := h j
    rw [hj] at this
    exact this
theorem setS_small {size : Int} {c : List Int} {sl a : Int} : ∀ (i : Nat) (ls : List (List ByteArray)), (∀ l ∈ ls, (l.length : Int) < size) → setS size c i sl a ls = (ls.map sortK, sl, a)
  | i, [], _ => by rw [setS_nil]; rfl
  | i, l :: ls, h => by rw [setS_keep (h l (List.mem_cons_self ..)), setS_small (i + 1) ls fun y hy => h y (List.mem_cons_of_mem _ hy)]; rfl
theorem rankL_sort (k : ByteArray) : ∀ (i : Nat) (ls : List (List ByteArray)), rankL k i (ls.map sortK) = rankL k i ls
  | _, [] => rfl
  | i, l :: ls => by rw [List.map_cons, rankL, rankL, cntL_perm (sortK_perm l), rankL_sort k (i + 1) ls]
/-- A summary into which n keys were put, and that never compacted. -/
structure ExR (n : Nat) (key : ByteArray) (T : Int) (r : Rk) : Prop where
  v : validR r = 0
  sz : r.size = 32
  sl : r.slack = 0
  lev : ∀ l ∈ r.levels, l.length ≤ n
  rk : rankL key 0 r.levels = T
  tot : r.total ≤ n * 4294967295
theorem ExR.new (key : ByteArray) : ExR 0 key 0 ⟨32, 0, 0, [], false⟩ := ⟨(GdR.new key (by decide)).v, rfl, rfl, by simp, rfl, by simp⟩
theorem ExR.insert {n : Nat} {key k : ByteArray} {T w : Int} {r : Rk} {c : List Int} (h : ExR n key T r) (hn : n < 31) (hi : itemE k w = 0) :
    (insR r k w c 0).2.2 = 0 ∧ (insR r k w c 0).2.1 = 0 ∧ ExR (n + 1) key (T + if Op.bytesLess key.toList k.toList = true then 0 else w) (insR r k w c 0).1 := by
  obtain ⟨v, sz, sl, lev, rk, tot⟩ := h
  have hw := itemE_okR hi
  obtain ⟨i1, i2, i3, i4, i5, _⟩ := insR_ok (P := fun _ => True) (c := c) (a := 0) v hi (by decide) (by omega) (fun _ _ _ _ => trivial) trivial
  have hW : w.toNat < 2 ^ 33 := by omega
  have hlev : ∀ l ∈ putK k (powS w.toNat 0) r.levels, l.length ≤ n + 1 := get_all.2 fun j => by
    have h1 := (putK_get k j (powS w.toNat 0) r.levels (powS_asc 33 w.toNat 0 hW)).1
    have h2 := get_all.1 lev j
    omega
  have hs := setS_small (size := r.size) (c := c) (sl := r.slack) (a := 0) 0 (putK k (powS w.toNat 0) r.levels) (fun l hl => by have := hlev l hl; omega)
  rcases insR_cases r k w c 0 with ⟨h, _⟩ | ⟨_, h, _⟩ | ⟨_, _, h, _⟩ | ⟨_, _, _, h, _⟩ | ⟨_, _, _, _, e⟩
  · exact absurd v h
  · exact absurd hi h
  · cases h
  · omega
  · have hsl : (insR r k w c 0).1.slack = 0 := by rw [e]; simp only [settleK, hs]; exact sl
    have hat : (insR r k w c 0).2.1 = 0 := by rw [e]; simp only [settleK, hs]
    have hlv : (insR r k w c 0).1.levels = trimK ((putK k (powS w.toNat 0) r.levels).map sortK) := by rw [e]; simp only [settleK, hs]
    refine ⟨i1, hat, i2, by rw [i3, sz], hsl, fun l hl => ?_, ?_, by rw [i4]; omega⟩
    · rw [hlv] at hl
      obtain ⟨x, hx, rfl⟩ := List.mem_map.1 (trimK_mem hl)
      rw [sortK_len]; exact hlev x hx
    · rw [hlv, trimK_rank, rankL_sort, rankL_putK key k 33 w.toNat 0 r.levels hW, rk, cnt1]
      congr 1
      split <;> simp <;> omega
theorem ff_top : ∀ (n : Nat) (l : List UInt8), l.length ≤ n → Op.bytesLess (List.replicate n 255) l = false
  | 0, l, h => by obtain rfl := List.eq_nil_of_length_eq_zero (Nat.le_zero.1 h); rfl
  | n + 1, [], _ => rfl
  | n + 1, y :: l, h => by
    have ih := ff_top n l (by simpa using h)
    rw [List.replicate_succ, Op.bytesLess]
    have h1 : ¬ (255 : UInt8) < y := by
      have := y.toNat_lt
      simp only [UInt8.lt_iff_toNat_lt]
      have e : (255 : UInt8).toNat = 255 := rfl
      omega
    simp [h1, ih]
def topK : ByteArray := ⟨#[255, 255, 255, 255]⟩
theorem leK_top {x : ByteArray} (h : x.size ≤ 4) : leK x topK := by
  unfold leK
  rw [show topK.toList = List.replicate 4 255 by rw [Go.ByteArray.toList_eq]; rfl]
  refine ff_top 4 _ ?_
  rw [Go.ByteArray.toList_eq]; simpa using h
theorem rank_top {r : Rk} (hv : validR r = 0) (h : ∀ l ∈ r.levels, ∀ x ∈ l, x.size ≤ 4) : rankL topK 0 r.levels = r.total := by
  rw [rankL_all 0 fun l hl x hx => leK_top (h l hl x hx), (validR_ok hv).wt]
/-- What the law Order asks of a quantile. -/
theorem quant_law {r : Rk} {num : Int} {x : ByteArray} (hv : validR r = 0) (h0 : r.total ≠ 0) (hn : 0 ≤ num) (hn2 : num ≤ 15) :
    keyOk (qK r.levels (wantR r num 15)) = true ∧ num * r.total ≤ rankL (qK r.levels (wantR r num 15)) 0 r.levels * 15 ∧
    (Op.bytesLess x.toList (qK r.levels (wantR r num 15)).toList = true → rankL x 0 r.levels * 15 < num * r.total ∨ rankL x 0 r.levels < 1) := by
  have ok := validR_ok hv
  have ht : 1 ≤ r.total := by have := ok.t1; omega
  have hw := want_rng (r := r) ht (show (1 : Int) ≤ 15 by omega) hn hn2
  obtain ⟨q0, q1, q2, q3⟩ := qK_spec (ls := r.levels) hw.1 (by rw [ok.wt]; exact hw.2)
  obtain ⟨c1, c2, c3⟩ := ceilR_rng (a := num * r.total) (b := 15) (Int.mul_nonneg hn (by omega)) (by omega)
  have hwe : wantR r num 15 = max (ceilR (num * r.total) 15) 1 := rfl
  obtain ⟨l, hl, hq⟩ := List.mem_flatten.1 q1
  refine ⟨badL_ok l [] (ok.lev l hl).2 _ hq, by omega, fun hlt => ?_⟩
  by_cases hh : wantR r num 15 ≤ rankL x 0 r.levels
  · exfalso
    -- the greatest key that is at most x has the same rank
    have hne : (r.levels.flatten.filter fun y => !Op.bytesLess x.toList y.toList) ≠ [] := by
      intro e
      have hz : ∀ (i : Nat) (ls : List (List ByteArray)), (∀ l ∈ ls, ∀ y ∈ l, Op.bytesLess x.toList y.toList = true) → rankL x i ls = 0 := by
        intro i ls
        induction ls generalizing i with
        | nil => intro _; rfl
        | cons l ls ih => intro h; rw [rankL, cntL_zero (h l (List.mem_cons_self ..)), ih (i + 1) fun y hy => h y (List.mem_cons_of_mem _ hy)]; simp
      have := hz 0 r.levels (fun l hl y hy => by
        have := List.filter_eq_nil_iff.1 e y (List.mem_flatten.2 ⟨l, hl, hy⟩)
        simpa using this)
      omega
    have hs := sortK_sorted (r.levels.flatten.filter fun y => !Op.bytesLess x.toList y.toList)
    have hne' : sortK (r.levels.flatten.filter fun y => !Op.bytesLess x.toList y.toList) ≠ [] := fun e => by
      have := sortK_len (r.levels.flatten.filter fun y => !Op.bytesLess x.toList y.toList)
      rw [e] at this
      exact hne (List.eq_nil_of_length_eq_zero this.symm)
    obtain ⟨g, hg⟩ : ∃ g, (sortK (r.levels.flatten.filter fun y => !Op.bytesLess x.toList y.toList)).getLast? = some g := ⟨_, List.getLast?_eq_some_getLast hne'⟩
    have hgm := sortK_mem.1 (List.mem_of_getLast? hg)
    obtain ⟨hg1, hg2⟩ := List.mem_filter.1 hgm
    have hgx : leK g x := by simpa [leK] using hg2
    have hsame : ∀ (i : Nat) (ls : List (List ByteArray)), (∀ l ∈ ls, ∀ y ∈ l, leK y x → leK y g) → rankL x i ls ≤ rankL g i ls := by
      intro i ls
      induction ls generalizing i with
      | nil => intro _; exact Int.le_refl _
      | cons l ls ih =>
        intro h
        have i1 := ih (i + 1) fun y hy => h y (List.mem_cons_of_mem _ hy)
        have i2 : cntL x l ≤ cntL g l := by
          have hl' := h l (List.mem_cons_self ..)
          clear ih i1 h
          induction l with
          | nil => exact Nat.le_refl _
          | cons y l ih =>
            have i3 := ih fun z hz => hl' z (List.mem_cons_of_mem _ hz)
            cases e : Op.bytesLess x.toList y.toList with
            | true =>
              rw [cntL_no e]
              cases e' : Op.bytesLess g.toList y.toList with
              | true => rw [cntL_no e']; exact i3
              | false => rw [cntL_yes e']; omega
            | false =>
              have e' : Op.bytesLess g.toList y.toList = false := hl' y (List.mem_cons_self ..) e
              rw [cntL_yes e, cntL_yes e']; omega
        have i4 : (cntL x l : Int) * 2 ^ i ≤ (cntL g l : Int) * 2 ^ i := Int.mul_le_mul_of_nonneg_right (by omega) (by have := two_pos i; omega)
        simp only [rankL]; omega
    have hgr := hsame 0 r.levels fun l hl y hy hyx => last_max hs hg y (sortK_mem.2 (List.mem_filter.2 ⟨List.mem_flatten.2 ⟨l, hl, hy⟩, by simpa [leK] using hyx⟩))
    have := leK_trans (q3 g hg1 (by omega)) hgx
    rw [leK, hlt] at this
    cases this
  · rcases Int.lt_or_le (rankL x 0 r.levels) 1 with h1 | h1
    · exact .inr h1
    · refine .inl ?_
      have : rankL x 0 r.levels ≤ ceilR (num * r.total) 15 - 1 := by omega
      omega
end Go.Proofs.Ytnckgbmifigadaa
