/- Ranks: where nothing is compacted; what the laws Exact and Order ask (plain). -/
import Derived.Test.YtnckgbmifigadaaZRkU
set_option linter.unusedSimpArgs false
set_option linter.unusedVariables false
namespace Go.Proofs.Ytnckgbmifigadaa
open Go.RowKit Go.Avm
theorem padL_get (ls : List (List ByteArray)) (n j : Nat) : (padL ls n)[j]?.getD [] = ls[j]?.getD [] := by
  unfold padL
  by_cases h : j < ls.length
  · rw [List.getElem?_append_left h]
  · rw [List.getElem?_append_right (by omega), List.getElem?_eq_none (l := ls) (by omega), List.getElem?_replicate]
    split <;> rfl
theorem addL_get (ls : List (List ByteArray)) (n j : Nat) (u : List ByteArray) : (addL ls n u)[j]?.getD [] = if n = j then ls[j]?.getD [] ++ u else ls[j]?.getD [] := by
  obtain ⟨x, hx⟩ := get_lt (show n < (padL ls (n + 1)).length by rw [padL_len]; omega)
  rw [addL_at hx, List.getElem?_set]
  by_cases e : n = j
  · subst e
    have := padL_get ls (n + 1) n
    rw [hx] at this
    rw [if_pos rfl, if_pos rfl, if_pos (by rw [padL_len]; omega), ← this]; rfl
  · rw [if_neg e, if_neg e, padL_get]
theorem putK_get (k : ByteArray) (j : Nat) : ∀ (ps : List Nat) (ls : List (List ByteArray)), ps.Pairwise (· < ·) → ((putK k ps ls)[j]?.getD []).length ≤ (ls[j]?.getD []).length + 1 ∧ (j ∉ ps → (putK k ps ls)[j]?.getD [] = ls[j]?.getD [])
  | [], ls, _ => by rw [putK_nil]; exact ⟨by omega, fun _ => rfl⟩
  | p :: ps, ls, h => by
    obtain ⟨h1, h2⟩ := List.pairwise_cons.1 h
    obtain ⟨i1, i2⟩ := putK_get k j ps (addL ls p [k]) h2
    rw [putK_cons]
    rw [addL_get] at i1 i2
    by_cases e : p = j
    · have hj : j ∉ ps := fun hm => by have := h1 j hm; omega
      rw [i2 hj, if_pos e]
      refine ⟨by simp, fun hn => absurd (by rw [e]; exact List.mem_cons_self ..) hn⟩
    · rw [if_neg e] at i1 i2
      exact ⟨i1, fun hn => i2 fun hm => hn (List.mem_cons_of_mem _ hm)⟩
theorem powS_asc : ∀ (m n i : Nat), n < 2 ^ m → (powS n i).Pairwise (· < ·)
  | 0, n, i, h => by rw [show n = 0 by simpa using h, powS_zero]; exact List.Pairwise.nil
  | m + 1, n, i, h => by
    have h' : n / 2 < 2 ^ m := by rw [Nat.pow_succ] at h; omega
    have ih := powS_asc m (n / 2) (i + 1) h'
    by_cases h0 : n = 0
    · subst h0; rw [powS_zero]; exact List.Pairwise.nil
    · rcases Nat.mod_two_eq_zero_or_one n with h2 | h2
      · rw [powS_even i h0 h2]; exact ih
      · rw [powS_odd i h2]
        exact List.Pairwise.cons (fun x hx => by have := (powS_lt m (n / 2) (i + 1) h' x hx).1; omega) ih
theorem get_all {ls : List (List ByteArray)} {n : Nat} : (∀ l ∈ ls, l.length ≤ n) ↔ ∀ j : Nat, (ls[j]?.getD []).length ≤ n := by
  constructor
  · intro h j
    cases e : ls[j]? with
    | none => simp
    | some l => exact h l (List.mem_of_getElem? e)
  · intro h l hl
    obtain ⟨j, hj⟩ := List.getElem?_of_mem hl
    have := h j
    rw [hj] at this
    exact this
theorem setS_small {size : Int} {c : List Int} {sl a : Int} : ∀ (i : Nat) (ls : List (List ByteArray)), (∀ l ∈ ls, (l.length : Int) < size) → setS size c i sl a ls = (ls.map sortK, sl, a)
  | i, [], _ => by rw [setS_nil]; rfl
  | i, l :: ls, h => by rw [setS_keep (h l (List.mem_cons_self ..)), setS_small (i + 1) ls fun y hy => h y (List.mem_cons_of_mem _ hy)]; rfl
theorem rankL_sort (k : ByteArray) : ∀ (i : Nat) (ls : List (List ByteArray)), rankL k i (ls.map sortK) = rankL k i ls
  | _, [] => rfl
  | i, l :: ls => by rw [List.map_cons, rankL, rankL, cntL_perm (sortK_perm l), rankL_sort k (i + 1) ls]
/-- A summary into which n keys were put, and that never compacted. -/
structure ExR (n : Nat) (key : ByteArray) (T : Int) (r : Rk) : Prop where
  v : validR r = 0
  sz : r.size = 32
  sl : r.slack = 0
  lev : ∀ l ∈ r.levels, l.length ≤ n
  rk : rankL key 0 r.levels = T
  tot : r.total ≤ n * 4294967295
theorem ExR.new (key : ByteArray) : ExR 0 key 0 ⟨32, 0, 0, [], false⟩ := ⟨(GdR.new key (by decide)).v, rfl, rfl, by simp, rfl, by simp⟩
theorem ExR.insert {n : Nat} {key k : ByteArray} {T w : Int} {r : Rk} {c : List Int} (h : ExR n key T r) (hn : n < 31) (hi : itemE k w = 0) :
    (insR r k w c 0).2.2 = 0 ∧ (insR r k w c 0).2.1 = 0 ∧ ExR (n + 1) key (T + if Op.bytesLess key.toList k.toList = true then 0 else w) (insR r k w c 0).1 := by
  obtain ⟨v, sz, sl, lev, rk, tot⟩ := h
  have hw := itemE_okR hi
  obtain ⟨i1, i2, i3, i4, i5, _⟩ := insR_ok (P := fun _ => True) (c := c) (a := 0) v hi (by decide) (by omega) (fun _ _ _ _ => trivial) trivial
  have hW : w.toNat < 2 ^ 33 := by omega
  have hlev : ∀ l ∈ putK k (powS w.toNat 0) r.levels, l.length ≤ n + 1 := get_all.2 fun j => by
    have h1 := (putK_get k j (powS w.toNat 0) r.levels (powS_asc 33 w.toNat 0 hW)).1
    have h2 := get_all.1 lev j
    omega
  have hs := setS_small (size := r.size) (c := c) (sl := r.slack) (a := 0) 0 (putK k (powS w.toNat 0) r.levels) (fun l hl => by have := hlev l hl; omega)
  rcases insR_cases r k w c 0 with ⟨h, _⟩ | ⟨_, h, _⟩ | ⟨_, _, h, _⟩ | ⟨_, _, _, h, _⟩ | ⟨_, _, _, _, e⟩
  · exact absurd v h
  · exact absurd hi h
  · cases h
  · omega
  · have hsl : (insR r k w c 0).1.slack = 0 := by rw [e]; simp only [settleK, hs]; exact sl
    have hat : (insR r k w c 0).2.1 = 0 := by rw [e]; simp only [settleK, hs]
    have hlv : (insR r k w c 0).1.levels = trimK ((putK k (powS w.toNat 0) r.levels).map sortK) := by rw [e]; simp only [settleK, hs]
    refine ⟨i1, hat, i2, by rw [i3, sz], hsl, fun l hl => ?_, ?_, by rw [i4]; omega⟩
    · rw [hlv] at hl
      obtain ⟨x, hx, rfl⟩ := List.mem_map.1 (trimK_mem hl)
      rw [sortK_len]; exact hlev x hx
    · rw [hlv, trimK_rank, rankL_sort, rankL_putK key k 33 w.toNat 0 r.levels hW, rk, cnt1]
      congr 1
      split <;> simp <;> omega
def topK : ByteArray := ⟨#[255, 255, 255, 255]⟩
end Go.Proofs.Ytnckgbmifigadaa
