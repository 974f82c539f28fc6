/- Ranks: quantiles (plain). -/
import Derived.Test.YtnckgbmifigadaaZRkT
set_option linter.unusedSimpArgs false
set_option linter.unusedVariables false
namespace Go.Proofs.Ytnckgbmifigadaa
open Go.RowKit Go.Avm
def ceilR (a b : Int) : Int := if 0 < a % b then a / b + 1 else a / b
def wantR (r : Rk) (num den : Int) : Int := max (ceilR (num * r.total) den) 1
def hitR (ls : List (List ByteArray)) (want : Int) (k : ByteArray) : Bool := decide (want ≤ rankL k 0 ls)
/-- The smallest key whose rank is high enough. -/
def qK (ls : List (List ByteArray)) (want : Int) : ByteArray := ((sortK ls.flatten).find? (hitR ls want)).getD ⟨#[]⟩
def quantR (r : Rk) (num den : Int) : ByteArray × Int := if validR r ≠ 0 then (⟨#[]⟩, validR r) else if den < 1 ∨ 1000000 < den ∨ num < 0 ∨ den < num then (⟨#[]⟩, 5) else if r.total = 0 then (⟨#[]⟩, 17) else (qK r.levels (wantR r num den), 0)
theorem cntL_all {k : ByteArray} : ∀ {l : List ByteArray}, (∀ x ∈ l, leK x k) → cntL k l = l.length
  | [], _ => rfl
  | x :: l, h => by rw [cntL_yes (h x (List.mem_cons_self ..)), cntL_all fun y hy => h y (List.mem_cons_of_mem _ hy)]; rfl
theorem rankL_all {k : ByteArray} : ∀ {ls : List (List ByteArray)} (i : Nat), (∀ l ∈ ls, ∀ x ∈ l, leK x k) → rankL k i ls = wtL i ls
  | [], _, _ => rfl
  | l :: ls, i, h => by rw [rankL, wtL, cntL_all (h l (List.mem_cons_self ..)), rankL_all (i + 1) fun y hy => h y (List.mem_cons_of_mem _ hy)]
theorem cntL_mono {k k' : ByteArray} (h : leK k k') : ∀ (l : List ByteArray), cntL k l ≤ cntL k' l
  | [] => Nat.le_refl _
  | x :: l => by
    have ih := cntL_mono h l
    cases e : Op.bytesLess k.toList x.toList with
    | true =>
      rw [cntL_no e]
      cases e' : Op.bytesLess k'.toList x.toList with
      | true => rw [cntL_no e']; exact ih
      | false => rw [cntL_yes e']; omega
    | false =>
      have e' : Op.bytesLess k'.toList x.toList = false := leK_trans (show leK x k from e) h
      rw [cntL_yes e, cntL_yes e']; omega
theorem rankL_mono {k k' : ByteArray} (h : leK k k') : ∀ (i : Nat) (ls : List (List ByteArray)), rankL k i ls ≤ rankL k' i ls
  | _, [] => Int.le_refl _
  | i, l :: ls => by
    have ih := rankL_mono h (i + 1) ls
    have h1 := cntL_mono h l
    have h2 : (cntL k l : Int) * 2 ^ i ≤ (cntL k' l : Int) * 2 ^ i := Int.mul_le_mul_of_nonneg_right (by omega) (by have := two_pos i; omega)
    simp only [rankL]; omega
theorem wtL_noKeys : ∀ {ls : List (List ByteArray)} (i : Nat), ls.flatten = [] → wtL i ls = 0
  | [], _, _ => rfl
  | l :: ls, i, h => by
    rw [List.flatten_cons] at h
    obtain ⟨h1, h2⟩ := List.append_eq_nil_iff.1 h
    subst h1
    rw [wtL, wtL_noKeys (i + 1) h2]; simp
theorem last_max {l : List ByteArray} (hs : l.Pairwise leK) {x : ByteArray} (hx : l.getLast? = some x) : ∀ y ∈ l, leK y x := by
  intro y hy
  obtain ⟨pre, rfl⟩ : ∃ pre, l = pre ++ [x] := List.getLast?_eq_some_iff.1 hx
  rcases List.mem_append.1 hy with h | h
  · exact (List.pairwise_append.1 hs).2.2 y h x (by simp)
  · rw [List.mem_singleton.1 h]; exact leK_refl x
theorem find_least {p : ByteArray → Bool} : ∀ {l : List ByteArray} {q : ByteArray}, l.Pairwise leK → l.find? p = some q → ∀ x ∈ l, p x = true → leK q x
  | [], q, _, h, _, hx, _ => by cases hx
  | y :: l, q, hs, h, x, hx, hp => by
    obtain ⟨h1, h2⟩ := List.pairwise_cons.1 hs
    rw [List.find?_cons] at h
    cases e : p y with
    | true =>
      rw [e] at h
      simp only [Option.some.injEq] at h
      subst h
      rcases List.mem_cons.1 hx with rfl | hx
      · exact leK_refl _
      · exact h1 x hx
    | false =>
      rw [e] at h
      rcases List.mem_cons.1 hx with rfl | hx
      · rw [e] at hp; cases hp
      · exact find_least h2 h x hx hp
theorem flat_mem {ls : List (List ByteArray)} {x : ByteArray} : x ∈ sortK ls.flatten ↔ ∃ l ∈ ls, x ∈ l := by rw [sortK_mem, List.mem_flatten]
/-- There is such a key. -/
theorem qK_spec {ls : List (List ByteArray)} {want : Int} (h1 : 1 ≤ want) (h2 : want ≤ wtL 0 ls) : (sortK ls.flatten).find? (hitR ls want) = some (qK ls want) ∧ (qK ls want) ∈ ls.flatten ∧ want ≤ rankL (qK ls want) 0 ls ∧ ∀ x ∈ ls.flatten, want ≤ rankL x 0 ls → leK (qK ls want) x := by
  have hne : ls.flatten ≠ [] := fun e => by rw [wtL_noKeys 0 e] at h2; omega
  have hs := sortK_sorted ls.flatten
  have hne' : sortK ls.flatten ≠ [] := fun e => by
    have := sortK_len ls.flatten
    rw [e] at this
    exact hne (List.eq_nil_of_length_eq_zero this.symm)
  obtain ⟨g, hg⟩ : ∃ g, (sortK ls.flatten).getLast? = some g := ⟨_, List.getLast?_eq_some_getLast hne'⟩
  have hgm := List.mem_of_getLast? hg
  have hgr : rankL g 0 ls = wtL 0 ls := rankL_all 0 fun l hl x hx => last_max hs hg x (flat_mem.2 ⟨l, hl, hx⟩)
  have hsome : ((sortK ls.flatten).find? (hitR ls want)).isSome = true := List.find?_isSome.2 ⟨g, hgm, by simp only [hitR, decide_eq_true_eq]; omega⟩
  obtain ⟨q, hq⟩ := Option.isSome_iff_exists.1 hsome
  have e : qK ls want = q := by unfold qK; rw [hq]; rfl
  rw [e]
  have hp := List.find?_some hq
  refine ⟨hq, sortK_mem.1 (List.mem_of_find?_eq_some hq), by simpa [hitR] using hp, fun x hx hw => find_least hs hq x (sortK_mem.2 hx) (by simp only [hitR, decide_eq_true_eq]; exact hw)⟩
theorem ceilR_rng {a b : Int} (ha : 0 ≤ a) (hb : 1 ≤ b) : a ≤ ceilR a b * b ∧ ceilR a b * b < a + b ∧ 0 ≤ ceilR a b := by
  have h1 := Int.mul_ediv_add_emod a b
  have h2 := Int.emod_nonneg a (show b ≠ 0 by omega)
  have h3 := Int.emod_lt_of_pos a (show 0 < b by omega)
  have h4 : 0 ≤ a / b := Int.ediv_nonneg ha (by omega)
  have e : a / b * b = b * (a / b) := Int.mul_comm _ _
  unfold ceilR
  split
  · rw [Int.add_mul]; omega
  · omega
theorem want_rng {r : Rk} {num den : Int} (ht : 1 ≤ r.total) (h1 : 1 ≤ den) (h2 : 0 ≤ num) (h3 : num ≤ den) : 1 ≤ wantR r num den ∧ wantR r num den ≤ r.total := by
  have hn : 0 ≤ num * r.total := Int.mul_nonneg h2 (by omega)
  have hle : num * r.total ≤ r.total * den := by
    rw [Int.mul_comm r.total den]
    exact Int.mul_le_mul_of_nonneg_right h3 (by omega)
  obtain ⟨c1, c2, c3⟩ := ceilR_rng hn h1
  have hc : ceilR (num * r.total) den ≤ r.total := by
    have h5 : ceilR (num * r.total) den * den < (r.total + 1) * den := by rw [Int.add_mul]; omega
    have := Int.lt_of_mul_lt_mul_right h5 (by omega)
    omega
  unfold wantR
  omega
/-- What the reference's search keeps: the best of the keys seen so far. -/
def BestR (ls : List (List ByteArray)) (want : Int) (pre : List ByteArray) (best : ByteArray) : Prop :=
  (best = ⟨#[]⟩ ∧ ∀ x ∈ pre, rankL x 0 ls < want) ∨ (best ∈ pre ∧ 1 ≤ best.size ∧ want ≤ rankL best 0 ls ∧ ∀ x ∈ pre, want ≤ rankL x 0 ls → leK best x)
theorem BestR.no {ls : List (List ByteArray)} {want : Int} {pre : List ByteArray} {best x : ByteArray} (h : BestR ls want pre best) (hx : rankL x 0 ls < want) : BestR ls want (pre ++ [x]) best := by
  rcases h with ⟨e, h⟩ | ⟨h1, h2, h3, h4⟩
  · refine .inl ⟨e, fun y hy => ?_⟩
    rcases List.mem_append.1 hy with hy | hy
    · exact h y hy
    · rw [List.mem_singleton.1 hy]; exact hx
  · refine .inr ⟨List.mem_append_left _ h1, h2, h3, fun y hy hw => ?_⟩
    rcases List.mem_append.1 hy with hy | hy
    · exact h4 y hy hw
    · rw [List.mem_singleton.1 hy] at hw; omega
theorem BestR.keep {ls : List (List ByteArray)} {want : Int} {pre : List ByteArray} {best x : ByteArray} (h : BestR ls want pre best) (hb : best ≠ ⟨#[]⟩) (hb2 : Op.bytesLess x.toList best.toList = false) : BestR ls want (pre ++ [x]) best := by
  rcases h with ⟨e, h⟩ | ⟨h1, h2, h3, h4⟩
  · exact absurd e hb
  · refine .inr ⟨List.mem_append_left _ h1, h2, h3, fun y hy hw => ?_⟩
    rcases List.mem_append.1 hy with hy | hy
    · exact h4 y hy hw
    · rw [List.mem_singleton.1 hy]; exact hb2
theorem BestR.done {ls : List (List ByteArray)} {want : Int} {best : ByteArray} (h : BestR ls want ls.flatten best) (h1 : 1 ≤ want) (h2 : want ≤ wtL 0 ls) : best = qK ls want := by
  obtain ⟨_, q1, q2, q3⟩ := qK_spec h1 h2
  rcases h with ⟨_, h⟩ | ⟨b1, _, b2, b3⟩
  · have := h _ q1; omega
  · exact leK_anti (b3 _ q1 q2) (q3 _ b1 b2)
theorem flat_take {ls : List (List ByteArray)} {i : Nat} {l : List ByteArray} (h : ls[i]? = some l) : (ls.take (i + 1)).flatten = (ls.take i).flatten ++ l := by
  rw [List.take_add_one, h]; simp
end Go.Proofs.Ytnckgbmifigadaa
