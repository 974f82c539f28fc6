/- Chain: plain laws of a valid chain to which a version is appended, and of which a dead one is removed. -/
import Derived.Test.YtbeodddkccpmhaaChK
import Derived.Test.YtbeodddkccpmhaaChF
import Derived.Test.YtbeodddkccpmhaaChD
set_option linter.unusedSimpArgs false
set_option linter.unusedVariables false
namespace Go.Proofs.Ytbeodddkccpmhaa
open Go.RowKit Go.Avm
structure OkV (l : List Ver) : Prop where
  range : ∀ v ∈ l, 1 ≤ v.from_ ∧ 0 ≤ v.to ∧ 0 ≤ v.size ∧ (v.to ≠ 0 → v.from_ < v.to)
  asc : l.Pairwise (fun a b => a.to ≠ 0 ∧ a.to ≤ b.from_)
theorem validV_ok : ∀ (l : List Ver) (prev : Option Ver), validV prev l = 0 → OkV l ∧ ∀ q, prev = some q → ∀ v ∈ l, q.to ≠ 0 ∧ q.to ≤ v.from_
  | [], _, _ => ⟨⟨by simp, List.Pairwise.nil⟩, by simp⟩
  | v :: l, prev, h => by
    unfold validV at h
    split at h
    · omega
    · rename_i hr
      split at h
      · omega
      · rename_i ho
        have key : validV (some v) l = 0 ∧ ∀ q, prev = some q → q.to ≠ 0 ∧ q.to ≤ v.from_ := by
          cases prev with
          | none => exact ⟨by simpa using h, by simp⟩
          | some q =>
            simp only at h
            split at h
            · omega
            · exact ⟨h, fun q' e => by cases e; omega⟩
        obtain ⟨hl, hq⟩ := validV_ok l (some v) key.1
        refine ⟨⟨fun p hp => ?_, List.Pairwise.cons (fun p hp => hq v rfl p hp) hl.asc⟩, fun q e p hp => ?_⟩
        · rcases List.mem_cons.1 hp with rfl | hp
          · omega
          · exact hl.range p hp
        · have h1 := key.2 q e
          rcases List.mem_cons.1 hp with rfl | hp
          · exact h1
          · have := hq v rfl p hp
            exact ⟨h1.1, by omega⟩
theorem OkV.tail {v : Ver} {l : List Ver} (h : OkV (v :: l)) : OkV l ∧ ∀ q ∈ l, v.to ≠ 0 ∧ v.to ≤ q.from_ := by
  have := h.asc
  rw [List.pairwise_cons] at this
  exact ⟨⟨fun q hq => h.range q (List.mem_cons_of_mem _ hq), this.2⟩, this.1⟩
theorem validV_of : ∀ (l : List Ver) (prev : Option Ver), OkV l → (∀ q, prev = some q → ∀ v ∈ l, q.to ≠ 0 ∧ q.to ≤ v.from_) → validV prev l = 0
  | [], _, _, _ => rfl
  | v :: l, prev, ok, h => by
    obtain ⟨ok', hab⟩ := ok.tail
    have hr := ok.range v (by simp)
    have := validV_of l (some v) ok' (fun q e => by cases e; exact hab)
    unfold validV
    rw [if_neg (by omega), if_neg (by omega)]
    cases prev with
    | none => simpa using this
    | some q =>
      have := h q rfl v (by simp)
      simp only
      rw [if_neg (by omega)]; assumption
/-- The appended chain. -/
def keepU (u : Ver) (f : Int) : Ver := if u.to = 0 then { u with to := f } else u
theorem keep_ok {pre : List Ver} {u : Ver} {f s : Int} {p : List Int} (ok : OkV (pre ++ [u])) (h1 : u.from_ < f) (h2 : u.to ≤ f) (hs : 0 ≤ s) : OkV (pre ++ [keepU u f] ++ [⟨f, 0, s, p⟩]) := by
  have hu := ok.range u (by simp)
  obtain ⟨a1, a2, a3⟩ := List.pairwise_append.1 ok.asc
  have hU : (keepU u f).from_ = u.from_ ∧ (keepU u f).to ≠ 0 ∧ (keepU u f).to ≤ f ∧ u.from_ < (keepU u f).to ∧ (keepU u f).size = u.size := by
    unfold keepU; split
    · exact ⟨rfl, by simp only; omega, by simp, h1, rfl⟩
    · exact ⟨rfl, by assumption, h2, hu.2.2.2 (by assumption), rfl⟩
  refine ⟨fun v hv => ?_, ?_⟩
  · simp only [List.mem_append, List.mem_singleton] at hv
    rcases hv with (hv | rfl) | rfl
    · exact ok.range v (by simp [hv])
    · omega
    · simp only; omega
  · rw [List.pairwise_append, List.pairwise_append]
    refine ⟨⟨a1, by simp, fun a ha b hb => ?_⟩, by simp, fun a ha b hb => ?_⟩
    · simp only [List.mem_singleton] at hb
      subst hb
      have := a3 a ha u (by simp)
      exact ⟨this.1, by rw [hU.1]; exact this.2⟩
    · simp only [List.mem_singleton] at hb
      subst hb
      simp only [List.mem_append, List.mem_singleton] at ha
      rcases ha with ha | rfl
      · have := a3 a ha u (by simp)
        exact ⟨this.1, by simp only; omega⟩
      · exact ⟨hU.2.1, hU.2.2.1⟩
theorem keep_append {pre : List Ver} {u : Ver} {f s : Int} {p : List Int} (ok : OkV (pre ++ [u])) (h1 : u.from_ < f) (h2 : u.to ≤ f) (hs : 0 ≤ s) : appendV (pre ++ [u]) ⟨f, 0, s, p⟩ = (pre ++ [keepU u f] ++ [⟨f, 0, s, p⟩], 0) := by
  have hz : validV none (pre ++ [u]) = 0 := validV_of _ none ok (by simp)
  have hu := ok.range u (by simp)
  have hg : (pre ++ [u])[(pre ++ [u]).length - 1]? = some u := by simp
  unfold appendV
  rw [hz, if_neg (by simp), if_neg (by simp only; omega), hg]
  simp only
  rw [if_neg (by omega)]
  unfold keepU
  split
  · simp
  · rfl
theorem find_app (k : Int) {l1 l2 : List Ver} (h : ∀ m, findN k l1 m = findN k l2 m) : ∀ (pre : List Ver) (n : Nat), findN k (pre ++ l1) n = findN k (pre ++ l2) n
  | [], n => h n
  | v :: pre, n => by
    simp only [List.cons_append, findN]
    rw [find_app k h pre (n + 1)]
theorem keep_find {pre : List Ver} {u : Ver} {f s k : Int} {p : List Int} (hk : k < f) : findN k (pre ++ [keepU u f] ++ [⟨f, 0, s, p⟩]) 0 = findN k (pre ++ [u]) 0 := by
  rw [List.append_assoc]
  refine find_app k (fun m => ?_) pre 0
  have h1 : holdsF f 0 k = false := by simp [holdsF]; omega
  have h2 : holdsF (keepU u f).from_ (keepU u f).to k = holdsF u.from_ u.to k := by
    unfold keepU; split
    · rename_i h; simp only [holdsF, h]; simp; intro _; exact .inl hk
    · rfl
  simp only [List.cons_append, List.nil_append, findN, h1, h2]
  simp
theorem find_spec (k : Int) : ∀ (l : List Ver) (n : Nat), (findN k l n = (0, false) ∧ ∀ v ∈ l, holdsF v.from_ v.to k = false) ∨ ∃ i v, l[i]? = some v ∧ holdsF v.from_ v.to k = true ∧ findN k l n = (((n + i : Nat) : Int), true)
  | [], n => .inl ⟨rfl, by simp⟩
  | v :: l, n => by
    unfold findN
    by_cases h : holdsF v.from_ v.to k = true
    · exact .inr ⟨0, v, rfl, h, by rw [if_pos h]; simp⟩
    · rw [if_neg h]
      rcases find_spec k l (n + 1) with ⟨h1, h2⟩ | ⟨i, u, h1, h2, h3⟩
      · exact .inl ⟨h1, fun w hw => by
          rcases List.mem_cons.1 hw with rfl | hw
          · simpa using h
          · exact h2 w hw⟩
      · exact .inr ⟨i + 1, u, by simpa using h1, h2, by rw [h3]; congr 2; omega⟩
theorem dead_spec (c : Int) : ∀ (l : List Ver) (n : Nat) (x : Int), x ∈ deadV [⟨c, 1⟩] l n → ∃ j v, l[j]? = some v ∧ x = ((n + j : Nat) : Int) ∧ holdsF v.from_ v.to c = false
  | [], n, x, h => by simp [deadV] at h
  | v :: l, n, x, h => by
    unfold deadV at h
    split at h
    · rename_i hv
      rcases List.mem_cons.1 h with rfl | h
      · refine ⟨0, v, rfl, by simp, ?_⟩
        have := hv.2
        simp only [coversP] at this
        split at this
        · cases this
        · rename_i hn; simp [holdsF]; omega
      · obtain ⟨j, u, h1, h2, h3⟩ := dead_spec c l (n + 1) x h
        exact ⟨j + 1, u, by simpa using h1, by rw [h2]; congr 1; omega, h3⟩
    · obtain ⟨j, u, h1, h2, h3⟩ := dead_spec c l (n + 1) x h
      exact ⟨j + 1, u, by simpa using h1, by rw [h2]; congr 1; omega, h3⟩
theorem idx_at : ∀ {l : List Ver} {j : Nat} {v : Ver} (n : Nat), OkV l → l[j]? = some v → idxV v.from_ l n = ((n + j : Nat) : Int)
  | w :: l, 0, v, n, ok, h => by
    simp only [List.getElem?_cons_zero, Option.some.injEq] at h
    subst h
    unfold idxV; rw [if_pos rfl]; rfl
  | w :: l, j + 1, v, n, ok, h => by
    simp only [List.getElem?_cons_succ] at h
    obtain ⟨ok', hab⟩ := ok.tail
    have h1 := hab v (List.mem_of_getElem? h)
    have h2 := (ok.range w (by simp)).2.2.2 h1.1
    unfold idxV
    rw [if_neg (by omega), idx_at (n + 1) ok' h]
    congr 1; omega
theorem remove_at {l : List Ver} {j : Nat} {v : Ver} (ok : OkV l) (h : l[j]? = some v) : removeV l v.from_ = (l.take j ++ l.drop (j + 1), v, 0) := by
  have := idx_at 0 ok h
  rw [Nat.zero_add] at this
  unfold removeV
  rw [this, if_neg (by omega)]
  simp [h]
theorem find_rem (k : Int) : ∀ (l : List Ver) (j : Nat) (v : Ver) (n : Nat), l[j]? = some v → holdsF v.from_ v.to k = false →
    (findN k l n = (0, false) → findN k (l.take j ++ l.drop (j + 1)) n = (0, false)) ∧
    ∀ i u, l[i]? = some u → holdsF u.from_ u.to k = true → findN k l n = (((n + i : Nat) : Int), true) → ∃ i', (l.take j ++ l.drop (j + 1))[i']? = some u ∧ findN k (l.take j ++ l.drop (j + 1)) n = (((n + i' : Nat) : Int), true)
  | w :: l, 0, v, n, h, hv => by
    simp only [List.getElem?_cons_zero, Option.some.injEq] at h
    subst h
    simp only [List.take_zero, List.nil_append, List.drop_succ_cons, List.drop_zero]
    have e : findN k (w :: l) n = findN k l (n + 1) := by
      conv => lhs; unfold findN
      rw [if_neg (by simp [hv])]
    have shift : ∀ (l : List Ver) (n : Nat), (findN k l (n + 1) = (0, false) → findN k l n = (0, false)) ∧ ∀ i, findN k l (n + 1) = (((n + 1 + i : Nat) : Int), true) → findN k l n = (((n + i : Nat) : Int), true) := by
      intro l
      induction l with
      | nil => intro n; exact ⟨fun _ => rfl, fun i h => by simp [findN] at h⟩
      | cons x l ih =>
        intro n
        unfold findN
        by_cases hx : holdsF x.from_ x.to k = true
        · simp only [hx, if_true]
          refine ⟨fun h => by simp at h, fun i h => ?_⟩
          simp only [Prod.mk.injEq, and_true] at h ⊢
          omega
        · simp only [hx, Bool.false_eq_true, if_false]
          refine ⟨fun h => (ih (n + 1)).1 h, fun i h => ?_⟩
          rcases find_spec k l (n + 2) with ⟨g1, _⟩ | ⟨i2, v2, g1, g2, g3⟩
          · rw [g1] at h; simp at h
          · have g4 := (ih (n + 1)).2 i2 (by rw [g3])
            rw [g4]
            rw [g3] at h
            simp only [Prod.mk.injEq, and_true] at h ⊢
            omega
    refine ⟨fun h => (shift l n).1 (by rw [← e]; exact h), fun i u hu hh hf => ?_⟩
    cases i with
    | zero =>
      simp only [List.getElem?_cons_zero, Option.some.injEq] at hu
      subst hu; rw [hv] at hh; cases hh
    | succ i =>
      simp only [List.getElem?_cons_succ] at hu
      exact ⟨i, hu, (shift l n).2 i (by rw [← e, hf]; congr 2; omega)⟩
  | w :: l, j + 1, v, n, h, hv => by
    simp only [List.getElem?_cons_succ] at h
    obtain ⟨i1, i2⟩ := find_rem k l j v (n + 1) h hv
    simp only [List.take_succ_cons, List.cons_append, List.drop_succ_cons]
    by_cases hw : holdsF w.from_ w.to k = true
    · have e : ∀ r, findN k (w :: r) n = ((n : Int), true) := fun r => by simp [findN, hw]
      refine ⟨fun hf => by rw [e] at hf; simp at hf, fun i u hu hh hf => ⟨0, ?_, by rw [e]; simp⟩⟩
      rw [e] at hf
      simp only [Prod.mk.injEq, and_true] at hf
      obtain rfl : i = 0 := by omega
      simpa using hu
    · have e : ∀ r, findN k (w :: r) n = findN k r (n + 1) := fun r => by simp [findN, hw]
      refine ⟨fun hf => by rw [e] at hf ⊢; exact i1 hf, fun i u hu hh hf => ?_⟩
      cases i with
      | zero =>
        simp only [List.getElem?_cons_zero, Option.some.injEq] at hu
        subst hu; exact absurd hh hw
      | succ i =>
        simp only [List.getElem?_cons_succ] at hu
        rw [e] at hf
        obtain ⟨i', h1, h2⟩ := i2 i u hu hh (by rw [hf]; congr 2; omega)
        exact ⟨i' + 1, by simpa using h1, by rw [e, h2]; congr 2; omega⟩
end Go.Proofs.Ytbeodddkccpmhaa
