/- Directory: valid lists ascend; where a late binding has its place (plain). -/
import Derived.Test.YtpopgpjojbngcaaDiE
import Derived.Test.YtpopgpjojbngcaaDiQ
set_option linter.unusedSimpArgs false
set_option linter.unusedVariables false
namespace Go.Proofs.Ytpopgpjojbngcaa
open Go.RowKit Go.Avm
theorem badP_lt {a b : Bd} (h : badP a b = false) : ltB a b = true ∧ (eqN b.name a.name = true → a.to ≠ 0 ∧ a.to ≤ b.frm) := by
  simp only [badP, ltN, eqN, Bool.or_eq_false_iff] at h
  obtain ⟨h1, h2⟩ := h
  cases c : (b.name.toList == a.name.toList) with
  | true =>
    rw [c, Bool.true_and] at h2
    simp only [Bool.or_eq_false_iff, decide_eq_false_iff_not, beq_eq_false_iff_ne, ne_eq] at h2
    rw [beq_iff_eq] at c
    refine ⟨?_, fun _ => by omega⟩
    simp only [ltB, ltN, eqN, c, Bool.or_eq_true, Bool.and_eq_true, decide_eq_true_eq, beq_self_eq_true, true_and]
    exact .inr (by omega)
  | false =>
    refine ⟨?_, fun h => by simp [eqN, c] at h⟩
    rw [beq_eq_false_iff_ne] at c
    simp only [ltB, ltN, bl_of_not h1 (fun e => c e.symm), Bool.true_or]
theorem valid1_lt : ∀ (l : List Bd) (p : Option Bd), valid1 p l = 0 → ltS l ∧ ∀ a, p = some a → ∀ x ∈ l, ltB a x = true
  | [], _, _ => ⟨List.Pairwise.nil, fun _ _ _ h => by cases h⟩
  | b :: l, p, h => by
    rw [valid1] at h
    by_cases h1 : badB b = 0
    · rw [if_neg (by simp [h1])] at h
      split at h
      · cases h
      · rename_i h2
        obtain ⟨g1, g2⟩ := valid1_lt l (some b) h
        refine ⟨List.Pairwise.cons (fun x hx => g2 b rfl x hx) g1, fun a e x hx => ?_⟩
        subst e
        have h3 := (badP_lt (by simpa using h2)).1
        rcases List.mem_cons.1 hx with rfl | hx
        · exact h3
        · exact ltB_trans h3 (g2 b rfl x hx)
    · rw [if_pos h1] at h; exact absurd h h1
theorem validB_1 {l : List Bd} (h : validB l = 0) : valid1 none l = 0 := by
  unfold validB at h
  split at h
  · rename_i h1; exact absurd h h1
  · rename_i h1; omega
theorem lateB_not {c : Int} {l : List Bd} (h : lateB c l = false) : ∀ b ∈ l, b.frm ≤ c ∧ b.to ≤ c := by
  intro b hb
  have := List.any_eq_false.1 h b hb
  simp only [Bool.or_eq_true, decide_eq_true_eq, not_or] at this
  omega
/-- No binding of this name is open: one at a late commit has its place. -/
theorem add_side {l : List Bd} {n : ByteArray} {o c : Int} (hv : ∀ b ∈ l, badB b = 0) (hl : ∀ b ∈ l, b.frm ≤ c ∧ b.to ≤ c) (hn : ∀ b ∈ l, b.name.toList = n.toList → b.to ≠ 0) : ∀ x ∈ l, ltB x ⟨n, o, c, 0⟩ = true ∨ ltB ⟨n, o, c, 0⟩ x = true := by
  intro x hx
  simp only [ltB, ltN, eqN, Bool.or_eq_true, Bool.and_eq_true, decide_eq_true_eq, beq_iff_eq]
  rcases bl_total x.name.toList n.toList with h | h | h
  · exact .inl (.inl h)
  · have := (badB_ok (hv x hx)).2.2.2.2
    have := hl x hx
    have := hn x hx h
    exact .inl (.inr ⟨h, by omega⟩)
  · exact .inr (.inl h)
theorem any_open {l : List Bd} {n : ByteArray} {o : Int} (h : l.any (fun b => b.to == 0 && (eqN b.name n || b.obj == o)) = false) : ∀ b ∈ l, b.name.toList = n.toList → b.to ≠ 0 := by
  intro b hb hn h0
  have := List.any_eq_false.1 h b hb
  simp [h0, eqN, hn] at this
theorem bind2_none {l : List Bd} {n : ByteArray} {c : Int} (hv : ∀ b ∈ l, badB b = 0) (hl : ∀ b ∈ l, b.frm ≤ c ∧ b.to ≤ c) (hn : ∀ b ∈ l, b.name.toList = n.toList → b.to ≠ 0) : l.any (fun b => eqN b.name n && b.frm == c) = false := by
  rw [List.any_eq_false]
  intro b hb h
  simp only [eqN, Bool.and_eq_true, beq_iff_eq] at h
  have := (badB_ok (hv b hb)).2.2.2.2
  have := hl b hb
  have := hn b hb h.1
  omega
end Go.Proofs.Ytpopgpjojbngcaa
