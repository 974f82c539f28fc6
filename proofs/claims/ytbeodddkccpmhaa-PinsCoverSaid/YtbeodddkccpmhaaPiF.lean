/- Pins: plain laws of lists of pins to which pins are added. -/
import Derived.Test.YtbeodddkccpmhaaPiE
set_option linter.unusedSimpArgs false
set_option linter.unusedVariables false
namespace Go.Proofs.Ytbeodddkccpmhaa
open Go.RowKit Go.Avm
def sumP : List Pn → Int
  | [] => 0
  | p :: l => p.count + sumP l
theorem sumP_nonneg : ∀ {l : List Pn}, (∀ p ∈ l, 1 ≤ p.count) → 0 ≤ sumP l
  | [], _ => by simp [sumP]
  | p :: l, h => by
    have := h p (by simp)
    have := sumP_nonneg (fun q hq => h q (List.mem_cons_of_mem _ hq))
    simp only [sumP]; omega
theorem sumP_mem : ∀ {l : List Pn} {p : Pn}, (∀ p ∈ l, 1 ≤ p.count) → p ∈ l → p.count ≤ sumP l
  | q :: l, p, h, hp => by
    have h1 := h q (by simp)
    have h2 := sumP_nonneg (fun q hq => h q (List.mem_cons_of_mem _ hq))
    simp only [sumP]
    rcases List.mem_cons.1 hp with rfl | hp
    · omega
    · have := sumP_mem (fun q hq => h q (List.mem_cons_of_mem _ hq)) hp
      omega
theorem totalP_sum : ∀ {l : List Pn} {n : Int}, 0 ≤ n → (∀ p ∈ l, 1 ≤ p.count) → n + sumP l ≤ 1099511627776 → totalP l n = n + sumP l
  | [], n, _, _, _ => by simp [totalP, sumP]
  | p :: l, n, h0, h, hs => by
    have h1 := h p (by simp)
    have h2 := sumP_nonneg (fun q hq => h q (List.mem_cons_of_mem _ hq))
    simp only [sumP] at hs ⊢
    have hc : cap40 n p.count = n + p.count := by simp only [cap40]; omega
    unfold totalP
    rw [hc, totalP_sum (by omega) (fun q hq => h q (List.mem_cons_of_mem _ hq)) (by omega)]
    omega
theorem sumP_le : ∀ {l : List Pn}, (∀ p ∈ l, p.count ≤ 1024) → sumP l ≤ 1024 * l.length
  | [], _ => by simp [sumP]
  | p :: l, h => by
    have h1 := h p (by simp)
    have h2 := sumP_le (fun q hq => h q (List.mem_cons_of_mem _ hq))
    simp only [sumP, List.length_cons]; omega
theorem sumP_ins {c : Int} : ∀ {l : List Pn}, sumP (insGo c l) = sumP l + 1
  | [] => by simp [insGo, sumP]
  | p :: l => by
    unfold insGo
    split
    · simp only [sumP]; omega
    · split
      · simp only [sumP]; omega
      · simp only [sumP, sumP_ins (l := l)]; omega
theorem full_no {c : Int} : ∀ {l : List Pn}, (∀ p ∈ l, p.count < 1024) → fullP c l = false
  | [], _ => rfl
  | p :: l, h => by
    have h1 := h p (by simp)
    unfold fullP
    rw [if_neg (by omega)]
    exact full_no (fun q hq => h q (List.mem_cons_of_mem _ hq))
/-- A valid list of a small total: what one addition makes of it. -/
theorem add_small {l : List Pn} {c : Int} (ok : OkP l) (hs : sumP l ≤ 1000) (hc : 0 ≤ c) : addP l c = (insGo c l, 0) ∧ OkP (insGo c l) ∧ sumP (insGo c l) = sumP l + 1 ∧ remP (insGo c l) c = (l, 0) := by
  have h1 : fullP c l = false := full_no (fun p hp => by
    have := sumP_mem (fun p hp => (ok.range p hp).2.1) hp
    omega)
  have hz : validP none l = 0 := validP_of l none ok (by simp)
  have ok2 := insGo_ok hc ok h1
  have hz2 : validP none (insGo c l) = 0 := validP_of _ none ok2 (by simp)
  obtain ⟨d1, d2⟩ := del_ins (c := c) ok
  refine ⟨?_, ok2, sumP_ins, ?_⟩
  · simp [addP, hz, h1, show ¬ c < 0 by omega]
  · simp [remP, hz2, d1, d2]
theorem back_law {l : List Pn} {a b : Int} (hz : validP none l = 0) (ht : totalP l 0 ≤ 100) (hl : l.length ≤ 6) (ha : 0 ≤ a) (hb : 0 ≤ b) :
    ∃ x z, addP l a = (x, 0) ∧ remP x a = (l, 0) ∧ addP x b = (z, 0) ∧ (∃ u, addP l b = (u, 0) ∧ addP u a = (z, 0) ∧ u.length ≤ 7) ∧ totalP z 0 = totalP l 0 + 2 ∧ x.length ≤ 7 ∧ z.length ≤ 8 ∧ 0 ≤ totalP l 0 := by
  have ok := validP_ok' hz
  have h1024 := sumP_le (fun p hp => (ok.range p hp).2.2)
  have hc1 : ∀ p ∈ l, 1 ≤ p.count := fun p hp => (ok.range p hp).2.1
  have hT := totalP_sum (n := 0) (Int.le_refl _) hc1 (by omega)
  have hs : sumP l ≤ 100 := by omega
  obtain ⟨x1, x2, x3, x4⟩ := add_small ok (by omega) ha
  obtain ⟨y1, y2, y3, _⟩ := add_small x2 (by omega) hb
  obtain ⟨u1, u2, u3, _⟩ := add_small ok (by omega) hb
  obtain ⟨v1, v2, v3, _⟩ := add_small u2 (by omega) ha
  have hZ := totalP_sum (l := insGo b (insGo a l)) (n := 0) (Int.le_refl _) (fun p hp => (y2.range p hp).2.1) (by omega)
  have l1 := insGo_len a l
  have l2 := insGo_len b (insGo a l)
  have l3 := insGo_len b l
  have h0 := sumP_nonneg hc1
  exact ⟨_, _, x1, x4, y1, ⟨_, u1, by rw [v1, ins_comm], by omega⟩, by omega, by omega, by omega, by omega⟩
theorem covers_wide {f t : Int} (ht : t ≠ 0) : ∀ {l : List Pn}, coversP f t l = true → coversP f (t + 1) l = true ∧ coversP f 0 l = true
  | [], h => by simp [coversP] at h
  | p :: l, h => by
    unfold coversP at h ⊢
    split at h
    · rename_i h1
      exact ⟨by rw [if_pos (by omega)], by rw [if_pos (by omega)]⟩
    · obtain ⟨h2, h3⟩ := covers_wide ht h
      constructor <;> split <;> first | rfl | assumption
theorem addP_zero {l : List Pn} {c : Int} (h : (addP l c).2 = 0) : (addP l c).1 = insGo c l := by
  unfold addP at h ⊢
  split at h
  · simp only at h; contradiction
  · split at h
    · simp at h
    · split at h
      · simp at h
      · rename_i h1 h2 h3; simp [h1, h2, h3]
end Go.Proofs.Ytbeodddkccpmhaa
