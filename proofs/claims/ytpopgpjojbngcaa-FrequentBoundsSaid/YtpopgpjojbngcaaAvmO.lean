/- The abstract machine, part O: results that hang on nothing that was lent. -/
import Derived.Test.YtpopgpjojbngcaaAvmN
namespace Go.Avm
set_option linter.unusedVariables false
set_option linter.unusedSimpArgs false
open Go.RowKit

mutual
def flatD : D → Bool
  | .any | .sc _ | .ref _ _ | .elt _ _ _ _ | .slo _ _ _ _ => true
  | .agg cs | .tup cs | .fn _ cs => flatL cs
  | .sl _ rows => rows.isEmpty
  | .ro _ => false
def flatL : List D → Bool
  | [] => true
  | d :: ds => flatD d && flatL ds
end
mutual
theorem flatD_spec {w : World} {st st' : Nat → Prop} {ρ : Nat → Option (Option Nat)} : ∀ {d : D} {v : Value}, flatD d = true → R w st ρ d v → R w st' ρ d v
  | .any, _, _, _ => by simp [R]
  | .sc _, _, _, h => by simpa [R] using h
  | .ref _ _, _, _, h => by simpa [R] using h
  | .elt _ _ _ _, _, _, h => by simpa [R] using h
  | .slo _ _ _ _, _, _, h => by simpa [R] using h
  | .agg _, _, hf, h => by
    simp only [R] at h ⊢
    obtain ⟨vs, h1, h2⟩ := h
    exact ⟨vs, h1, flatL_spec (by simpa [flatD] using hf) h2⟩
  | .tup _, _, hf, h => by
    simp only [R] at h ⊢
    obtain ⟨vs, h1, h2⟩ := h
    exact ⟨vs, h1, flatL_spec (by simpa [flatD] using hf) h2⟩
  | .fn _ _, _, hf, h => by
    simp only [R] at h ⊢
    obtain ⟨vs, h1, h2⟩ := h
    exact ⟨vs, h1, flatL_spec (by simpa [flatD] using hf) h2⟩
  | .sl _ rows, _, hf, h => by
    simp only [R] at h ⊢
    obtain ⟨a, c, h1, h2, h3, h4⟩ := h
    have : rows = [] := by simpa [flatD] using hf
    exact ⟨a, c, h1, h2, h3, .inl this⟩
  | .ro _, _, hf, _ => by simp [flatD] at hf
theorem flatL_spec {w : World} {st st' : Nat → Prop} {ρ : Nat → Option (Option Nat)} : ∀ {ds : List D} {vs : List Value}, flatL ds = true → RL w st ρ ds vs → RL w st' ρ ds vs
  | [], _, _, h => by simpa [RL] using h
  | d :: ds, _, hf, h => by
    simp only [flatL, Bool.and_eq_true] at hf
    simp only [RL] at h ⊢
    obtain ⟨v, vs', h1, h2, h3⟩ := h
    exact ⟨v, vs', h1, flatD_spec hf.1 h2, flatL_spec hf.2 h3⟩
end
theorem flatC_spec {w : World} {st st' : Nat → Prop} {g : Nat} : ∀ {cs : List D} {off : Nat}, flatL cs = true → RC w st g off cs → RC w st' g off cs
  | [], _, _, h => by simp [RC]
  | d :: ds, _, hf, h => by
    simp only [flatL, Bool.and_eq_true] at hf
    simp only [RC] at h ⊢
    obtain ⟨⟨v, h1, h2, h3⟩, h4⟩ := h
    exact ⟨⟨v, h1, h2, flatD_spec hf.1 h3⟩, flatC_spec hf.2 h4⟩
theorem flatR_spec {w : World} {st st' : Nat → Prop} {k g : Nat} : ∀ {rows : List (List D)} {off : Nat}, rows.all flatL = true → RR w st k g off rows → RR w st' k g off rows
  | [], _, _, h => by simp [RR]
  | r :: rs, _, hf, h => by
    simp only [List.all_cons, Bool.and_eq_true] at hf
    simp only [RR] at h ⊢
    exact ⟨h.1, flatC_spec hf.1 h.2.1, flatR_spec hf.2 h.2.2⟩
def flatO : Obj → Bool
  | .dead => true
  | .row _ rows => rows.all flatL
  | .box cs => flatL cs
  | .ext _ => false
theorem flat_of {ret : D} {outs : List Obj} (h : flatD ret = true) (ho : outs.all flatO = true) : Flat ret outs := by
  refine ⟨fun _ _ _ _ _ hr => flatD_spec h hr, fun x hm w st st' ρ j hr => ?_⟩
  have hf : flatO x = true := List.all_eq_true.1 ho x hm
  cases x with
  | dead => simp [RO]
  | row k rows =>
    simp only [RO] at hr ⊢
    split at hr
    · exact hr
    · exact hr
    · obtain ⟨cur, e, cap, r1, r2, r3, r4, r5⟩ := hr
      exact ⟨cur, e, cap, r1, r2, r3, r4, flatR_spec hf r5⟩
  | box cs =>
    simp only [RO] at hr ⊢
    obtain ⟨g, cur, e, r1, r2, r3⟩ := hr
    exact ⟨g, cur, e, r1, r2, flatL_spec hf r3⟩
  | ext e => simp [flatO] at hf
theorem flat_rows {α : Type} (f : α → List D) (h : ∀ x, flatL (f x) = true) (l : List α) : (l.map f).all flatL = true := by
  simp [List.all_eq_true, h]
end Go.Avm
