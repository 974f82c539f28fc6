/- Pins: the place of a commit; what Add and Remove make of a valid list (plain lemmas). -/
import Derived.Test.YtmgodadmafcliaaZPiA
set_option linter.unusedSimpArgs false
set_option linter.unusedVariables false
namespace Go.Proofs.Ytmgodadmafcliaa
open Go.RowKit Go.Avm
structure OkP (l : List Pn) : Prop where
  range : ∀ p ∈ l, 0 ≤ p.commit ∧ 1 ≤ p.count ∧ p.count ≤ 1024
  asc : l.Pairwise (fun a b => a.commit < b.commit)
theorem validP_ok : ∀ (l : List Pn) (prev : Option Pn), validP prev l = 0 → OkP l ∧ ∀ q, prev = some q → ∀ p ∈ l, q.commit < p.commit
  | [], _, _ => ⟨⟨by simp, List.Pairwise.nil⟩, by simp⟩
  | v :: l, prev, h => by
    unfold validP at h
    split at h
    · omega
    · rename_i hr
      have key : validP (some v) l = 0 ∧ ∀ q, prev = some q → q.commit < v.commit := by
        cases prev with
        | none => exact ⟨by simpa using h, by simp⟩
        | some q =>
          simp only at h
          split at h
          · omega
          · exact ⟨h, fun q' e => by cases e; omega⟩
      obtain ⟨hl, hq⟩ := validP_ok l (some v) key.1
      refine ⟨⟨fun p hp => ?_, List.Pairwise.cons (fun p hp => hq v rfl p hp) hl.asc⟩, fun q e p hp => ?_⟩
      · rcases List.mem_cons.1 hp with rfl | hp
        · omega
        · exact hl.range p hp
      · have h1 := key.2 q e
        rcases List.mem_cons.1 hp with rfl | hp
        · exact h1
        · exact Int.lt_trans h1 (hq v rfl p hp)
theorem validP_ok' {l : List Pn} (h : validP none l = 0) : OkP l := (validP_ok l none h).1
theorem OkP.tail {p : Pn} {l : List Pn} (h : OkP (p :: l)) : OkP l ∧ ∀ q ∈ l, p.commit < q.commit := by
  have := h.asc
  rw [List.pairwise_cons] at this
  exact ⟨⟨fun q hq => h.range q (List.mem_cons_of_mem _ hq), this.2⟩, this.1⟩
def placeP (c : Int) : List Pn → Nat
  | [] => 0
  | p :: l => if p.commit < c then placeP c l + 1 else 0
def insGo (c : Int) : List Pn → List Pn
  | [] => [⟨c, 1⟩]
  | p :: l => if c < p.commit then ⟨c, 1⟩ :: p :: l else if p.commit = c then ⟨p.commit, p.count + 1⟩ :: l else p :: insGo c l
def fullP (c : Int) : List Pn → Bool
  | [] => false
  | p :: l => if p.commit = c ∧ p.count = 1024 then true else fullP c l
def addP (l : List Pn) (c : Int) : List Pn × Int :=
  if validP none l ≠ 0 then ([], validP none l) else if c < 0 then ([], 5) else if fullP c l then ([], 14) else (insGo c l, 0)
def hasP (c : Int) : List Pn → Bool
  | [] => false
  | p :: l => if p.commit = c then true else hasP c l
def delGo (c : Int) : List Pn → List Pn
  | [] => []
  | p :: l => if p.commit = c then (if p.count - 1 > 0 then ⟨p.commit, p.count - 1⟩ :: delGo c l else delGo c l) else if p.count > 0 then p :: delGo c l else delGo c l
def remP (l : List Pn) (c : Int) : List Pn × Int :=
  if validP none l ≠ 0 then ([], validP none l) else if hasP c l then (delGo c l, 0) else ([], 8)
end Go.Proofs.Ytmgodadmafcliaa
