/- The abstract machine, part T: saying less: nil is an empty slice by value; states that say less; loops by what has turned. -/
import Derived.Test.YtpopgpjojbngcaaAvmS
namespace Go.Avm
set_option linter.unusedVariables false
set_option linter.unusedSimpArgs false
open Go.RowKit

/-- Heaps of the same names that say less. -/
inductive LeH : List (Nat × Obj) → List (Nat × Obj) → Prop
  | nil : LeH [] []
  | cons {o : Nat} {x y : Obj} {h k : List (Nat × Obj)} : LeO x y → LeH h k → LeH ((o, x) :: h) ((o, y) :: k)
theorem LeH.refl : ∀ h : List (Nat × Obj), LeH h h
  | [] => .nil
  | (_, x) :: h => .cons (.refl x) (LeH.refl h)
theorem LeH.get : ∀ {h k : List (Nat × Obj)} (o : Nat), LeH h k → LeO (hget h o) (hget k o)
  | _, _, _, .nil => .refl _
  | _, _, o, .cons (o := p) h1 h2 => by
    by_cases e : p = o
    · simpa [hget, e] using h1
    · simpa [hget, e] using LeH.get o h2
theorem RelAt.le {w0 : World} {p : Pm} {σ σ' : St} {a : Act} {w : World} {ρ : Nat → Option (Option Nat)} (h : RelAt w0 p σ a w ρ) (hs : LeL σ.slots σ'.slots) (hh : LeH σ.heap σ'.heap) : RelAt w0 p σ' a w ρ := by
  have hl : ∀ o, hget σ'.heap o ≠ .dead → hget σ.heap o ≠ .dead := fun o ho => (hh.get o).live ho
  have hst : ∀ g, stab p σ.heap ρ w g → stab p σ'.heap ρ w g := fun g hg => ⟨hg.1, hg.2.1, fun o ho => hg.2.2 o (hl o ho)⟩
  exact ⟨h.open_, h.defers, RL.le hs (RL.mono (fun _ _ _ => rfl) (fun _ _ hh => hh) hst h.slots), fun o => RO.le (hh.get o) (RO.mono (fun _ _ _ => rfl) (fun _ _ hh => hh) hst (fun _ _ => rfl) (h.objs o)),
    fun o o' g h1 h2 => h.inj o o' g (hl o h1) (hl o' h2), fun o g h1 => h.fresh o g (hl o h1), h.below, h.pin⟩
theorem Imp.le {σ σ' : St} (hs : LeL σ.slots σ'.slots) (hh : LeH σ.heap σ'.heap) : Imp σ σ' := fun _ _ _ _ ⟨ρ, h⟩ => ⟨ρ, h.le hs hh⟩
theorem Imp.les {s t : List D} {h k : List (Nat × Obj)} (hs : LeL s t) (hh : LeH h k) : Imp { slots := s, heap := h } { slots := t, heap := k } := Imp.le hs hh

/-- Slots by a list of places. -/
def setL : List (Nat × D) → List D → List D
  | [], s => s
  | (i, d) :: l, s => setL l (s.set i d)
def setH : List (Nat × Obj) → List (Nat × Obj) → List (Nat × Obj)
  | [], h => h
  | (o, x) :: l, h => setH l (hset h o x)
theorem LeD.int_ {k : IntKind} {a b : Int} (h : a = b) : LeD (.sc (.int k a)) (.sc (.int k b)) := by subst h; exact .refl _
theorem LeD.slo_ {o k off n m : Nat} (h : n = m) : LeD (.slo o k off n) (.slo o k off m) := by subst h; exact .refl _
theorem LeD.sl_ {k : Nat} {a b : List (List D)} (h : a = b) : LeD (.sl k a) (.sl k b) := by subst h; exact .refl _
theorem LeD.str_ {a b : ByteArray} (h : a = b) : LeD (.sc (.string a)) (.sc (.string b)) := by subst h; exact .refl _
theorem LeR.of_eq {a b : List (List D)} (h : a = b) : LeR a b := by subst h; exact LeR.refl _
theorem LeD.bool_ {a b : Bool} (h : a = b) : LeD (.sc (.bool a)) (.sc (.bool b)) := by subst h; exact .refl _
/-- What must hold at the ends of a loop's round: at its end N, else as ever. -/
def loopQ (N : St → Prop) (Q : Exit → St → Prop) : Exit → St → Prop
  | .normal, σ => N σ
  | e, σ => Q e σ
/-- A loop, by what turns in it: the state at a round's head is the state ahead of the loop, but for the places of l. -/
theorem Tri.loopU {P : Program} {Q : Exit → St → Prop} {s : List D} {h : List (Nat × Obj)} {τ : Type} {c : Code} (l : τ → List (Nat × D)) (m : τ → List (Nat × Obj)) (I : τ → Prop) (μ : τ → Nat) (t0 : τ) (h0 : I t0)
    {s' : τ → List D} {h' : τ → List (Nat × Obj)} (es : ∀ t, setL (l t) s = s' t) (eh : ∀ t, setH (m t) h = h' t) (hs : LeL s (s' t0)) (hh : LeH h (h' t0))
    (hb : ∀ t, I t → Tri P c (loopQ (fun σ' => ∃ t', I t' ∧ μ t' < μ t ∧ LeL σ'.slots (s' t') ∧ LeH σ'.heap (h' t')) Q) { slots := s' t, heap := h' t }) : Tri P (.loop c) Q { slots := s, heap := h } := by
  refine Tri.loop (fun t => { slots := s' t, heap := h' t }) I μ t0 h0 (Imp.les hs hh) (fun t ht => Tri.mono (hb t ht) ?_)
  intro e σ' hq
  cases e with
  | normal =>
    obtain ⟨t', h1, h2, h3, h4⟩ := hq
    exact ⟨t', h1, h2, Imp.le h3 h4⟩
  | _ => exact hq

theorem MCalls.le {P : Program} {f : FuncId} {ins : List Obj} {args : List D} {ret ret' : D} {outs outs' : List Obj} (h : MCalls P f ins args ret outs) (hr : LeD ret ret') (ho : ∀ j, LeO (outs.getD j .dead) (outs'.getD j .dead)) : MCalls P f ins args ret' outs' := by
  refine ⟨h.call, fun w st ρ vs hst hin hvs => (h.run w st ρ vs hst hin hvs).mono ?_⟩
  rintro e w' ⟨v, rfl, ρ', hb⟩
  have hs : ∀ g, stO w w' st (ownI ins ρ) ρ' outs g → stO w w' st (ownI ins ρ) ρ' outs' g := fun g hg => ⟨hg.1, fun j hj => hg.2 j ((ho j).live hj)⟩
  exact ⟨v, rfl, ρ', ⟨hb.below, hb.keep, R.le hr (R.mono (fun _ _ _ => rfl) (fun _ _ hh => hh) hs hb.ret), fun j => RO.le (ho j) (RO.mono (fun _ _ _ => rfl) (fun _ _ hh => hh) hs (fun _ _ => rfl) (hb.objs j)),
    fun j g hj => hb.fresh j g ((ho j).live hj), fun j j' g hj hj' => hb.inj j j' g ((ho j).live hj) ((ho j').live hj')⟩⟩
/-- Arguments that say more. -/
theorem MCalls.args {P : Program} {f : FuncId} {ins : List Obj} {args args' : List D} {ret : D} {outs : List Obj} (h : MCalls P f ins args ret outs) (ha : LeL args' args) : MCalls P f ins args' ret outs :=
  ⟨h.call, fun w st ρ vs hst hin hvs => h.run w st ρ vs hst hin (RL.le ha hvs)⟩
end Go.Avm
