/- The abstract machine, part L: regions that draw their order and only read, but for a tail. -/
import Derived.Test.YtpopgpjojbngcaaAvmK
import Derived.StillTail
namespace Go.Avm
set_option linter.unusedVariables false
set_option linter.unusedSimpArgs false
open Go.RowKit

theorem still_of_run {P : Program} {all : Array Oper} {w0 : World} {p : Pm} {w : World} {ρ : Nat → Option (Option Nat)} {K : Act → Prop} : ∀ {l : List Oper} {σ σ' : St} {a : Act}, arun P all l σ = some σ' → RelAt w0 p σ a w ρ →
    (∀ a', RelAt w0 p σ' a' w ρ → K a') → wpStill P all w K l a
  | [], σ, σ', a, h, hr, hK => by
    simp only [arun, Option.some.injEq] at h
    subst h
    exact hK a hr
  | o :: l, σ, σ', a, h, hr, hK => by
    simp only [arun, Option.bind_eq_some_iff] at h
    obtain ⟨σ1, h1, h2⟩ := h
    simp only [Avm.astep, Option.bind_eq_some_iff] at h1
    obtain ⟨g, hg, h1⟩ := h1
    have hwant : Region.wanted o (yielded all a.tmps) = g := aguard_wanted hg ⟨ρ, hr⟩
    unfold wpStill
    rw [hwant]
    cases g
    · simp only [Bool.false_eq_true, if_false, Option.some.injEq] at h1 ⊢
      subst h1
      exact still_of_run h2 (hr.put o.dst (by simp [R])) hK
    · simp only [if_true, Option.map_eq_some_iff] at h1 ⊢
      obtain ⟨d, hd, rfl⟩ := h1
      obtain ⟨v, hv, hR⟩ := aval_sound hd w0 p a w ρ o rfl hr
      unfold Oper.still
      rw [hv, Oper.stillUpon_value]
      exact still_of_run h2 (hr.put o.dst hR) hK

theorem Tri.drawn {P : Program} {id : Nat} {l : List Oper} {Q : Exit → St → Prop} {σ σ' : St} (hm : P.follows .mixedOrders = true) (hB : Region.lexB .any l.toArray = true) (h : arun P l.toArray l σ = some σ') (hn : Q .normal σ') :
    Tri P (.region id l.toArray true) Q σ := by
  rintro w0 p a w ⟨ρ, hr⟩
  exact wp_region_still_lit hm hB (still_of_run h hr.drew fun a' hr' => ⟨σ', hn, ρ, hr'⟩)
theorem Tri.drawnTail {P : Program} {id : Nat} {l : List Oper} {Q : Exit → St → Prop} {σ σ1 : St} (n : Nat) (hm : P.follows .mixedOrders = true) (hB : Region.lexTailB .any l.toArray n = true) (h : arun P l.toArray (l.take n) σ = some σ1)
    (ht : TriL P l.toArray Q (l.drop n) σ1) : Tri P (.region id l.toArray true) Q σ := by
  rintro w0 p a w ⟨ρ, hr⟩
  exact wp_region_still_tail n hm hB (still_of_run h hr.drew fun a' hr' => ht w0 p a' _ ⟨ρ, hr'⟩)

theorem TriL.runN {P : Program} {all : Array Oper} {Q : Exit → St → Prop} {l : List Oper} {σ σ' : St} (n : Nat) (h : arun P all (l.take n) σ = some σ') (hn : TriL P all Q (l.drop n) σ') : TriL P all Q l σ := by
  have := TriL.run h hn
  rwa [List.take_append_drop] at this
theorem TriL.done {P : Program} {all : Array Oper} {Q : Exit → St → Prop} {l : List Oper} {σ σ' : St} (h : arun P all l σ = some σ') (hn : Q .normal σ') : TriL P all Q l σ := by
  have := TriL.run (l2 := []) h (TriL.nil hn)
  rwa [List.append_nil] at this
theorem Imp.to {σ σ' : St} (bs : List Bool) (h : ({ σ with slots := maskL bs σ.slots } : St) = σ') : ∀ w0 p a w, Rel w0 p σ a w → Rel w0 p σ' a w := by
  intro w0 p a w hr
  rw [← h]
  exact Imp.mask σ bs w0 p a w hr
theorem pr_min {P : Program} {ts : Array TypeId} {ty : TypeId} {k k' : IntKind} {x y : Int} : pureRun P (Builtin.min_ ts ty [Value.int k x, Value.int k' y].toArray) = some (.int k (if y < x then y else x)) := rfl
theorem pr_max {P : Program} {ts : Array TypeId} {ty : TypeId} {k k' : IntKind} {x y : Int} : pureRun P (Builtin.max_ ts ty [Value.int k x, Value.int k' y].toArray) = some (.int k (if x < y then y else x)) := rfl
end Go.Avm
