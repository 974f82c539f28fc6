/- The abstract machine, part E: how a state lasts when the world goes on: draws, new blocks, stores, calls. -/
import Derived.Test.YtpopgpjojbngcaaAvmD
namespace Go.Avm
set_option linter.unusedVariables false
set_option linter.unusedSimpArgs false
open Go.RowKit

def oneD : D → Bool
  | .sc v => v.oneCell'
  | .any | .agg _ | .tup _ => false
  | _ => true
theorem oneD_spec {w : World} {st : Nat → Prop} {ρ : Nat → Option (Option Nat)} {d : D} {v : Value} (h : oneD d = true) (hr : R w st ρ d v) : v.oneCell' = true ∧ v.cells = #[v] := by
  cases d <;> simp only [oneD, reduceCtorEq] at h
  case sc u => simp only [R] at hr; subst hr; cases v <;> simp_all [Value.oneCell', Value.cells]
  case sl => simp only [R] at hr; obtain ⟨a, c, rfl, _⟩ := hr; exact ⟨rfl, rfl⟩
  case ro => simp only [R] at hr; obtain ⟨a, c, rfl, _⟩ := hr; exact ⟨rfl, rfl⟩
  case ref => simp only [R] at hr; obtain ⟨a, _, rfl⟩ := hr; exact ⟨rfl, rfl⟩
  case elt => simp only [R] at hr; obtain ⟨a, _, rfl⟩ := hr; exact ⟨rfl, rfl⟩
  case slo =>
    simp only [R] at hr
    rcases hr with ⟨_, _, _, A, rfl⟩ | ⟨g, cap, A, _, _, _, _, rfl, _⟩ <;> exact ⟨rfl, rfl⟩
  case fn => simp only [R] at hr; obtain ⟨vs, rfl, _⟩ := hr; exact ⟨rfl, rfl⟩

/-- The cells of a value that is stored. -/
def cellsD : D → Option (List D)
  | .agg cs => if cs.all oneD then some cs else none
  | d => if oneD d then some [d] else none
theorem RL_one {w : World} {st : Nat → Prop} {ρ : Nat → Option (Option Nat)} : ∀ {ds : List D} {vs : List Value}, ds.all oneD = true → RL w st ρ ds vs → ∀ v ∈ vs, v.oneCell' = true
  | [], _, _, h => by simp only [RL] at h; simp [h]
  | d :: ds, _, h1, h => by
    simp only [RL] at h
    obtain ⟨v, vs', rfl, h2, h3⟩ := h
    simp only [List.all_cons, Bool.and_eq_true] at h1
    intro u hu
    cases List.mem_cons.1 hu with
    | inl e => subst e; exact (oneD_spec h1.1 h2).1
    | inr e => exact RL_one h1.2 h3 u e
theorem cellsD_spec {w : World} {st : Nat → Prop} {ρ : Nat → Option (Option Nat)} {d : D} {v : Value} {cs : List D} (h : cellsD d = some cs) (hr : R w st ρ d v) :
    RL w st ρ cs v.cells.toList ∧ ∀ u ∈ v.cells.toList, u.oneCell' = true := by
  have one : oneD d = true → cs = [d] → RL w st ρ cs v.cells.toList ∧ ∀ u ∈ v.cells.toList, u.oneCell' = true := by
    rintro h1 rfl
    obtain ⟨h2, h3⟩ := oneD_spec h1 hr
    rw [h3]
    exact ⟨by simp only [RL]; exact ⟨v, [], rfl, hr, rfl⟩, by simpa using h2⟩
  cases d
  case agg cs' =>
    simp only [cellsD] at h
    split at h
    · rename_i h1
      simp only [Option.some.injEq] at h
      subst h
      simp only [R] at hr
      obtain ⟨vs, rfl, h2⟩ := hr
      exact ⟨h2, RL_one h1 h2⟩
    · cases h
  all_goals
    simp only [cellsD] at h
    split at h
    · rename_i h1
      simp only [Option.some.injEq] at h
      exact one h1 h.symm
    · cases h

mutual
/-- No name of an object in it. -/
def pureD : D → Bool
  | .sc _ | .sl _ _ | .ro _ => true
  | .agg cs | .tup cs | .fn _ cs => pureL cs
  | _ => false
def pureL : List D → Bool
  | [] => true
  | d :: ds => pureD d && pureL ds
end
mutual
theorem pureD_spec {w : World} {st : Nat → Prop} {ρ ρ' : Nat → Option (Option Nat)} : ∀ {d : D} {v : Value}, pureD d = true → R w st ρ d v → R w st ρ' d v
  | .sc _, _, _, hr | .sl _ _, _, _, hr | .ro _, _, _, hr => by simpa [R] using hr
  | .agg _, _, h, hr | .tup _, _, h, hr | .fn _ _, _, h, hr => by
    simp only [pureD] at h
    simp only [R] at hr ⊢
    obtain ⟨vs, h1, h2⟩ := hr
    exact ⟨vs, h1, pureL_spec h h2⟩
  | .any, _, h, _ | .ref .., _, h, _ | .elt .., _, h, _ | .slo .., _, h, _ => by simp [pureD] at h
theorem pureL_spec {w : World} {st : Nat → Prop} {ρ ρ' : Nat → Option (Option Nat)} : ∀ {ds : List D} {vs : List Value}, pureL ds = true → RL w st ρ ds vs → RL w st ρ' ds vs
  | [], _, _, hr => by simpa [RL] using hr
  | d :: ds, _, h, hr => by
    simp only [pureL, Bool.and_eq_true] at h
    simp only [RL] at hr ⊢
    obtain ⟨v, vs', h1, h2, h3⟩ := hr
    exact ⟨v, vs', h1, pureD_spec h.1 h2, pureL_spec h.2 h3⟩
end

theorem RO.mono {w w' : World} {st st' : Nat → Prop} {ρ : Nat → Option (Option Nat)} {o : Nat} {x : Obj} (hc : ∀ g off, st g → w'.cell? ⟨g, off, none⟩ = w.cell? ⟨g, off, none⟩)
    (hs : ∀ g n, Sh w g n → Sh w' g n) (hst : ∀ g, st g → st' g) (hb : ∀ g, ρ o = some (some g) → w'.heap[g]? = w.heap[g]?) (h : RO w st ρ o x) : RO w' st' ρ o x := by
  cases x with
  | dead => simp [RO]
  | row k rows =>
    simp only [RO] at h ⊢
    split at h
    · exact h
    · exact h
    · rename_i g hg
      obtain ⟨cur, e, cap, h1, h2, h3, h4, h5⟩ := h
      have hbg := hb g hg
      exact ⟨cur, e, cap, hbg.trans h1, h2, h3, h4, RR.mono hc hs hst (fun off => World.cell?_of_block (w := w) (a := ⟨g, off, none⟩) hbg) h5⟩
  | box cs =>
    simp only [RO] at h ⊢
    obtain ⟨g, cur, e, h1, h2, h3⟩ := h
    exact ⟨g, cur, e, h1, (hb g h1).trans h2, RL.mono hc hs hst h3⟩
  | ext e =>
    simp only [RO] at h ⊢
    obtain ⟨g, h1, h2⟩ := h
    exact ⟨g, h1, e.mono hc hs hst (hb g h1) h2⟩

theorem RO.lt {w : World} {st : Nat → Prop} {ρ : Nat → Option (Option Nat)} {o g : Nat} {x : Obj} (h : RO w st ρ o x) (hx : x ≠ .dead) (hg : ρ o = some (some g)) : g < w.heap.size := by
  cases x with
  | dead => exact absurd rfl hx
  | row k rows =>
    simp only [RO, hg] at h
    obtain ⟨cur, e, cap, h1, _⟩ := h
    exact (Array.getElem?_eq_some_iff.1 h1).1
  | box cs =>
    simp only [RO] at h
    obtain ⟨g', cur, e, h1, h2, h3⟩ := h
    rw [hg] at h1
    simp only [Option.some.injEq] at h1
    subst h1
    exact (Array.getElem?_eq_some_iff.1 h2).1
  | ext e =>
    simp only [RO] at h
    obtain ⟨g', h1, h2⟩ := h
    rw [hg] at h1
    simp only [Option.some.injEq] at h1
    subst h1
    exact e.lt h2

section
variable {w0 : World} {p : Pm} {σ : St} {a : Act} {w : World} {ρ : Nat → Option (Option Nat)}

theorem Sh_of_block {w w' : World} {g n : Nat} (h : w'.heap[g]? = w.heap[g]?) (hs : Sh w g n) : Sh w' g n := by
  obtain ⟨cur, e, h1, h2⟩ := hs
  exact ⟨cur, e, h.trans h1, h2⟩

/-- The world goes on: nothing that was there has turned. -/
theorem RelAt.below_ (h : RelAt w0 p σ a w ρ) {w' : World} (hb : Below w.heap.size w w') : RelAt w0 p σ a w' ρ := by
  have hc : ∀ g off, stab p σ.heap ρ w g → w'.cell? ⟨g, off, none⟩ = w.cell? ⟨g, off, none⟩ := fun g off hg => hb.cell (p := ⟨g, off, none⟩) hg.2.1
  have hs : ∀ g n, Sh w g n → Sh w' g n := fun g n hh => Sh_of_block (hb.block g hh.lt) hh
  have hst : ∀ g, stab p σ.heap ρ w g → stab p σ.heap ρ w' g := fun g hg => ⟨hg.1, Nat.lt_of_lt_of_le hg.2.1 hb.size, hg.2.2⟩
  refine ⟨h.open_, h.defers, RL.mono hc hs hst h.slots, fun o => ?_, h.inj, h.fresh, h.below.trans (BelowO.of_below (own := p.own) hb) (fun _ _ e => e), h.pin⟩
  by_cases hd : hget σ.heap o = .dead
  · rw [hd]; simp [RO]
  · exact RO.mono hc hs hst (fun g hg => hb.block g ((h.objs o).lt hd hg)) (h.objs o)
theorem RelAt.drew (h : RelAt w0 p σ a w ρ) : RelAt w0 p σ a w.drew ρ := h.below_ (Below.refl _ _).drew

/-- Object o is given up, and its name may name something else. -/
def St.kill (σ : St) (o : Nat) : St := { slots := clrL o σ.slots, heap := hset (hclr o σ.heap) o .dead }
theorem hget_kill (o o' : Nat) : hget (σ.kill o).heap o' = if o' = o then .dead else (hget σ.heap o').clr o := by
  unfold St.kill
  by_cases e : o' = o
  · subst e
    rw [if_pos rfl]
    by_cases hh : hhas σ.heap o' = true
    · exact hget_hset_same (by rw [hhas_hclr]; exact hh)
    · have : ∀ (h : List (Nat × Obj)) (y : Obj), hhas h o' = false → hget (hset h o' y) o' = .dead := by
        intro h
        induction h with
        | nil => intro y _; simp [hset, hget]
        | cons q h ih =>
          intro y hn
          obtain ⟨q, x⟩ := q
          by_cases e : q = o'
          · simp [hhas, e] at hn
          · simp only [hhas, e, if_false] at hn
            simp [hset, hget, e, ih y hn]
      exact this _ _ (by rw [hhas_hclr]; simpa using hh)
  · rw [if_neg e, hget_hset_other e, hget_hclr]
theorem Obj.clr_dead {x : Obj} {o : Nat} : x.clr o ≠ .dead ↔ x ≠ .dead := by cases x <;> simp [Obj.clr]
theorem RO.clr {st : Nat → Prop} {ρ' : Nat → Option (Option Nat)} {o o' : Nat} {x : Obj} (h : ∀ o', o' ≠ o → ρ' o' = ρ o') (hne : o' ≠ o) (hx : RO w st ρ o' x) : RO w st ρ' o' (x.clr o) := by
  cases x with
  | dead => simp [RO, Obj.clr]
  | row k rows => simp only [RO, Obj.clr, h o' hne] at hx ⊢; exact hx
  | box cs =>
    simp only [RO, Obj.clr, h o' hne] at hx ⊢
    obtain ⟨g, cur, e, h1, h2, h3⟩ := hx
    exact ⟨g, cur, e, h1, h2, RL.clr h h3⟩
  | ext e => simp only [RO, Obj.clr, h o' hne] at hx ⊢; exact hx
theorem RelAt.kill (h : RelAt w0 p σ a w ρ) (o : Nat) {ρ' : Nat → Option (Option Nat)} (hρ : ∀ o', o' ≠ o → ρ' o' = ρ o') (hp : 1000 ≤ o → ρ' o = ρ o) : RelAt w0 p (σ.kill o) a w ρ' := by
  have hst : ∀ g, stab p σ.heap ρ w g → stab p (σ.kill o).heap ρ' w g := by
    intro g hg
    refine ⟨hg.1, hg.2.1, fun o' ho' => ?_⟩
    rw [hget_kill] at ho'
    by_cases e : o' = o
    · simp [e] at ho'
    · rw [if_neg e, Obj.clr_dead] at ho'
      rw [hρ o' e]; exact hg.2.2 o' ho'
  have live : ∀ o', hget (σ.kill o).heap o' ≠ .dead → o' ≠ o ∧ hget σ.heap o' ≠ .dead := by
    intro o' ho'
    rw [hget_kill] at ho'
    by_cases e : o' = o
    · simp [e] at ho'
    · rw [if_neg e, Obj.clr_dead] at ho'; exact ⟨e, ho'⟩
  refine ⟨h.open_, h.defers, RL.mono (fun _ _ _ => rfl) (fun _ _ hh => hh) hst (RL.clr hρ h.slots), fun o' => ?_, fun o1 o2 g h1 h2 e1 e2 => ?_, fun o1 g h1 e1 => ?_, h.below, ?_⟩
  · rw [hget_kill]
    by_cases e : o' = o
    · simp [e, RO]
    · rw [if_neg e]
      exact RO.mono (fun _ _ _ => rfl) (fun _ _ hh => hh) hst (fun _ _ => rfl) (RO.clr hρ e (h.objs o'))
  · obtain ⟨n1, l1⟩ := live o1 h1
    obtain ⟨n2, l2⟩ := live o2 h2
    rw [hρ o1 n1] at e1
    rw [hρ o2 n2] at e2
    exact h.inj o1 o2 g l1 l2 e1 e2
  · obtain ⟨n1, l1⟩ := live o1 h1
    rw [hρ o1 n1] at e1
    exact h.fresh o1 g l1 e1
  · intro o1 h1
    by_cases e : o1 = o
    · subst e; rw [hp h1]; exact h.pin _ h1
    · rw [hρ o1 e]; exact h.pin _ h1

/-- The world goes on; new objects get their names (N). -/
theorem RelAt.borns (h : RelAt w0 p σ a w ρ) {heap' : List (Nat × Obj)} {w' : World} (N : Nat → Prop)
    (hold : ∀ o, ¬ N o → hget heap' o = hget σ.heap o) (hdead : ∀ o, N o → hget σ.heap o = .dead)
    (hnew : ∀ o g, N o → hget heap' o ≠ .dead → ρ o = some (some g) → ¬ stab p σ.heap ρ w g ∧ (∀ o', hget σ.heap o' ≠ .dead → ρ o' ≠ some (some g)) ∧ (w0.heap.size ≤ g ∨ p.own g))
    (hinj : ∀ o o' g, N o → N o' → hget heap' o ≠ .dead → hget heap' o' ≠ .dead → ρ o = some (some g) → ρ o' = some (some g) → o = o')
    (hw : ∀ g, g < w.heap.size → (∀ o, N o → hget heap' o ≠ .dead → ρ o ≠ some (some g)) → w'.heap[g]? = w.heap[g]?) (hs : ∀ g n, Sh w g n → Sh w' g n) (hsz : w.heap.size ≤ w'.heap.size) (hos : w'.os = w.os) (htp : w'.tape = w.tape) (hout : w'.output = w.output)
    (hx : ∀ o, N o → ∀ st : Nat → Prop, (∀ g, stab p σ.heap ρ w g → st g) → (∀ g, w.heap.size ≤ g → g < w'.heap.size → (∀ o, N o → hget heap' o ≠ .dead → ρ o ≠ some (some g)) → st g) → RO w' st ρ o (hget heap' o)) :
    RelAt w0 p { σ with heap := heap' } a w' ρ := by
  have hnd : ∀ g, stab p σ.heap ρ w g → ∀ o, N o → hget heap' o ≠ .dead → ρ o ≠ some (some g) := fun g hg o ho hl e => (hnew o g ho hl e).1 hg
  have hc : ∀ g off, stab p σ.heap ρ w g → w'.cell? ⟨g, off, none⟩ = w.cell? ⟨g, off, none⟩ := fun g off hg => World.cell?_of_block (w := w) (a := ⟨g, off, none⟩) (hw g hg.2.1 (hnd g hg))
  have hst : ∀ g, stab p σ.heap ρ w g → stab p heap' ρ w' g := by
    intro g hg
    refine ⟨hg.1, Nat.lt_of_lt_of_le hg.2.1 hsz, fun o' ho' => ?_⟩
    by_cases e : N o'
    · exact hnd g hg o' e ho'
    · rw [hold o' e] at ho'; exact hg.2.2 o' ho'
  have hst2 : ∀ g, w.heap.size ≤ g → g < w'.heap.size → (∀ o, N o → hget heap' o ≠ .dead → ρ o ≠ some (some g)) → stab p heap' ρ w' g := by
    intro g hg1 hg2 hg3
    refine ⟨h.open_ g (.inl (Nat.le_trans h.below.size hg1)), hg2, fun o' ho' => ?_⟩
    by_cases e : N o'
    · exact hg3 o' e ho'
    · rw [hold o' e] at ho'
      intro e'
      have := (h.objs o').lt ho' e'
      omega
  refine ⟨h.open_, h.defers, RL.mono hc hs hst h.slots, fun o' => ?_, fun o1 o2 g h1 h2 e1 e2 => ?_, fun o1 g h1 e1 => ?_, ?_, h.pin⟩
  · by_cases e : N o'
    · exact hx o' e _ hst hst2
    · show RO w' _ ρ o' (hget heap' o')
      rw [hold o' e]
      by_cases hd : hget σ.heap o' = .dead
      · rw [hd]; simp [RO]
      · refine RO.mono hc hs hst (fun g hg => hw g ((h.objs o').lt hd hg) (fun o ho hl e' => ?_)) (h.objs o')
        exact (hnew o g ho hl e').2.1 o' hd hg
  · change hget heap' o1 ≠ .dead at h1
    change hget heap' o2 ≠ .dead at h2
    by_cases n1 : N o1 <;> by_cases n2 : N o2
    · exact hinj o1 o2 g n1 n2 h1 h2 e1 e2
    · rw [hold o2 n2] at h2
      exact absurd e2 ((hnew o1 g n1 h1 e1).2.1 o2 h2)
    · rw [hold o1 n1] at h1
      exact absurd e1 ((hnew o2 g n2 h2 e2).2.1 o1 h1)
    · rw [hold o1 n1] at h1
      rw [hold o2 n2] at h2
      exact h.inj o1 o2 g h1 h2 e1 e2
  · change hget heap' o1 ≠ .dead at h1
    by_cases n1 : N o1
    · exact (hnew o1 g n1 h1 e1).2.2
    · rw [hold o1 n1] at h1; exact h.fresh o1 g h1 e1
  · refine h.below.trans (own' := fun k => ∃ o, N o ∧ hget heap' o ≠ .dead ∧ ρ o = some (some k)) ⟨hos, htp, hout, hsz, fun k hk hn => hw k hk (fun o ho hl e => hn ⟨o, ho, hl, e⟩), hs⟩ ?_
    rintro g hg ⟨o, ho, hl, e⟩
    rcases (hnew o g ho hl e).2.2 with h3 | h3
    · omega
    · exact h3

/-- One new object. -/
theorem RelAt.born (h : RelAt w0 p σ a w ρ) {o : Nat} {x : Obj} {w' : World} (hdead : hget σ.heap o = .dead) (hhas_ : hhas σ.heap o = true)
    (hnew : ∀ g, ρ o = some (some g) → ¬ stab p σ.heap ρ w g ∧ (∀ o', hget σ.heap o' ≠ .dead → ρ o' ≠ some (some g)) ∧ (w0.heap.size ≤ g ∨ p.own g))
    (hw : ∀ g, g < w.heap.size → ρ o ≠ some (some g) → w'.heap[g]? = w.heap[g]?) (hs : ∀ g n, Sh w g n → Sh w' g n) (hsz : w.heap.size ≤ w'.heap.size) (hos : w'.os = w.os) (htp : w'.tape = w.tape) (hout : w'.output = w.output)
    (hxd : x ≠ .dead) (hx : ∀ st : Nat → Prop, (∀ g, stab p σ.heap ρ w g → st g) → RO w' st ρ o x) : RelAt w0 p { σ with heap := hset σ.heap o x } a w' ρ := by
  have hsame : hget (hset σ.heap o x) o = x := hget_hset_same hhas_
  refine h.borns (· = o) (fun o' e => hget_hset_other e) (fun o' e => by rw [e]; exact hdead) (fun o' g e _ hg => hnew g (by rw [← e]; exact hg)) (fun o1 o2 g e1 e2 _ _ _ _ => e1.trans e2.symm)
    (fun g hg hh => hw g hg (hh o rfl (by rw [hsame]; exact hxd))) hs hsz hos htp hout (fun o' e st h1 _ => ?_)
  obtain rfl := e
  rw [hsame]
  exact hx st h1

/-- A live object's block gets another content of the same size. -/
theorem RelAt.upd (h : RelAt w0 p σ a w ρ) {o g : Nat} {x : Obj} {cur cur' : Array Value} {e : TypeId} (hlive : hget σ.heap o ≠ .dead) (hg : ρ o = some (some g)) (hcur : w.heap[g]? = some (.cells cur e (0, 0))) (hsz : cur'.size = cur.size)
    (hxd : x ≠ .dead) (hx : ∀ st : Nat → Prop, (∀ g, stab p σ.heap ρ w g → st g) → RO (w.setRow g cur') st ρ o x) : RelAt w0 p { σ with heap := hset σ.heap o x } a (w.setRow g cur') ρ := by
  have hhas_ : hhas σ.heap o = true := hhas_of_hget hlive
  have hget' : ∀ o', o' ≠ o → hget (hset σ.heap o x) o' = hget σ.heap o' := fun o' e => hget_hset_other e
  have hlive' : ∀ o', hget (hset σ.heap o x) o' ≠ .dead ↔ hget σ.heap o' ≠ .dead := by
    intro o'
    by_cases e : o' = o
    · subst e; rw [hget_hset_same hhas_]; exact ⟨fun _ => hlive, fun _ => hxd⟩
    · rw [hget' o' e]
  have hb : ∀ k, k ≠ g → (w.setRow g cur').heap[k]? = w.heap[k]? := fun k hk => setRow_other w g k cur' hk
  have hs : ∀ k n, Sh w k n → Sh (w.setRow g cur') k n := by
    intro k n hh
    by_cases e' : k = g
    · subst e'
      obtain ⟨c, e2, h1, h2⟩ := hh
      rw [hcur] at h1
      simp only [Option.some.injEq, Obj.cells.injEq] at h1
      exact ⟨cur', e, setRow_heap w k cur cur' e (0, 0) hcur, by rw [hsz, h1.1, h2]⟩
    · exact Sh_of_block (hb k e') hh
  have hst : ∀ k, stab p σ.heap ρ w k → stab p (hset σ.heap o x) ρ (w.setRow g cur') k := by
    intro k hk
    exact ⟨hk.1, by rw [setRow_size]; exact hk.2.1, fun o' ho' => hk.2.2 o' ((hlive' o').1 ho')⟩
  have hc : ∀ k off, stab p σ.heap ρ w k → (w.setRow g cur').cell? ⟨k, off, none⟩ = w.cell? ⟨k, off, none⟩ := by
    intro k off hk
    refine World.cell?_of_block (w := w) (a := ⟨k, off, none⟩) (hb k ?_)
    rintro rfl
    exact hk.2.2 o hlive hg
  refine ⟨h.open_, h.defers, RL.mono hc hs hst h.slots, fun o' => ?_, fun o1 o2 g' h1 h2 => h.inj o1 o2 g' ((hlive' o1).1 h1) ((hlive' o2).1 h2), fun o1 g' h1 => h.fresh o1 g' ((hlive' o1).1 h1), ?_, h.pin⟩
  · by_cases e' : o' = o
    · subst e'
      rw [hget_hset_same hhas_]
      exact hx _ hst
    · show RO _ _ ρ o' (hget (hset σ.heap o x) o')
      rw [hget' o' e']
      by_cases hd : hget σ.heap o' = .dead
      · rw [hd]; simp [RO]
      · refine RO.mono hc hs hst (fun k hk => hb k ?_) (h.objs o')
        rintro rfl
        exact e' (h.inj o' o k hd hlive hk hg)
  · refine h.below.trans (own' := fun k => k = g) ⟨rfl, rfl, rfl, by rw [setRow_size]; exact Nat.le_refl _, fun k hk hn => hb k hn, hs⟩ ?_
    rintro k hk rfl
    rcases h.fresh o k hlive hg with h3 | h3
    · omega
    · exact h3
end
end Go.Avm
