/- The abstract machine, part A: data by value, what it means in a world, and how that lasts. No program is in sight. -/
import Derived.WalkKit
import Derived.ProofKit
namespace Go.Avm
set_option linter.unusedVariables false
set_option linter.unusedSimpArgs false
open Go.RowKit

inductive D where
  | any
  | sc (v : Value)
  | agg (cs : List D)
  | sl (k : Nat) (rows : List (List D))
  | tup (vs : List D)
  | ro (cs : List D)
  | ref (o off : Nat)
  | elt (o k i off : Nat)
  | slo (o k off len : Nat)
  | fn (f : FuncId) (caps : List D)

/-- Block g is a plain row of n cells. -/
def Sh (w : World) (g n : Nat) : Prop := ∃ cur e, w.heap[g]? = some (.cells cur e (0, 0)) ∧ cur.size = n

mutual
def R (w : World) (st : Nat → Prop) (ρ : Nat → Option (Option Nat)) : D → Value → Prop
  | .any, _ => True
  | .sc v, x => x = v
  | .agg cs, x => ∃ vs, x = .agg vs ∧ RL w st ρ cs vs.toList
  | .sl k rows, x => ∃ a c, x = .slice a rows.length c ∧ rows.length ≤ c ∧ c ≤ maxLen ∧ (rows = [] ∨ ∃ g off, a = some ⟨g, off, none⟩ ∧ st g ∧ RR w st k g off rows)
  | .tup ds, x => ∃ vs, x = .tuple vs ∧ RL w st ρ ds vs.toList
  | .ro cs, x => ∃ g off, x = .pointer (some ⟨g, off, none⟩) ∧ st g ∧ RC w st g off cs
  | .ref o off, x => ∃ g, ρ o = some (some g) ∧ x = .pointer (some ⟨g, off, none⟩)
  | .elt o k i off, x => ∃ g, ρ o = some (some g) ∧ x = .pointer (some ⟨g, i * k + off, none⟩)
  | .slo o k off len, x => (ρ o = some none ∧ off = 0 ∧ len = 0 ∧ ∃ a, x = .slice a 0 0) ∨
      (∃ g cap A, ρ o = some (some g) ∧ Sh w g (cap * k) ∧ off + len ≤ cap ∧ cap ≤ maxLen ∧ x = .slice A len (cap - off) ∧ (off < cap → A = some ⟨g, off * k, none⟩))
  | .fn f caps, x => ∃ vs, x = .func (.func f) #[] vs ∧ RL w st ρ caps vs.toList
def RL (w : World) (st : Nat → Prop) (ρ : Nat → Option (Option Nat)) : List D → List Value → Prop
  | [], vs => vs = []
  | d :: ds, vs => ∃ v vs', vs = v :: vs' ∧ R w st ρ d v ∧ RL w st ρ ds vs'
def RC (w : World) (st : Nat → Prop) (g off : Nat) : List D → Prop
  | [] => True
  | c :: cs => (∃ v, w.cell? ⟨g, off, none⟩ = some v ∧ v.oneCell' = true ∧ R w st (fun _ => none) c v) ∧ RC w st g (off + 1) cs
def RR (w : World) (st : Nat → Prop) (k g off : Nat) : List (List D) → Prop
  | [] => True
  | r :: rs => r.length = k ∧ RC w st g off r ∧ RR w st k g (off + k) rs
end

mutual
theorem R.mono {w w' : World} {st st' : Nat → Prop} (hc : ∀ g off, st g → w'.cell? ⟨g, off, none⟩ = w.cell? ⟨g, off, none⟩)
    (hs : ∀ g n, Sh w g n → Sh w' g n) (hst : ∀ g, st g → st' g) {ρ : Nat → Option (Option Nat)} : ∀ {d : D} {v : Value}, R w st ρ d v → R w' st' ρ d v
  | .any, _, _ => by simp [R]
  | .sc _, _, h => by simpa [R] using h
  | .agg _, _, h => by
    simp only [R] at h ⊢
    obtain ⟨vs, h1, h2⟩ := h
    exact ⟨vs, h1, RL.mono hc hs hst h2⟩
  | .sl _ _, _, h => by
    simp only [R] at h ⊢
    obtain ⟨a, c, h1, h2, h3, h4⟩ := h
    refine ⟨a, c, h1, h2, h3, ?_⟩
    rcases h4 with h4 | ⟨g, off, h4, h5, h6⟩
    · exact .inl h4
    · exact .inr ⟨g, off, h4, hst _ h5, RR.mono hc hs hst (fun o => hc g o h5) h6⟩
  | .tup _, _, h => by
    simp only [R] at h ⊢
    obtain ⟨vs, h1, h2⟩ := h
    exact ⟨vs, h1, RL.mono hc hs hst h2⟩
  | .ro _, _, h => by
    simp only [R] at h ⊢
    obtain ⟨g, off, h1, h2, h3⟩ := h
    exact ⟨g, off, h1, hst _ h2, RC.mono hc hs hst (fun o => hc g o h2) h3⟩
  | .ref _ _, _, h => by simpa [R] using h
  | .elt _ _ _ _, _, h => by simpa [R] using h
  | .slo _ _ _ _, _, h => by
    simp only [R] at h ⊢
    rcases h with h | ⟨g, cap, A, h1, h2, h3⟩
    · exact .inl h
    · exact .inr ⟨g, cap, A, h1, hs _ _ h2, h3⟩
  | .fn _ _, _, h => by
    simp only [R] at h ⊢
    obtain ⟨vs, h1, h2⟩ := h
    exact ⟨vs, h1, RL.mono hc hs hst h2⟩
theorem RL.mono {w w' : World} {st st' : Nat → Prop} (hc : ∀ g off, st g → w'.cell? ⟨g, off, none⟩ = w.cell? ⟨g, off, none⟩)
    (hs : ∀ g n, Sh w g n → Sh w' g n) (hst : ∀ g, st g → st' g) {ρ : Nat → Option (Option Nat)} : ∀ {ds : List D} {vs : List Value}, RL w st ρ ds vs → RL w' st' ρ ds vs
  | [], _, h => by simpa [RL] using h
  | _ :: _, _, h => by
    simp only [RL] at h ⊢
    obtain ⟨v, vs', h1, h2, h3⟩ := h
    exact ⟨v, vs', h1, R.mono hc hs hst h2, RL.mono hc hs hst h3⟩
theorem RC.mono {w w' : World} {st st' : Nat → Prop} (hc : ∀ g off, st g → w'.cell? ⟨g, off, none⟩ = w.cell? ⟨g, off, none⟩)
    (hs : ∀ g n, Sh w g n → Sh w' g n) (hst : ∀ g, st g → st' g) {g : Nat} (hg : ∀ off, w'.cell? ⟨g, off, none⟩ = w.cell? ⟨g, off, none⟩) : ∀ {cs : List D} {off : Nat}, RC w st g off cs → RC w' st' g off cs
  | [], _, _ => by simp [RC]
  | _ :: _, _, h => by
    simp only [RC] at h ⊢
    obtain ⟨⟨v, h1, h2, h3⟩, h4⟩ := h
    exact ⟨⟨v, (hg _).trans h1, h2, R.mono hc hs hst h3⟩, RC.mono hc hs hst hg h4⟩
theorem RR.mono {w w' : World} {st st' : Nat → Prop} (hc : ∀ g off, st g → w'.cell? ⟨g, off, none⟩ = w.cell? ⟨g, off, none⟩)
    (hs : ∀ g n, Sh w g n → Sh w' g n) (hst : ∀ g, st g → st' g) {k g : Nat} (hg : ∀ off, w'.cell? ⟨g, off, none⟩ = w.cell? ⟨g, off, none⟩) : ∀ {rs : List (List D)} {off : Nat}, RR w st k g off rs → RR w' st' k g off rs
  | [], _, _ => by simp [RR]
  | _ :: _, _, h => by
    simp only [RR] at h ⊢
    obtain ⟨h1, h2, h3⟩ := h
    exact ⟨h1, RC.mono hc hs hst hg h2, RR.mono hc hs hst hg h3⟩
end

mutual
/-- What reads with no name of an object in it reads under whatever names. -/
theorem R.ofNone {w : World} {st : Nat → Prop} {ρ : Nat → Option (Option Nat)} : ∀ {d : D} {v : Value}, R w st (fun _ => none) d v → R w st ρ d v
  | .any, _, _ => by simp [R]
  | .sc _, _, h => by simpa [R] using h
  | .agg _, _, h => by
    simp only [R] at h ⊢
    obtain ⟨vs, h1, h2⟩ := h
    exact ⟨vs, h1, RL.ofNone h2⟩
  | .sl _ _, _, h => by simpa [R] using h
  | .tup _, _, h => by
    simp only [R] at h ⊢
    obtain ⟨vs, h1, h2⟩ := h
    exact ⟨vs, h1, RL.ofNone h2⟩
  | .ro _, _, h => by simpa [R] using h
  | .ref _ _, _, h => by simp [R] at h
  | .elt _ _ _ _, _, h => by simp [R] at h
  | .slo _ _ _ _, _, h => by simp [R] at h
  | .fn _ _, _, h => by
    simp only [R] at h ⊢
    obtain ⟨vs, h1, h2⟩ := h
    exact ⟨vs, h1, RL.ofNone h2⟩
theorem RL.ofNone {w : World} {st : Nat → Prop} {ρ : Nat → Option (Option Nat)} : ∀ {ds : List D} {vs : List Value}, RL w st (fun _ => none) ds vs → RL w st ρ ds vs
  | [], _, h => by simpa [RL] using h
  | _ :: _, _, h => by
    simp only [RL] at h ⊢
    obtain ⟨v, vs', h1, h2, h3⟩ := h
    exact ⟨v, vs', h1, R.ofNone h2, RL.ofNone h3⟩
end

mutual
/-- Nothing is known any more of what names object o. -/
def clr (o : Nat) : D → D
  | .ref o' off => if o' = o then .any else .ref o' off
  | .elt o' k i off => if o' = o then .any else .elt o' k i off
  | .slo o' k off len => if o' = o then .any else .slo o' k off len
  | .agg cs => .agg (clrL o cs)
  | .tup cs => .tup (clrL o cs)
  | .fn f cs => .fn f (clrL o cs)
  | .any => .any
  | .sc v => .sc v
  | .sl k rows => .sl k rows
  | .ro cs => .ro cs
def clrL (o : Nat) : List D → List D
  | [] => []
  | d :: ds => clr o d :: clrL o ds
end

mutual
theorem R.clr {w : World} {st : Nat → Prop} {ρ ρ' : Nat → Option (Option Nat)} {o : Nat} (h : ∀ o', o' ≠ o → ρ' o' = ρ o') : ∀ {d : D} {v : Value}, R w st ρ d v → R w st ρ' (clr o d) v
  | .any, _, _ => by simp [Avm.clr, R]
  | .sc _, _, hd => by simpa [Avm.clr, R] using hd
  | .agg _, _, hd => by
    simp only [Avm.clr, R] at hd ⊢
    obtain ⟨vs, h1, h2⟩ := hd
    exact ⟨vs, h1, RL.clr h h2⟩
  | .sl _ _, _, hd => by simpa [Avm.clr, R] using hd
  | .tup _, _, hd => by
    simp only [Avm.clr, R] at hd ⊢
    obtain ⟨vs, h1, h2⟩ := hd
    exact ⟨vs, h1, RL.clr h h2⟩
  | .ro _, _, hd => by simpa [Avm.clr, R] using hd
  | .ref o' _, _, hd => by
    by_cases e : o' = o
    · simp [Avm.clr, e, R]
    · simp only [Avm.clr, e, R, if_false] at hd ⊢
      rw [h _ e]; exact hd
  | .elt o' _ _ _, _, hd => by
    by_cases e : o' = o
    · simp [Avm.clr, e, R]
    · simp only [Avm.clr, e, R, if_false] at hd ⊢
      rw [h _ e]; exact hd
  | .slo o' _ _ _, _, hd => by
    by_cases e : o' = o
    · simp [Avm.clr, e, R]
    · simp only [Avm.clr, e, R, if_false] at hd ⊢
      rw [h _ e]; exact hd
  | .fn _ _, _, hd => by
    simp only [Avm.clr, R] at hd ⊢
    obtain ⟨vs, h1, h2⟩ := hd
    exact ⟨vs, h1, RL.clr h h2⟩
theorem RL.clr {w : World} {st : Nat → Prop} {ρ ρ' : Nat → Option (Option Nat)} {o : Nat} (h : ∀ o', o' ≠ o → ρ' o' = ρ o') : ∀ {ds : List D} {vs : List Value}, RL w st ρ ds vs → RL w st ρ' (clrL o ds) vs
  | [], _, hd => by simpa [clrL, RL] using hd
  | _ :: _, _, hd => by
    simp only [clrL, RL] at hd ⊢
    obtain ⟨v, vs', h1, h2, h3⟩ := hd
    exact ⟨v, vs', h1, R.clr h h2, RL.clr h h3⟩
end

/-- A property of a block that lasts as long as what it reads lasts. -/
structure Ext where
  φ : World → (Nat → Prop) → Nat → Prop
  lt : ∀ {w st g}, φ w st g → g < w.heap.size
  mono : ∀ {w w' : World} {st st' : Nat → Prop} {g : Nat}, (∀ g off, st g → w'.cell? ⟨g, off, none⟩ = w.cell? ⟨g, off, none⟩) → (∀ g n, Sh w g n → Sh w' g n) → (∀ g, st g → st' g) → w'.heap[g]? = w.heap[g]? → φ w st g → φ w' st' g

inductive Obj where
  | dead
  | row (k : Nat) (rows : List (List D))
  | box (cs : List D)
  | ext (e : Ext)

/-- What may be read of the memory before a body, and which blocks of it the body holds for its own. -/
structure Pm where
  rd : Nat → Prop
  own : Nat → Prop
  pin : Nat → Option (Option Nat)

def Obj.clr (o : Nat) : Obj → Obj
  | .box cs => .box (clrL o cs)
  | x => x

/-- What is laid of the objects: a list of names and objects. -/
def hget : List (Nat × Obj) → Nat → Obj
  | [], _ => .dead
  | (p, x) :: h, o => if p = o then x else hget h o
def hset : List (Nat × Obj) → Nat → Obj → List (Nat × Obj)
  | [], _, _ => []
  | (p, x) :: h, o, y => if p = o then (p, y) :: h else (p, x) :: hset h o y
def hhas : List (Nat × Obj) → Nat → Bool
  | [], _ => false
  | (p, _) :: h, o => if p = o then true else hhas h o
/-- A name that may be given to a new object: those from 1000 on name what was handed in. -/
def hfree (h : List (Nat × Obj)) (o : Nat) : Bool := hhas h o && decide (o < 1000)
theorem hfree_iff {h : List (Nat × Obj)} {o : Nat} : hfree h o = true ↔ hhas h o = true ∧ o < 1000 := by simp [hfree]
def hclr (o : Nat) : List (Nat × Obj) → List (Nat × Obj)
  | [] => []
  | (p, x) :: h => (p, x.clr o) :: hclr o h

theorem hget_hset_same : ∀ {h : List (Nat × Obj)} {o : Nat} {y : Obj}, hhas h o = true → hget (hset h o y) o = y
  | [], _, _, hh => by simp [hhas] at hh
  | (p, x) :: h, o, y, hh => by
    by_cases e : p = o
    · simp [hset, hget, e]
    · simp only [hhas, e, if_false] at hh
      simp [hset, hget, e, hget_hset_same hh]
theorem hget_hset_other : ∀ {h : List (Nat × Obj)} {o o' : Nat} {y : Obj}, o' ≠ o → hget (hset h o y) o' = hget h o'
  | [], _, _, _, _ => by simp [hset, hget]
  | (p, x) :: h, o, o', y, hne => by
    by_cases e : p = o
    · subst e; simp [hset, hget, Ne.symm hne]
    · by_cases e' : p = o'
      · subst e'; simp [hset, hget, e]
      · simp [hset, hget, e, e', hget_hset_other hne]
theorem hget_hclr : ∀ {h : List (Nat × Obj)} {o o' : Nat}, hget (hclr o h) o' = (hget h o').clr o
  | [], _, _ => by simp [hclr, hget, Obj.clr]
  | (p, x) :: h, o, o' => by
    by_cases e : p = o'
    · simp [hclr, hget, e]
    · simp [hclr, hget, e, hget_hclr]
theorem hhas_hclr : ∀ {h : List (Nat × Obj)} {o o' : Nat}, hhas (hclr o h) o' = hhas h o'
  | [], _, _ => by simp [hclr, hhas]
  | (p, x) :: h, o, o' => by simp [hclr, hhas, hhas_hclr]
theorem hhas_of_hget : ∀ {h : List (Nat × Obj)} {o : Nat}, hget h o ≠ .dead → hhas h o = true
  | [], _, hh => by simp [hget] at hh
  | (p, x) :: h, o, hh => by
    by_cases e : p = o
    · simp [hhas, e]
    · simp only [hget, e, if_false] at hh
      simp [hhas, e, hhas_of_hget hh]

structure St where
  slots : List D
  heap : List (Nat × Obj)

/-- The blocks that stay as they are: all but those of the objects at hand. -/
def stab (p : Pm) (h : List (Nat × Obj)) (ρ : Nat → Option (Option Nat)) (w : World) (g : Nat) : Prop := p.rd g ∧ g < w.heap.size ∧ ∀ o, hget h o ≠ .dead → ρ o ≠ some (some g)

/-- So many cells, each of one cell's width. -/
structure SzOne (cur : Array Value) (n : Nat) : Prop where
  size : cur.size = n
  one : ∀ v ∈ cur.toList, v.oneCell' = true

/-- What an object of the list is in memory. -/
def RO (w : World) (st : Nat → Prop) (ρ : Nat → Option (Option Nat)) (o : Nat) : Obj → Prop
  | .dead => True
  | .row k rows => match ρ o with
    | none => False
    | some none => rows = []
    | some (some g) => ∃ cur e cap, w.heap[g]? = some (.cells cur e (0, 0)) ∧ SzOne cur (cap * k) ∧ cap ≤ maxLen ∧ rows.length ≤ cap ∧ RR w st k g 0 rows
  | .box cs => ∃ g cur e, ρ o = some (some g) ∧ w.heap[g]? = some (.cells cur e (0, 0)) ∧ RL w st ρ cs cur.toList
  | .ext e => ∃ g, ρ o = some (some g) ∧ e.φ w st g

/-- The world goes on: of what was there only the blocks of own may have turned, and none its size. -/
structure BelowO (own : Nat → Prop) (w0 w : World) : Prop where
  os : w.os = w0.os
  tape : w.tape = w0.tape
  output : w.output = w0.output
  size : w0.heap.size ≤ w.heap.size
  block : ∀ k, k < w0.heap.size → ¬ own k → w.heap[k]? = w0.heap[k]?
  shp : ∀ g n, Sh w0 g n → Sh w g n
theorem BelowO.refl (own : Nat → Prop) (w : World) : BelowO own w w := ⟨rfl, rfl, rfl, Nat.le_refl _, fun _ _ _ => rfl, fun _ _ h => h⟩
theorem Sh.lt {w : World} {g n : Nat} (hs : Sh w g n) : g < w.heap.size := by
  obtain ⟨cur, e, h1, h2⟩ := hs
  exact (Array.getElem?_eq_some_iff.1 h1).1
theorem BelowO.trans {own own' : Nat → Prop} {a b c : World} (h : BelowO own a b) (k : BelowO own' b c) (ho : ∀ g, g < a.heap.size → own' g → own g) : BelowO own a c :=
  ⟨k.os.trans h.os, k.tape.trans h.tape, k.output.trans h.output, Nat.le_trans h.size k.size, fun i hi hn => (k.block i (Nat.lt_of_lt_of_le hi h.size) (fun e => hn (ho i hi e))).trans (h.block i hi hn), fun g n hs => k.shp g n (h.shp g n hs)⟩
theorem BelowO.of_below {own : Nat → Prop} {w w' : World} (h : Below w.heap.size w w') : BelowO own w w' :=
  ⟨h.os, h.tape, h.output, h.size, fun k hk _ => h.block k hk, fun g n hs => by
    obtain ⟨cur, e, h1, h2⟩ := hs
    exact ⟨cur, e, (h.block g (Array.getElem?_eq_some_iff.1 h1).1).trans h1, h2⟩⟩

structure RelAt (w0 : World) (p : Pm) (σ : St) (a : Act) (w : World) (ρ : Nat → Option (Option Nat)) : Prop where
  open_ : ∀ g, (w0.heap.size ≤ g ∨ p.own g) → p.rd g
  defers : a.defers = []
  slots : RL w (stab p σ.heap ρ w) ρ σ.slots a.tmps.toList
  objs : ∀ o, RO w (stab p σ.heap ρ w) ρ o (hget σ.heap o)
  inj : ∀ o o' g, hget σ.heap o ≠ .dead → hget σ.heap o' ≠ .dead → ρ o = some (some g) → ρ o' = some (some g) → o = o'
  fresh : ∀ o g, hget σ.heap o ≠ .dead → ρ o = some (some g) → w0.heap.size ≤ g ∨ p.own g
  below : BelowO p.own w0 w
  pin : ∀ o, 1000 ≤ o → ρ o = p.pin o

def Rel (w0 : World) (p : Pm) (σ : St) (a : Act) (w : World) : Prop := ∃ ρ, RelAt w0 p σ a w ρ

/-- From whatever frame and world read so: the code ends in one of the ends that Q lets. -/
def Tri (P : Program) (c : Code) (Q : Exit → St → Prop) (σ : St) : Prop :=
  ∀ w0 p a w, Rel w0 p σ a w → c.wp P (fun e a' w' => ∃ σ', Q e σ' ∧ Rel w0 p σ' a' w') a w

section
variable {P : Program} {Q : Exit → St → Prop} {σ : St}

theorem Tri.mono {c : Code} {Q' : Exit → St → Prop} (h : Tri P c Q σ) (hq : ∀ e σ', Q e σ' → Q' e σ') : Tri P c Q' σ :=
  fun w0 p a w hr => Code.wp_mono (fun _ _ _ ⟨σ', h1, h2⟩ => ⟨σ', hq _ _ h1, h2⟩) (h w0 p a w hr)

def thenQ (P : Program) (y : Code) (Q : Exit → St → Prop) : Exit → St → Prop
  | .normal, σ => Tri P y Q σ
  | e, σ => Q e σ
theorem Tri.seq {x y : Code} (h : Tri P x (thenQ P y Q) σ) : Tri P (x.seq y) Q σ := by
  intro w0 p a w hr
  refine wp_seq (Code.wp_mono ?_ (h w0 p a w hr))
  rintro e a' w' ⟨σ', h1, h2⟩
  cases e <;> first | exact h1 w0 p a' w' h2 | exact ⟨σ', h1, h2⟩

def inBlockQ (id : Nat) (Q : Exit → St → Prop) : Exit → St → Prop
  | .exit id', σ => if id' = id then Q .normal σ else Q (.exit id') σ
  | e, σ => Q e σ
theorem Tri.block {id : Nat} {c : Code} (h : Tri P c (inBlockQ id Q) σ) : Tri P (.block id c) Q σ := by
  intro w0 p a w hr
  refine wp_block (Code.wp_mono ?_ (h w0 p a w hr))
  rintro e a' w' ⟨σ', h1, h2⟩
  cases e with
  | exit id' =>
    simp only [inBlockQ] at h1
    simp only [Exit.inBlock]
    split <;> rename_i hid <;> simp only [hid, if_true, if_false] at h1 <;> exact ⟨σ', h1, h2⟩
  | _ => exact ⟨σ', h1, h2⟩
theorem Tri.skip (h : Q .normal σ) : Tri P .skip Q σ := fun _ _ _ _ hr => wp_skip ⟨σ, h, hr⟩
theorem Tri.ret (h : Q .ret σ) : Tri P .ret Q σ := fun _ _ _ _ hr => wp_ret ⟨σ, h, hr⟩
theorem Tri.exit {id : Nat} (h : Q (.exit id) σ) : Tri P (.exit id) Q σ := fun _ _ _ _ hr => wp_exit ⟨σ, h, hr⟩
theorem Tri.goto {l : Nat} (h : Q (.goto l) σ) : Tri P (.goto l) Q σ := fun _ _ _ _ hr => wp_goto ⟨σ, h, hr⟩
theorem Tri.label {l : Nat} (h : Q .normal σ) : Tri P (.label l) Q σ := fun _ _ _ _ hr => wp_label ⟨σ, h, hr⟩

/-- A loop: at every round's head the state is one of the family f, at an index that P lets; a measure goes down. -/
theorem Tri.loop {τ : Type} {c : Code} (f : τ → St) (I : τ → Prop) (μ : τ → Nat) (t0 : τ) (h0 : I t0) (hσ : ∀ w0 p a w, Rel w0 p σ a w → Rel w0 p (f t0) a w)
    (h : ∀ t, I t → Tri P c (fun e σ' => match e with
      | .normal => ∃ t', I t' ∧ μ t' < μ t ∧ ∀ w0 p a w, Rel w0 p σ' a w → Rel w0 p (f t') a w
      | e => Q e σ') (f t)) : Tri P (.loop c) Q σ := by
  intro w0 p a w hr
  have key : ∀ n, ∀ t, I t → μ t = n → ∀ a w, Rel w0 p (f t) a w → (Code.loop c).wp P (fun e a' w' => ∃ σ', Q e σ' ∧ Rel w0 p σ' a' w') a w := by
    intro n t hI hn a w hr
    refine wp_loop (fun a' w' => ∃ t', I t' ∧ μ t' ≤ n ∧ Rel w0 p (f t') a' w') (fun a' w' => @Classical.epsilon Nat ⟨0⟩ fun m => (∃ t', I t' ∧ μ t' = m ∧ Rel w0 p (f t') a' w') ∧ ∀ t', I t' → Rel w0 p (f t') a' w' → m ≤ μ t') ⟨t, hI, by omega, hr⟩ ?_
    rintro a1 w1 ⟨t1, hI1, hn1, hr1⟩
    -- the least index that fits
    have hex : ∃ m, (∃ t', I t' ∧ μ t' = m ∧ Rel w0 p (f t') a1 w1) ∧ ∀ t', I t' → Rel w0 p (f t') a1 w1 → m ≤ μ t' := by
      have : ∀ m, ∀ t', I t' → μ t' = m → Rel w0 p (f t') a1 w1 → ∃ m, (∃ t', I t' ∧ μ t' = m ∧ Rel w0 p (f t') a1 w1) ∧ ∀ t', I t' → Rel w0 p (f t') a1 w1 → m ≤ μ t' := by
        intro m
        induction m using Nat.strongRecOn with
        | _ m ih =>
          intro t' h1 h2 h3
          by_cases hl : ∃ t'', I t'' ∧ Rel w0 p (f t'') a1 w1 ∧ μ t'' < m
          · obtain ⟨t'', g1, g2, g3⟩ := hl
            exact ih _ g3 t'' g1 rfl g2
          · exact ⟨m, ⟨t', h1, h2, h3⟩, fun t'' g1 g2 => Nat.le_of_not_lt fun g3 => hl ⟨t'', g1, g2, g3⟩⟩
      exact this _ t1 hI1 rfl hr1
    have hsp := @Classical.epsilon_spec Nat _ hex
    obtain ⟨⟨t2, hI2, hm2, hr2⟩, hmin⟩ := hsp
    refine Code.wp_mono ?_ (h t2 hI2 w0 p a1 w1 hr2)
    rintro e a2 w2 ⟨σ2, hq, hr3⟩
    cases e with
    | normal =>
      obtain ⟨t3, hI3, hlt, himp⟩ := hq
      have hr4 := himp w0 p a2 w2 hr3
      have hmin1 := hmin t1 hI1 hr1
      refine ⟨⟨t3, hI3, by omega, hr4⟩, ?_⟩
      have hex2 : ∃ m, (∃ t', I t' ∧ μ t' = m ∧ Rel w0 p (f t') a2 w2) ∧ ∀ t', I t' → Rel w0 p (f t') a2 w2 → m ≤ μ t' := by
        have : ∀ m, ∀ t', I t' → μ t' = m → Rel w0 p (f t') a2 w2 → ∃ m, (∃ t', I t' ∧ μ t' = m ∧ Rel w0 p (f t') a2 w2) ∧ ∀ t', I t' → Rel w0 p (f t') a2 w2 → m ≤ μ t' := by
          intro m
          induction m using Nat.strongRecOn with
          | _ m ih =>
            intro t' h1 h2 h3
            by_cases hl : ∃ t'', I t'' ∧ Rel w0 p (f t'') a2 w2 ∧ μ t'' < m
            · obtain ⟨t'', g1, g2, g3⟩ := hl
              exact ih _ g3 t'' g1 rfl g2
            · exact ⟨m, ⟨t', h1, h2, h3⟩, fun t'' g1 g2 => Nat.le_of_not_lt fun g3 => hl ⟨t'', g1, g2, g3⟩⟩
        exact this _ t3 hI3 rfl hr4
      have hsp2 := @Classical.epsilon_spec Nat _ hex2
      have hle := hsp2.2 t3 hI3 hr4
      rw [hm2] at hlt
      exact Nat.lt_of_le_of_lt hle hlt
    | _ => exact ⟨σ2, hq, hr3⟩
  exact key _ t0 h0 rfl a w (hσ w0 p a w hr)
end
end Go.Avm
