/- The abstract machine, part F: lists of operations; contracts of functions by value; calls; from a body to a contract. -/
import Derived.Test.YtpopgpjojbngcaaAvmE
namespace Go.Avm
set_option linter.unusedVariables false
set_option linter.unusedSimpArgs false
open Go.RowKit

/-- One operation takes what reads as σ to what reads as σ'. -/
def Steps1 (P : Program) (σ : St) (o : Oper) (σ' : St) : Prop :=
  ∀ w0 p a w, Rel w0 p σ a w → ∃ v w', ((execOp a.eval o).run P w = .ok (.value v) w' ∨ (v = undef ∧ (execOp a.eval o).run P w = .ok .skip w')) ∧ Rel w0 p σ' (a.put o.dst v) w'

def TriL (P : Program) (all : Array Oper) (Q : Exit → St → Prop) (rest : List Oper) (σ : St) : Prop :=
  ∀ w0 p a w, Rel w0 p σ a w → wpList P all (fun e a' w' => ∃ σ', Q e σ' ∧ Rel w0 p σ' a' w') rest a w

section
variable {P : Program} {all : Array Oper} {Q : Exit → St → Prop} {σ σ' : St} {o : Oper} {rest : List Oper}

theorem Sound.steps {d : D} (h : Sound P σ o.op d) : Steps1 P σ o (σ.put o.dst d) := by
  rintro w0 p a w ⟨ρ, hr⟩
  obtain ⟨v, h1, h2⟩ := h w0 p a w ρ o rfl hr
  exact ⟨v, w, .inl h1, ρ, hr.put o.dst h2⟩

theorem TriL.nil (h : Q .normal σ) : TriL P all Q [] σ := fun _ _ _ _ hr => wpList_nil ⟨σ, h, hr⟩
theorem wpList_of_step {Q' : Exit → Act → World → Prop} {a : Act} {w w' : World} {v : Value} (hw : Region.wanted o (yielded all a.tmps) = true)
    (h : (execOp a.eval o).run P w = .ok (.value v) w' ∨ (v = undef ∧ (execOp a.eval o).run P w = .ok .skip w')) (hn : wpList P all Q' rest (a.put o.dst v) w') : wpList P all Q' (o :: rest) a w := by
  unfold wpList
  rw [if_pos hw]
  left
  unfold Oper.wp
  rcases h with h | ⟨hv, h⟩
  · rw [h]; exact hn
  · rw [h]; subst hv; exact hn
theorem TriL.step (hg : o.guard = none) (h : Steps1 P σ o σ') (hn : TriL P all Q rest σ') : TriL P all Q (o :: rest) σ := by
  intro w0 p a w hr
  obtain ⟨v, w', h1, h2⟩ := h w0 p a w hr
  exact wpList_of_step (by simp [Region.wanted, hg]) h1 (hn w0 p _ _ h2)
theorem yielded_of {w0 : World} {p : Pm} {a : Act} {w : World} (hr : Rel w0 p σ a w) {j t : Nat} {b : Bool} (hj : (all[j]?).bind (·.dst) = some t) (hb : σ.slots.getD t .any = .sc (.bool b)) :
    yielded all a.tmps j = some b := by
  obtain ⟨ρ, hr⟩ := hr
  cases hd : σ.slots[t]? with
  | none => simp [List.getD, hd] at hb
  | some d =>
    simp only [List.getD, hd, Option.getD_some] at hb
    subst hb
    obtain ⟨v, h1, h2⟩ := RL_get hr.slots hd
    simp only [R] at h2
    subst h2
    rw [Array.getElem?_toList] at h1
    unfold yielded
    rw [hj]
    simp [h1]
theorem TriL.stepG {j t : Nat} {want : Bool} (hg : o.guard = some (j, want)) (hj : (all[j]?).bind (·.dst) = some t) (hb : σ.slots.getD t .any = .sc (.bool want)) (h : Steps1 P σ o σ')
    (hn : TriL P all Q rest σ') : TriL P all Q (o :: rest) σ := by
  intro w0 p a w hr
  obtain ⟨v, w', h1, h2⟩ := h w0 p a w hr
  exact wpList_of_step (by simp [Region.wanted, hg, yielded_of hr hj hb]) h1 (hn w0 p _ _ h2)
theorem TriL.skipG {j t : Nat} {want b : Bool} (hg : o.guard = some (j, want)) (hj : (all[j]?).bind (·.dst) = some t) (hb : σ.slots.getD t .any = .sc (.bool b)) (hne : b ≠ want)
    (hn : TriL P all Q rest (σ.put o.dst (.sc undef))) : TriL P all Q (o :: rest) σ := by
  intro w0 p a w hr
  have hy := yielded_of hr hj hb
  obtain ⟨ρ, hr⟩ := hr
  refine wpList_skip (by simp [Region.wanted, hg, hy, hne]) (hn w0 p _ _ ⟨ρ, hr.put o.dst (by simp [R])⟩)
theorem Tri.region {id : Nat} {l : List Oper} (h : TriL P l.toArray Q l σ) : Tri P (.region id l.toArray false) Q σ :=
  fun w0 p a w hr => wp_region_lit (h w0 p a w hr)
theorem Tri.cond {c : Operand} {x y : Code} {b : Bool} (hc : evl σ c = .sc (.bool b)) (ht : b = true → Tri P x Q σ) (hf : b = false → Tri P y Q σ) : Tri P (.cond c x y) Q σ := by
  rintro w0 p a w ⟨ρ, hr⟩
  have h1 := hr.evl c
  rw [hc] at h1
  simp only [R] at h1
  exact wp_cond_split h1 (fun e => ht e w0 p a w ⟨ρ, hr⟩) (fun e => hf e w0 p a w ⟨ρ, hr⟩)
end

mutual
/-- What reads as the first reads as the second. -/
inductive LeD : D → D → Prop
  | refl (d : D) : LeD d d
  | any (d : D) : LeD d .any
  | nil (k : Nat) : LeD (.sc (.slice none 0 0)) (.sl k [])
  | slnil (k k' : Nat) : LeD (.sl k []) (.sl k' [])
  | agg {ds es : List D} : LeL ds es → LeD (.agg ds) (.agg es)
  | tup {ds es : List D} : LeL ds es → LeD (.tup ds) (.tup es)
  | fn {f : FuncId} {ds es : List D} : LeL ds es → LeD (.fn f ds) (.fn f es)
  | sl {k : Nat} {rs ss : List (List D)} : LeR rs ss → LeD (.sl k rs) (.sl k ss)
  | ro {ds es : List D} : LeL ds es → LeD (.ro ds) (.ro es)
inductive LeL : List D → List D → Prop
  | nil : LeL [] []
  | cons {d e : D} {ds es : List D} : LeD d e → LeL ds es → LeL (d :: ds) (e :: es)
inductive LeR : List (List D) → List (List D) → Prop
  | nil : LeR [] []
  | cons {r s : List D} {rs ss : List (List D)} : LeL r s → LeR rs ss → LeR (r :: rs) (s :: ss)
end
theorem LeL.refl : ∀ ds : List D, LeL ds ds
  | [] => .nil
  | d :: ds => .cons (.refl d) (LeL.refl ds)
theorem LeR.refl : ∀ rs : List (List D), LeR rs rs
  | [] => .nil
  | r :: rs => .cons (LeL.refl r) (LeR.refl rs)
theorem LeR.append {a b c d : List (List D)} : ∀ {a b : List (List D)}, LeR a b → LeR c d → LeR (a ++ c) (b ++ d)
  | _, _, .nil, h => h
  | _, _, .cons h1 h2, h => .cons h1 (LeR.append (a := a) (b := b) h2 h)
theorem LeL.length : ∀ {ds es : List D}, LeL ds es → es.length = ds.length
  | _, _, .nil => rfl
  | _, _, .cons _ h => by simp [LeL.length h]
theorem LeR.length : ∀ {ds es : List (List D)}, LeR ds es → es.length = ds.length
  | _, _, .nil => rfl
  | _, _, .cons _ h => by simp [LeR.length h]

section
variable {w : World} {st : Nat → Prop}
mutual
theorem R.le {ρ : Nat → Option (Option Nat)} : ∀ {d e : D} {v : Value}, LeD d e → R w st ρ d v → R w st ρ e v
  | _, _, _, .refl _, h => h
  | _, _, _, .any _, _ => by simp [R]
  | _, _, _, .nil k, h => by
    simp only [R] at h ⊢
    exact ⟨none, 0, h, by simp, Nat.zero_le _, .inl (by simp)⟩
  | _, _, _, .slnil k k', h => by
    simp only [R] at h ⊢
    obtain ⟨a, c, h1, h2, h3, _⟩ := h
    exact ⟨a, c, h1, h2, h3, .inl (by simp)⟩
  | _, _, _, .agg hl, h => by
    simp only [R] at h ⊢
    obtain ⟨vs, h1, h2⟩ := h
    exact ⟨vs, h1, RL.le hl h2⟩
  | _, _, _, .tup hl, h => by
    simp only [R] at h ⊢
    obtain ⟨vs, h1, h2⟩ := h
    exact ⟨vs, h1, RL.le hl h2⟩
  | _, _, _, .fn hl, h => by
    simp only [R] at h ⊢
    obtain ⟨vs, h1, h2⟩ := h
    exact ⟨vs, h1, RL.le hl h2⟩
  | _, _, _, .sl hl, h => by
    simp only [R] at h ⊢
    obtain ⟨a, c, h1, h2, h3, h4⟩ := h
    have e := LeR.length hl
    refine ⟨a, c, by rw [e]; exact h1, by rw [e]; exact h2, h3, ?_⟩
    rcases h4 with h4 | ⟨g, off, h4, h5, h6⟩
    · left
      exact List.eq_nil_of_length_eq_zero (by rw [e, h4]; rfl)
    · exact .inr ⟨g, off, h4, h5, RR.le hl h6⟩
  | _, _, _, .ro hl, h => by
    simp only [R] at h ⊢
    obtain ⟨g, off, h1, h2, h3⟩ := h
    exact ⟨g, off, h1, h2, RC.le hl h3⟩
theorem RL.le {ρ : Nat → Option (Option Nat)} : ∀ {ds es : List D} {vs : List Value}, LeL ds es → RL w st ρ ds vs → RL w st ρ es vs
  | _, _, _, .nil, h => h
  | _, _, _, .cons h1 h2, h => by
    simp only [RL] at h ⊢
    obtain ⟨v, vs', e, h3, h4⟩ := h
    exact ⟨v, vs', e, R.le h1 h3, RL.le h2 h4⟩
theorem RC.le {g : Nat} : ∀ {ds es : List D} {off : Nat}, LeL ds es → RC w st g off ds → RC w st g off es
  | _, _, _, .nil, h => h
  | _, _, _, .cons h1 h2, h => by
    simp only [RC] at h ⊢
    obtain ⟨⟨v, e1, e2, e3⟩, h4⟩ := h
    exact ⟨⟨v, e1, e2, R.le h1 e3⟩, RC.le h2 h4⟩
theorem RR.le {k g : Nat} : ∀ {rs ss : List (List D)} {off : Nat}, LeR rs ss → RR w st k g off rs → RR w st k g off ss
  | _, _, _, .nil, h => h
  | _, _, _, .cons h1 h2, h => by
    simp only [RR] at h ⊢
    obtain ⟨e, h3, h4⟩ := h
    exact ⟨by rw [LeL.length h1]; exact e, RC.le h1 h3, RR.le h2 h4⟩
end
/-- Objects that say less. -/
inductive LeO : Obj → Obj → Prop
  | refl (x : Obj) : LeO x x
  | dead (x : Obj) : LeO x .dead
  | row {k : Nat} {rs ss : List (List D)} : LeR rs ss → LeO (.row k rs) (.row k ss)
  | box {ds es : List D} : LeL ds es → LeO (.box ds) (.box es)
theorem RO.le {ρ : Nat → Option (Option Nat)} {o : Nat} {x y : Obj} (h : LeO x y) (hr : RO w st ρ o x) : RO w st ρ o y := by
  cases h with
  | refl => exact hr
  | dead => simp [RO]
  | row hl =>
    simp only [RO] at hr ⊢
    split at hr
    · exact hr
    · exact List.eq_nil_of_length_eq_zero (by rw [LeR.length hl, hr]; rfl)
    · obtain ⟨cur, e, cap, r1, r2, r3, r4, r5⟩ := hr
      exact ⟨cur, e, cap, r1, r2, r3, by rw [LeR.length hl]; exact r4, RR.le hl r5⟩
  | box hl =>
    simp only [RO] at hr ⊢
    obtain ⟨g, cur, e, r1, r2, r3⟩ := hr
    exact ⟨g, cur, e, r1, r2, RL.le hl r3⟩
theorem LeO.live {x y : Obj} (h : LeO x y) (hy : y ≠ .dead) : x ≠ .dead := by
  cases h with
  | refl => exact hy
  | dead => exact absurd rfl hy
  | row => simp
  | box => simp
end

inductive LeOs : List Obj → List Obj → Prop
  | nil : LeOs [] []
  | cons {x y : Obj} {xs ys : List Obj} : LeO x y → LeOs xs ys → LeOs (x :: xs) (y :: ys)
theorem LeOs.refl : ∀ xs : List Obj, LeOs xs xs
  | [] => .nil
  | x :: xs => .cons (.refl x) (LeOs.refl xs)
theorem LeOs.get : ∀ {xs ys : List Obj}, LeOs xs ys → ∀ j, LeO (xs.getD j .dead) (ys.getD j .dead)
  | _, _, .nil, j => .refl _
  | _, _, .cons h1 h2, j => by
    cases j with
    | zero => simpa using h1
    | succ j => simpa using LeOs.get h2 j
theorem LeOs.length : ∀ {xs ys : List Obj}, LeOs xs ys → ys.length = xs.length
  | _, _, .nil => rfl
  | _, _, .cons _ h => by simp [LeOs.length h]
/-- The blocks that a call's objects hold. -/
def ownI (ins : List Obj) (ρ : Nat → Option (Option Nat)) (g : Nat) : Prop := ∃ j, ins.getD j .dead ≠ .dead ∧ ρ j = some (some g)
/-- The objects that are handed to a call: each by its own block, none of them lent besides. -/
structure InsOK (w : World) (st : Nat → Prop) (ρ : Nat → Option (Option Nat)) (ins : List Obj) : Prop where
  objs : ∀ j, RO w st ρ j (ins.getD j .dead)
  inj : ∀ j j' g, ins.getD j .dead ≠ .dead → ins.getD j' .dead ≠ .dead → ρ j = some (some g) → ρ j' = some (some g) → j = j'
  out : ∀ j g, ins.getD j .dead ≠ .dead → ρ j = some (some g) → ¬ st g
/-- What may be read behind a call. -/
def stO (w w' : World) (st own : Nat → Prop) (ρ : Nat → Option (Option Nat)) (outs : List Obj) (g : Nat) : Prop :=
  (st g ∨ own g ∨ (w.heap.size ≤ g ∧ g < w'.heap.size)) ∧ ∀ j, outs.getD j .dead ≠ .dead → ρ j ≠ some (some g)
/-- What a call leaves: of what was there nothing has turned but the objects handed in; its value; the objects behind it. -/
structure OutsAt (w w' : World) (st : Nat → Prop) (ρ ρ' : Nat → Option (Option Nat)) (ins : List Obj) (ret : D) (outs : List Obj) (v : Value) : Prop where
  below : BelowO (ownI ins ρ) w w'
  keep : ∀ j, j < ins.length → ρ' j = ρ j
  ret : R w' (stO w w' st (ownI ins ρ) ρ' outs) ρ' ret v
  objs : ∀ j, RO w' (stO w w' st (ownI ins ρ) ρ' outs) ρ' j (outs.getD j .dead)
  fresh : ∀ j g, outs.getD j .dead ≠ .dead → ρ' j = some (some g) → w.heap.size ≤ g ∨ ownI ins ρ g
  inj : ∀ j j' g, outs.getD j .dead ≠ .dead → outs.getD j' .dead ≠ .dead → ρ' j = some (some g) → ρ' j' = some (some g) → j = j'
/-- A function by value: with the objects ins (named 0, 1, ..) and arguments that read as args it makes ret and leaves the objects outs (the first of them under the names of ins). -/
structure MCalls (P : Program) (f : FuncId) (ins : List Obj) (args : List D) (ret : D) (outs : List Obj) : Prop where
  call : ∀ as w, (callFunc f as).run P w = .ok (.enter f as) w
  run : ∀ (w : World) (st : Nat → Prop) (ρ : Nat → Option (Option Nat)) (vs : List Value), (∀ g, st g → g < w.heap.size) → InsOK w st ρ ins → RL w st ρ args vs →
    Calls P f vs.toArray w fun e w' => ∃ v, e = .returned v ∧ ∃ ρ', OutsAt w w' st ρ ρ' ins ret outs v
/-- A function by value, of whose outcome only the family is known. -/
structure XCalls (P : Program) (f : FuncId) (ins : List Obj) (args : List D) {τ : Type} (I : τ → Prop) (ret : τ → D) (outs : τ → List Obj) : Prop where
  call : ∀ as w, (callFunc f as).run P w = .ok (.enter f as) w
  run : ∀ (w : World) (st : Nat → Prop) (ρ : Nat → Option (Option Nat)) (vs : List Value), (∀ g, st g → g < w.heap.size) → InsOK w st ρ ins → RL w st ρ args vs →
    Calls P f vs.toArray w fun e w' => ∃ t, I t ∧ ∃ v, e = .returned v ∧ ∃ ρ', OutsAt w w' st ρ ρ' ins (ret t) (outs t) v
/-- A function to which no object is handed. -/
abbrev ACalls (P : Program) (f : FuncId) (args : List D) (ret : D) (objs : List Obj) : Prop := MCalls P f [] args ret objs

mutual
/-- Names by a list: name j becomes ids[j]. -/
def nmD (ids : List Nat) : D → D
  | .ref o off => .ref (ids.getD o 0) off
  | .elt o k i off => .elt (ids.getD o 0) k i off
  | .slo o k off len => .slo (ids.getD o 0) k off len
  | .agg cs => .agg (nmL ids cs)
  | .tup cs => .tup (nmL ids cs)
  | .fn f cs => .fn f (nmL ids cs)
  | .any => .any
  | .sc v => .sc v
  | .sl k rows => .sl k rows
  | .ro cs => .ro cs
def nmL (ids : List Nat) : List D → List D
  | [] => []
  | d :: ds => nmD ids d :: nmL ids ds
end
mutual
/-- All names in it are below n. -/
def ltD (n : Nat) : D → Bool
  | .ref o _ | .elt o _ _ _ | .slo o _ _ _ => decide (o < n)
  | .agg cs | .tup cs | .fn _ cs => ltL n cs
  | _ => true
def ltL (n : Nat) : List D → Bool
  | [] => true
  | d :: ds => ltD n d && ltL n ds
end
mutual
theorem R.nm {w : World} {st : Nat → Prop} {ρ ρ' : Nat → Option (Option Nat)} {ids : List Nat} {n : Nat} (h : ∀ j, j < n → ρ' (ids.getD j 0) = ρ j) : ∀ {d : D} {v : Value}, ltD n d = true → R w st ρ d v → R w st ρ' (nmD ids d) v
  | .any, _, _, _ => by simp [nmD, R]
  | .sc _, _, _, hr => by simpa [nmD, R] using hr
  | .sl _ _, _, _, hr => by simpa [nmD, R] using hr
  | .ro _, _, _, hr => by simpa [nmD, R] using hr
  | .agg _, _, hl, hr | .tup _, _, hl, hr | .fn _ _, _, hl, hr => by
    simp only [ltD] at hl
    simp only [nmD, R] at hr ⊢
    obtain ⟨vs, h1, h2⟩ := hr
    exact ⟨vs, h1, RL.nm h hl h2⟩
  | .ref .., _, hl, hr | .elt .., _, hl, hr | .slo .., _, hl, hr => by
    simp only [ltD, decide_eq_true_eq] at hl
    simp only [nmD, R] at hr ⊢
    rw [h _ hl]; exact hr
theorem RL.nm {w : World} {st : Nat → Prop} {ρ ρ' : Nat → Option (Option Nat)} {ids : List Nat} {n : Nat} (h : ∀ j, j < n → ρ' (ids.getD j 0) = ρ j) : ∀ {ds : List D} {vs : List Value}, ltL n ds = true → RL w st ρ ds vs → RL w st ρ' (nmL ids ds) vs
  | [], _, _, hr => by simpa [nmL, RL] using hr
  | _ :: _, _, hl, hr => by
    simp only [ltL, Bool.and_eq_true] at hl
    simp only [nmL, RL] at hr ⊢
    obtain ⟨v, vs', h1, h2, h3⟩ := hr
    exact ⟨v, vs', h1, R.nm h hl.1 h2, RL.nm h hl.2 h3⟩
end

def St.kills (σ : St) : List Nat → St
  | [] => σ
  | o :: os => (σ.kill o).kills os
section
variable {w0 : World} {p : Pm} {σ : St} {a : Act} {w : World} {ρ : Nat → Option (Option Nat)}
theorem RelAt.kills {ids : List Nat} : ∀ {σ : St} {ρ ρ' : Nat → Option (Option Nat)}, RelAt w0 p σ a w ρ → (∀ o, o ∉ ids → ρ' o = ρ o) → (∀ o, 1000 ≤ o → ρ' o = ρ o) → RelAt w0 p (σ.kills ids) a w ρ' := by
  induction ids with
  | nil => intro σ ρ ρ' h hρ _; have : ρ' = ρ := funext fun o => hρ o (by simp); rw [this]; exact h
  | cons o os ih =>
    intro σ ρ ρ' h hρ hp
    refine ih (ρ := fun x => if x = o then ρ' x else ρ x) (h.kill o (fun o' e => by simp [e]) (fun h1 => by simp [hp o h1])) (fun o' e => ?_) (fun o' h1 => ?_)
    · by_cases e' : o' = o
      · simp [e']
      · simp only [e', if_false]
        exact hρ o' (by simp [e', e])
    · by_cases e' : o' = o
      · simp [e']
      · simp only [e', if_false]; exact hp o' h1
theorem hget_kills {ids : List Nat} {o : Nat} : ∀ {σ : St}, hget σ.heap o = .dead → hget (σ.kills ids).heap o = .dead := by
  induction ids with
  | nil => intro σ h; exact h
  | cons x os ih =>
    intro σ h
    refine ih ?_
    rw [hget_kill]
    split
    · rfl
    · rw [h]; rfl
theorem hget_kills_in {ids : List Nat} {o : Nat} : ∀ {σ : St}, o ∈ ids → hget (σ.kills ids).heap o = .dead := by
  induction ids with
  | nil => intro σ h; cases h
  | cons x os ih =>
    intro σ h
    by_cases e : o = x
    · subst e
      exact hget_kills (σ := σ.kill o) (by rw [hget_kill]; simp)
    · exact ih (by simpa [e] using h)
theorem hhas_hset {h : List (Nat × Obj)} {o o' : Nat} {y : Obj} : hhas (hset h o y) o' = hhas h o' := by
  induction h with
  | nil => simp [hset]
  | cons q h ih =>
    obtain ⟨q, x⟩ := q
    by_cases e : q = o
    · simp [hset, hhas, e]
    · simp [hset, hhas, e, ih]
theorem hhas_kills {ids : List Nat} {o : Nat} : ∀ {σ : St}, hhas (σ.kills ids).heap o = hhas σ.heap o := by
  induction ids with
  | nil => intro σ; rfl
  | cons x os ih => intro σ; rw [St.kills, ih, St.kill, hhas_hset, hhas_hclr]

theorem hget_kills_live {ids : List Nat} {o : Nat} : ∀ {σ : St}, o ∉ ids → hget σ.heap o ≠ .dead → hget (σ.kills ids).heap o ≠ .dead := by
  induction ids with
  | nil => intro σ _ h; exact h
  | cons x os ih =>
    intro σ hn h
    simp only [List.mem_cons, not_or] at hn
    refine ih (σ := σ.kill x) hn.2 ?_
    rw [hget_kill, if_neg hn.1, Obj.clr_dead]
    exact h
/-- An object's names by a list. -/
def nmO (ids : List Nat) : Obj → Obj
  | .box cs => .box (nmL ids cs)
  | .dead => .dead
  | .row k rows => .row k rows
  | .ext e => .ext e
def ltO (n : Nat) : Obj → Bool
  | .box cs => ltL n cs
  | _ => true
theorem nmO_dead {ids : List Nat} {x : Obj} : nmO ids x = .dead ↔ x = .dead := by cases x <;> simp [nmO]
theorem RO.nm {st : Nat → Prop} {ρ' : Nat → Option (Option Nat)} {ids : List Nat} {n j : Nat} {x : Obj} (hρ : ∀ j, j < n → ρ' (ids.getD j 0) = ρ j) (hj : j < n) (hl : ltO n x = true) (h : RO w st ρ j x) : RO w st ρ' (ids.getD j 0) (nmO ids x) := by
  cases x with
  | dead => simp [nmO, RO]
  | row k rows => simp only [RO, nmO, hρ j hj] at h ⊢; exact h
  | box cs =>
    simp only [RO, nmO, hρ j hj] at h ⊢
    obtain ⟨g, cur, e, h1, h2, h3⟩ := h
    exact ⟨g, cur, e, h1, h2, RL.nm hρ (by simpa [ltO] using hl) h3⟩
  | ext e => simp only [RO, nmO, hρ j hj] at h ⊢; exact h

/-- Many objects laid. -/
def hputs (h : List (Nat × Obj)) : List Nat → List Obj → List (Nat × Obj)
  | o :: os, x :: xs => hputs (hset h o x) os xs
  | _, _ => h
theorem hget_hputs_out {ids : List Nat} {o : Nat} : ∀ {h : List (Nat × Obj)} {xs : List Obj}, o ∉ ids → hget (hputs h ids xs) o = hget h o := by
  induction ids with
  | nil => intro h xs _; cases xs <;> rfl
  | cons x os ih =>
    intro h xs ho
    cases xs with
    | nil => rfl
    | cons y ys =>
      simp only [List.mem_cons, not_or] at ho
      rw [hputs, ih ho.2, hget_hset_other ho.1]
theorem hget_hputs_in {ids : List Nat} : ∀ {h : List (Nat × Obj)} {xs : List Obj} {j : Nat} {x : Obj}, ids.Nodup → (∀ o ∈ ids, hhas h o = true) → j < ids.length → xs[j]? = some x →
    hget (hputs h ids xs) (ids.getD j 0) = x := by
  induction ids with
  | nil => intro h xs j x _ _ hj; simp at hj
  | cons x os ih =>
    intro h xs j y hn hh hj hx
    cases xs with
    | nil => simp at hx
    | cons z ys =>
      simp only [List.nodup_cons] at hn
      cases j with
      | zero =>
        simp only [List.getElem?_cons_zero, Option.some.injEq] at hx
        subst hx
        simp only [List.getD_cons_zero, hputs]
        rw [hget_hputs_out hn.1, hget_hset_same (hh x (by simp))]
      | succ j =>
        simp only [List.getElem?_cons_succ] at hx
        simp only [List.length_cons] at hj
        simp only [List.getD_cons_succ, hputs]
        exact ih hn.2 (fun o ho => by rw [hhas_hset]; exact hh o (by simp [ho])) (by omega) hx

/-- Behind a call: the objects handed in have turned; new ones get names here. -/
def St.imp_ (σ : St) (dst : Option Nat) (ins new : List Nat) (ret : D) (outs : List Obj) : St :=
  St.put { σ.kills new with heap := hputs (σ.kills new).heap (ins ++ new) (outs.map (nmO (ins ++ new))) } dst (nmD (ins ++ new) ret)

/-- The value of a contract does not hang on what may be read of the world before. -/
def Flat (ret : D) (objs : List Obj) : Prop :=
  (∀ w st st' ρ v, R w st ρ ret v → R w st' ρ ret v) ∧ (∀ x, x ∈ objs → ∀ w st st' ρ j, RO w st ρ j x → RO w st' ρ j x)

theorem getD_idx {ids : List Nat} {o : Nat} (h : o ∈ ids) : ids.idxOf o < ids.length ∧ ids.getD (ids.idxOf o) 0 = o := by
  have hlt := List.idxOf_lt_length_of_mem h
  refine ⟨hlt, ?_⟩
  simp [List.getD, List.getElem?_eq_getElem hlt]
theorem idx_getD {ids : List Nat} (hn : ids.Nodup) {j : Nat} (hj : j < ids.length) : ids.idxOf (ids.getD j 0) = j := by
  simp only [List.getD, List.getElem?_eq_getElem hj, Option.getD_some]
  exact hn.idxOf_getElem j hj

/-- The objects N turn; the names of the others stay. -/
theorem RelAt.turn (h : RelAt w0 p σ a w ρ) {heap' : List (Nat × Obj)} {w' : World} (N : Nat → Prop)
    (hold : ∀ o, ¬ N o → hget heap' o = hget σ.heap o)
    (hnew : ∀ o g, N o → hget heap' o ≠ .dead → ρ o = some (some g) → w.heap.size ≤ g ∨ ∃ o', N o' ∧ hget σ.heap o' ≠ .dead ∧ ρ o' = some (some g))
    (hinj : ∀ o o' g, N o → N o' → hget heap' o ≠ .dead → hget heap' o' ≠ .dead → ρ o = some (some g) → ρ o' = some (some g) → o = o')
    (hw : ∀ g, g < w.heap.size → (∀ o, N o → hget σ.heap o ≠ .dead → ρ o ≠ some (some g)) → w'.heap[g]? = w.heap[g]?) (hs : ∀ g n, Sh w g n → Sh w' g n) (hsz : w.heap.size ≤ w'.heap.size) (hos : w'.os = w.os) (htp : w'.tape = w.tape) (hout : w'.output = w.output)
    (hx : ∀ o, N o → ∀ st : Nat → Prop, (∀ g, stab p σ.heap ρ w g → st g) → (∀ g, ((w.heap.size ≤ g ∧ g < w'.heap.size) ∨ ∃ o', N o' ∧ hget σ.heap o' ≠ .dead ∧ ρ o' = some (some g)) → (∀ o, N o → hget heap' o ≠ .dead → ρ o ≠ some (some g)) → st g) → RO w' st ρ o (hget heap' o)) :
    RelAt w0 p { σ with heap := heap' } a w' ρ ∧ (∀ g, stab p σ.heap ρ w g → stab p heap' ρ w' g) ∧
      (∀ g, ((w.heap.size ≤ g ∧ g < w'.heap.size) ∨ ∃ o', N o' ∧ hget σ.heap o' ≠ .dead ∧ ρ o' = some (some g)) → (∀ o, N o → hget heap' o ≠ .dead → ρ o ≠ some (some g)) → stab p heap' ρ w' g) := by
  have hnd : ∀ g, stab p σ.heap ρ w g → ∀ o, N o → hget heap' o ≠ .dead → ρ o ≠ some (some g) := by
    intro g hg o ho hl e
    rcases hnew o g ho hl e with h1 | ⟨o', h1, h2, h3⟩
    · have := hg.2.1; omega
    · exact hg.2.2 o' h2 h3
  have hc : ∀ g off, stab p σ.heap ρ w g → w'.cell? ⟨g, off, none⟩ = w.cell? ⟨g, off, none⟩ := fun g off hg => World.cell?_of_block (w := w) (a := ⟨g, off, none⟩) (hw g hg.2.1 (fun o _ hl => hg.2.2 o hl))
  have hst : ∀ g, stab p σ.heap ρ w g → stab p heap' ρ w' g := by
    intro g hg
    refine ⟨hg.1, Nat.lt_of_lt_of_le hg.2.1 hsz, fun o' ho' => ?_⟩
    by_cases e : N o'
    · exact hnd g hg o' e ho'
    · rw [hold o' e] at ho'; exact hg.2.2 o' ho'
  have hst2 : ∀ g, ((w.heap.size ≤ g ∧ g < w'.heap.size) ∨ ∃ o', N o' ∧ hget σ.heap o' ≠ .dead ∧ ρ o' = some (some g)) → (∀ o, N o → hget heap' o ≠ .dead → ρ o ≠ some (some g)) → stab p heap' ρ w' g := by
    intro g hg1 hg3
    refine ⟨?_, ?_, fun o' ho' => ?_⟩
    · rcases hg1 with hg1 | ⟨o', h1, h2, h3⟩
      · exact h.open_ g (.inl (Nat.le_trans h.below.size hg1.1))
      · exact h.open_ g (h.fresh o' g h2 h3)
    · rcases hg1 with hg1 | ⟨o', h1, h2, h3⟩
      · exact hg1.2
      · exact Nat.lt_of_lt_of_le ((h.objs o').lt h2 h3) hsz
    · by_cases e : N o'
      · exact hg3 o' e ho'
      · rw [hold o' e] at ho'
        intro e'
        have hlt := (h.objs o').lt ho' e'
        rcases hg1 with hg1 | ⟨o2, h1, h2, h3⟩
        · omega
        · exact e (h.inj o' o2 g ho' h2 e' h3 ▸ h1)
  refine ⟨⟨h.open_, h.defers, RL.mono hc hs hst h.slots, fun o' => ?_, fun o1 o2 g h1 h2 e1 e2 => ?_, fun o1 g h1 e1 => ?_, ?_, h.pin⟩, hst, hst2⟩
  · by_cases e : N o'
    · exact hx o' e _ hst hst2
    · show RO w' _ ρ o' (hget heap' o')
      rw [hold o' e]
      by_cases hd : hget σ.heap o' = .dead
      · rw [hd]; simp [RO]
      · refine RO.mono hc hs hst (fun g hg => hw g ((h.objs o').lt hd hg) (fun o ho hl e' => ?_)) (h.objs o')
        exact e (h.inj o' o g hd hl hg e' ▸ ho)
  · change hget heap' o1 ≠ .dead at h1
    change hget heap' o2 ≠ .dead at h2
    have cross : ∀ o1 o2, N o1 → ¬ N o2 → hget heap' o1 ≠ .dead → hget heap' o2 ≠ .dead → ρ o1 = some (some g) → ρ o2 = some (some g) → False := by
      intro o1 o2 n1 n2 h1 h2 e1 e2
      rw [hold o2 n2] at h2
      rcases hnew o1 g n1 h1 e1 with h3 | ⟨o3, h3, h4, h5⟩
      · have := (h.objs o2).lt h2 e2; omega
      · exact n2 (h.inj o3 o2 g h4 h2 h5 e2 ▸ h3)
    by_cases n1 : N o1 <;> by_cases n2 : N o2
    · exact hinj o1 o2 g n1 n2 h1 h2 e1 e2
    · exact (cross o1 o2 n1 n2 h1 h2 e1 e2).elim
    · exact (cross o2 o1 n2 n1 h2 h1 e2 e1).elim
    · rw [hold o1 n1] at h1
      rw [hold o2 n2] at h2
      exact h.inj o1 o2 g h1 h2 e1 e2
  · change hget heap' o1 ≠ .dead at h1
    by_cases n1 : N o1
    · rcases hnew o1 g n1 h1 e1 with h3 | ⟨o3, h3, h4, h5⟩
      · exact .inl (Nat.le_trans h.below.size h3)
      · exact h.fresh o3 g h4 h5
    · rw [hold o1 n1] at h1; exact h.fresh o1 g h1 e1
  · refine h.below.trans (own' := fun k => ∃ o, N o ∧ hget σ.heap o ≠ .dead ∧ ρ o = some (some k)) ⟨hos, htp, hout, hsz, fun k hk hn => hw k hk (fun o ho hl e => hn ⟨o, ho, hl, e⟩), hs⟩ ?_
    rintro g hg ⟨o, ho, hl, e⟩
    rcases h.fresh o g hl e with h3 | h3
    · omega
    · exact h3

/-- Names of a contract in a frame. -/
def ρIn (ρ : Nat → Option (Option Nat)) (ids : List Nat) (j : Nat) : Option (Option Nat) := if j < ids.length then ρ (ids.getD j 0) else none
theorem getD_map_nmO {ids : List Nat} {outs : List Obj} {j : Nat} (hj : j < outs.length) : (outs.map (nmO ids))[j]? = some (nmO ids (outs.getD j .dead)) := by
  simp [List.getD, List.getElem?_eq_getElem hj]
theorem RelAt.call (h : RelAt w0 p σ a w ρ) {w' : World} {v : Value} {dst : Option Nat} {ins new : List Nat} {xs : List Obj} {ret : D} {outs : List Obj} {st : Nat → Prop} {ρc : Nat → Option (Option Nat)}
    (hxl : xs.length = ins.length) (hxd : ∀ j, j < ins.length → xs.getD j .dead ≠ .dead → hget σ.heap (ins.getD j 0) ≠ .dead)
    (ho : OutsAt w w' st (ρIn ρ ins) ρc xs ret outs v) (hn : (ins ++ new).Nodup) (hlen : (ins ++ new).length = outs.length) (hh : ∀ o ∈ ins ++ new, hhas σ.heap o = true) (hnew : ∀ o ∈ new, o < 1000) (hlt : ltD outs.length ret = true) (hlo : outs.all (ltO outs.length) = true)
    (hst : (∀ g, st g → stab p σ.heap ρ w g) ∨ Flat ret outs) : Rel w0 p (σ.imp_ dst ins new ret outs) (a.put dst v) w' := by
  let ρ' : Nat → Option (Option Nat) := fun o => if o ∈ new then ρc ((ins ++ new).idxOf o) else ρ o
  have hdisj : ∀ o, o ∈ ins → o ∉ new := fun o h1 h2 => (List.nodup_append.1 hn).2.2 o h1 o h2 rfl
  have hin : ∀ j, j < outs.length → ρ' ((ins ++ new).getD j 0) = ρc j := by
    intro j hj
    rw [← hlen] at hj
    by_cases hji : j < ins.length
    · have hg : (ins ++ new).getD j 0 = ins.getD j 0 := by simp [List.getD, List.getElem?_append_left hji]
      have hm : ins.getD j 0 ∈ ins := by simp only [List.getD, List.getElem?_eq_getElem hji, Option.getD_some]; exact List.getElem_mem hji
      rw [hg]
      simp only [ρ', hdisj _ hm, if_false]
      rw [ho.keep j (by omega)]
      simp only [ρIn, hji, if_true]
    · have hm : (ins ++ new).getD j 0 ∈ new := by
        have hj' : j - ins.length < new.length := by rw [List.length_append] at hj; omega
        simp only [List.getD, List.getElem?_append_right (Nat.le_of_not_lt hji), List.getElem?_eq_getElem hj', Option.getD_some]
        exact List.getElem_mem hj'
      simp only [ρ', hm, if_true, idx_getD hn hj]
  have hk : RelAt w0 p (σ.kills new) a w ρ' := h.kills (fun o e => by simp [ρ', e]) (fun o h1 => by have h2 : o ∉ new := fun e => absurd (hnew o e) (by omega); simp [ρ', h2])
  have hliveK : ∀ o, hget (σ.kills new).heap o ≠ .dead → o ∉ new ∧ hget σ.heap o ≠ .dead := by
    intro o hl
    exact ⟨fun e => hl (hget_kills_in e), fun e => hl (hget_kills e)⟩
  have hliveK' : ∀ o, o ∉ new → hget σ.heap o ≠ .dead → hget (σ.kills new).heap o ≠ .dead := by
    intro o hno hl
    exact hget_kills_live hno hl
  have hobj : ∀ o, o ∈ ins ++ new → ∃ j, j < outs.length ∧ o = (ins ++ new).getD j 0 ∧ hget (hputs (σ.kills new).heap (ins ++ new) (outs.map (nmO (ins ++ new)))) o = nmO (ins ++ new) (outs.getD j .dead) := by
    intro o hm
    obtain ⟨hl, he⟩ := getD_idx hm
    refine ⟨(ins ++ new).idxOf o, by omega, he.symm, ?_⟩
    have := hget_hputs_in (h := (σ.kills new).heap) (xs := outs.map (nmO (ins ++ new))) hn (fun o ho => by rw [hhas_kills]; exact hh o ho) hl (getD_map_nmO (by omega))
    rwa [he] at this
  have hlo' : ∀ j, ltO outs.length (outs.getD j .dead) = true := by
    intro j
    by_cases hj : j < outs.length
    · have := List.all_eq_true.1 hlo (outs.getD j .dead) (by simp only [List.getD, List.getElem?_eq_getElem hj, Option.getD_some]; exact List.getElem_mem hj)
      simpa using this
    · simp [List.getD, List.getElem?_eq_none (Nat.le_of_not_lt hj), ltO]
  -- the blocks of the objects handed in
  have hown : ∀ g, ownI xs (ρIn ρ ins) g → ∃ o', o' ∈ ins ++ new ∧ hget (σ.kills new).heap o' ≠ .dead ∧ ρ' o' = some (some g) := by
    rintro g ⟨j, h1, h2⟩
    have hj : j < ins.length := by
      by_cases hj : j < ins.length
      · exact hj
      · exfalso; apply h1; simp [List.getD, List.getElem?_eq_none (show xs.length ≤ j by omega)]
    have hm : ins.getD j 0 ∈ ins := by simp only [List.getD, List.getElem?_eq_getElem hj, Option.getD_some]; exact List.getElem_mem hj
    refine ⟨ins.getD j 0, List.mem_append.2 (.inl hm), hliveK' _ (hdisj _ hm) (hxd j hj h1), ?_⟩
    simp only [ρ', hdisj _ hm, if_false]
    simpa [ρIn, hj] using h2
  have hturn := hk.turn (w' := w') (heap' := hputs (σ.kills new).heap (ins ++ new) (outs.map (nmO (ins ++ new)))) (· ∈ ins ++ new) (fun o e => hget_hputs_out e)
    (fun o g hm hl hg => by
      obtain ⟨j, hj, he, hx⟩ := hobj o hm
      rw [hx] at hl
      rw [he, hin j hj] at hg
      rcases ho.fresh j g (fun e => hl (by rw [e]; rfl)) hg with h1 | h1
      · exact .inl h1
      · exact .inr (hown g h1))
    (fun o1 o2 g m1 m2 l1 l2 e1 e2 => by
      obtain ⟨j1, hj1, he1, hx1⟩ := hobj o1 m1
      obtain ⟨j2, hj2, he2, hx2⟩ := hobj o2 m2
      rw [hx1] at l1
      rw [hx2] at l2
      rw [he1, hin j1 hj1] at e1
      rw [he2, hin j2 hj2] at e2
      rw [he1, he2, ho.inj j1 j2 g (fun e => l1 (by rw [e]; rfl)) (fun e => l2 (by rw [e]; rfl)) e1 e2])
    (fun g hg hnot => ho.below.block g hg (fun hog => by
      obtain ⟨o', h1, h2, h3⟩ := hown g hog
      exact hnot o' h1 h2 h3))
    ho.below.shp ho.below.size ho.below.os ho.below.tape ho.below.output
    (fun o hm st2 h1 h2 => by
      obtain ⟨j, hj, he, hx⟩ := hobj o hm
      rw [hx, he]
      refine RO.nm hin hj (hlo' j) ?_
      have hro := ho.objs j
      rcases hst with hst | hst
      · refine RO.mono (fun _ _ _ => rfl) (fun _ _ hh => hh) (fun g hg => ?_) (fun _ _ => rfl) hro
        have hnc : ∀ o, o ∈ ins ++ new → hget (hputs (σ.kills new).heap (ins ++ new) (outs.map (nmO (ins ++ new)))) o ≠ .dead → ρ' o ≠ some (some g) := by
          intro o2 m2 l2 e2
          obtain ⟨j2, hj2, he2, hx2⟩ := hobj o2 m2
          rw [hx2] at l2
          rw [he2, hin j2 hj2] at e2
          exact hg.2 j2 (fun e => l2 (by rw [e]; rfl)) e2
        rcases hg.1 with hg1 | hg1 | hg1
        · have hs := hst g hg1
          refine h1 g ⟨hs.1, hs.2.1, fun o' ho' e => ?_⟩
          obtain ⟨n1, l1⟩ := hliveK o' ho'
          simp only [ρ', n1, if_false] at e
          exact hs.2.2 o' l1 e
        · exact h2 g (.inr (hown g hg1)) hnc
        · exact h2 g (.inl hg1) hnc
      · by_cases hjl : j < outs.length
        · exact hst.2 _ (by simp only [List.getD, List.getElem?_eq_getElem hjl, Option.getD_some]; exact List.getElem_mem hjl) _ _ _ _ _ hro
        · omega)
  obtain ⟨hrel, hmono1, hmono2⟩ := hturn
  refine ⟨ρ', ?_⟩
  refine RelAt.put hrel dst ?_
  refine R.nm hin hlt ?_
  rcases hst with hst | hst
  · refine R.mono (fun _ _ _ => rfl) (fun _ _ hh => hh) (fun g hg => ?_) ho.ret
    have hnc : ∀ o, o ∈ ins ++ new → hget (hputs (σ.kills new).heap (ins ++ new) (outs.map (nmO (ins ++ new)))) o ≠ .dead → ρ' o ≠ some (some g) := by
      intro o2 m2 l2 e2
      obtain ⟨j2, hj2, he2, hx2⟩ := hobj o2 m2
      rw [hx2] at l2
      rw [he2, hin j2 hj2] at e2
      exact hg.2 j2 (fun e => l2 (by rw [e]; rfl)) e2
    rcases hg.1 with hg1 | hg1 | hg1
    · have hs := hst g hg1
      refine hmono1 g ⟨hs.1, hs.2.1, fun o' ho' e => ?_⟩
      obtain ⟨n1, l1⟩ := hliveK o' ho'
      simp only [ρ', n1, if_false] at e
      exact hs.2.2 o' l1 e
    · exact hmono2 g (.inr (hown g hg1)) hnc
    · exact hmono2 g (.inl hg1) hnc
  · exact hst.1 _ _ _ _ _ ho.ret
end
/-- Is an operation wanted, in a state? -/
def gB (want : Bool) : D → Option Bool
  | .sc (.bool b) => some (b == want)
  | .sc (.tuple _) => some false
  | _ => none
theorem gB_bool (want b : Bool) : gB want (.sc (.bool b)) = some (b == want) := rfl
theorem gB_undef (want : Bool) : gB want (.sc undef) = some false := rfl
def aguard (all : Array Oper) (σ : St) (o : Oper) : Option Bool :=
  match o.guard with
  | none => some true
  | some (j, want) => ((all[j]?).bind (·.dst)).bind fun t => gB want (σ.slots.getD t .any)
theorem yielded_un {σ : St} {all : Array Oper} {w0 : World} {p : Pm} {a : Act} {w : World} (hr : Rel w0 p σ a w) {j t : Nat} {vs : Array Value} (hj : (all[j]?).bind (·.dst) = some t) (hb : σ.slots.getD t .any = .sc (.tuple vs)) :
    yielded all a.tmps j = none := by
  obtain ⟨ρ, hr⟩ := hr
  cases hd : σ.slots[t]? with
  | none => simp [List.getD, hd] at hb
  | some d =>
    simp only [List.getD, hd, Option.getD_some] at hb
    subst hb
    obtain ⟨v, h1, h2⟩ := RL_get hr.slots hd
    simp only [R] at h2
    subst h2
    rw [Array.getElem?_toList] at h1
    unfold yielded
    rw [hj]
    simp [h1]
theorem aguard_wanted {all : Array Oper} {σ : St} {o : Oper} {w0 : World} {p : Pm} {a : Act} {w : World} {g : Bool} (hg : aguard all σ o = some g) (hr : Rel w0 p σ a w) : Region.wanted o (yielded all a.tmps) = g := by
  unfold aguard at hg
  split at hg
  · rename_i hgd
    simp only [Option.some.injEq] at hg
    simp [Region.wanted, hgd, hg]
  · rename_i j want hgd
    simp only [Option.bind_eq_some_iff] at hg
    obtain ⟨t, ⟨oj, hoj, ht⟩, hg⟩ := hg
    have hj : (all[j]?).bind (·.dst) = some t := by rw [hoj]; exact ht
    unfold gB at hg
    split at hg
    · rename_i b hb
      simp only [Option.some.injEq] at hg
      have hy := yielded_of hr hj hb
      simp only [Region.wanted, hgd, hy]
      rw [← hg]
      cases b <;> cases want <;> rfl
    · rename_i vs hb
      simp only [Option.some.injEq] at hg
      have hy := yielded_un hr hj hb
      simp only [Region.wanted, hgd, hy]
      rw [← hg]
      cases want <;> rfl
    · cases hg
end Go.Avm
