/- The abstract machine, part F: lists of operations; contracts of functions by value; calls; from a body to a contract. -/
import Derived.Test.YtaajmgncigdjjaaAvmE
namespace Go.Avm
open Go.RowKit

/-- One operation takes what reads as σ to what reads as σ'. -/
def Steps1 (P : Program) (σ : St) (o : Oper) (σ' : St) : Prop :=
  ∀ w0 p a w, Rel w0 p σ a w → ∃ v w', ((execOp a.eval o).run P w = .ok (.value v) w' ∨ (v = undef ∧ (execOp a.eval o).run P w = .ok .skip w')) ∧ Rel w0 p σ' (a.put o.dst v) w'

def TriL (P : Program) (all : Array Oper) (Q : Exit → St → Prop) (rest : List Oper) (σ : St) : Prop :=
  ∀ w0 p a w, Rel w0 p σ a w → wpList P all (fun e a' w' => ∃ σ', Q e σ' ∧ Rel w0 p σ' a' w') rest a w

section
variable {P : Program} {all : Array Oper} {Q : Exit → St → Prop} {σ σ' : St} {o : Oper} {rest : List Oper}

theorem Sound.steps {d : D} (h : Sound P σ o.op d) : Steps1 P σ o (σ.put o.dst d) := by
  rintro w0 p a w ⟨ρ, hr⟩
  obtain ⟨v, h1, h2⟩ := h w0 p a w ρ o rfl hr
  exact ⟨v, w, .inl h1, ρ, hr.put o.dst h2⟩

theorem TriL.nil (h : Q .normal σ) : TriL P all Q [] σ := fun _ _ _ _ hr => wpList_nil ⟨σ, h, hr⟩
theorem wpList_of_step {Q' : Exit → Act → World → Prop} {a : Act} {w w' : World} {v : Value} (hw : Region.wanted o (yielded all a.tmps) = true)
    (h : (execOp a.eval o).run P w = .ok (.value v) w' ∨ (v = undef ∧ (execOp a.eval o).run P w = .ok .skip w')) (hn : wpList P all Q' rest (a.put o.dst v) w') : wpList P all Q' (o :: rest) a w := by
  unfold wpList
  rw [if_pos hw]
  left
  unfold Oper.wp
  rcases h with h | ⟨hv, h⟩
  · rw [h]; exact hn
  · rw [h]; subst hv; exact hn
theorem TriL.step (hg : o.guard = none) (h : Steps1 P σ o σ') (hn : TriL P all Q rest σ') : TriL P all Q (o :: rest) σ := by
  intro w0 p a w hr
  obtain ⟨v, w', h1, h2⟩ := h w0 p a w hr
  exact wpList_of_step (by simp [Region.wanted, hg]) h1 (hn w0 p _ _ h2)
theorem yielded_of {w0 : World} {p : Nat → Prop} {a : Act} {w : World} (hr : Rel w0 p σ a w) {j t : Nat} {b : Bool} (hj : (all[j]?).bind (·.dst) = some t) (hb : σ.slots.getD t .any = .sc (.bool b)) :
    yielded all a.tmps j = some b := by
  obtain ⟨ρ, hr⟩ := hr
  cases hd : σ.slots[t]? with
  | none => simp [List.getD, hd] at hb
  | some d =>
    simp only [List.getD, hd, Option.getD_some] at hb
    subst hb
    obtain ⟨v, h1, h2⟩ := RL_get hr.slots hd
    simp only [R] at h2
    subst h2
    rw [Array.getElem?_toList] at h1
    unfold yielded
    rw [hj]
    simp [h1]
theorem TriL.stepG {j t : Nat} {want : Bool} (hg : o.guard = some (j, want)) (hj : (all[j]?).bind (·.dst) = some t) (hb : σ.slots.getD t .any = .sc (.bool want)) (h : Steps1 P σ o σ')
    (hn : TriL P all Q rest σ') : TriL P all Q (o :: rest) σ := by
  intro w0 p a w hr
  obtain ⟨v, w', h1, h2⟩ := h w0 p a w hr
  exact wpList_of_step (by simp [Region.wanted, hg, yielded_of hr hj hb]) h1 (hn w0 p _ _ h2)
theorem TriL.skipG {j t : Nat} {want b : Bool} (hg : o.guard = some (j, want)) (hj : (all[j]?).bind (·.dst) = some t) (hb : σ.slots.getD t .any = .sc (.bool b)) (hne : b ≠ want)
    (hn : TriL P all Q rest (σ.put o.dst (.sc undef))) : TriL P all Q (o :: rest) σ := by
  intro w0 p a w hr
  have hy := yielded_of hr hj hb
  obtain ⟨ρ, hr⟩ := hr
  refine wpList_skip (by simp [Region.wanted, hg, hy, hne]) (hn w0 p _ _ ⟨ρ, hr.put o.dst (by simp [R])⟩)
theorem Tri.region {id : Nat} {l : List Oper} (h : TriL P l.toArray Q l σ) : Tri P (.region id l.toArray false) Q σ :=
  fun w0 p a w hr => wp_region_lit (h w0 p a w hr)
theorem Tri.cond {c : Operand} {x y : Code} {b : Bool} (hc : evl σ c = .sc (.bool b)) (ht : b = true → Tri P x Q σ) (hf : b = false → Tri P y Q σ) : Tri P (.cond c x y) Q σ := by
  rintro w0 p a w ⟨ρ, hr⟩
  have h1 := hr.evl c
  rw [hc] at h1
  simp only [R] at h1
  exact wp_cond_split h1 (fun e => ht e w0 p a w ⟨ρ, hr⟩) (fun e => hf e w0 p a w ⟨ρ, hr⟩)
end

/-- The names of new objects in a contract. -/
def stO (w w' : World) (st : Nat → Prop) (ρ : Nat → Option (Option Nat)) (n : Nat) (g : Nat) : Prop := st g ∨ (w.heap.size ≤ g ∧ g < w'.heap.size ∧ ∀ j, j < n → ρ j ≠ some (some g))
/-- What a call leaves: nothing that was there has turned; its value; rows of its own, each once. -/
def Outs (w w' : World) (st : Nat → Prop) (ret : D) (objs : List (Nat × List (List D))) (v : Value) : Prop :=
  Below w.heap.size w w' ∧ ∃ ρ : Nat → Option (Option Nat), R w' (stO w w' st ρ objs.length) ρ ret v ∧
    (∀ j k rows, objs[j]? = some (k, rows) → RO w' (stO w w' st ρ objs.length) ρ j (.row k rows)) ∧ (∀ j g, j < objs.length → ρ j = some (some g) → w.heap.size ≤ g) ∧
    (∀ j j' g, j < objs.length → j' < objs.length → ρ j = some (some g) → ρ j' = some (some g) → j = j')
/-- A function by value: of arguments that read as args it makes ret, with rows of its own. -/
def ACalls (P : Program) (f : FuncId) (args : List D) (ret : D) (objs : List (Nat × List (List D))) : Prop :=
  (∀ as w, (callFunc f as).run P w = .ok (.enter f as) w) ∧
  ∀ (w : World) (st : Nat → Prop) (vs : List Value), (∀ g, st g → g < w.heap.size) → RL w st (fun _ => none) args vs →
    Calls P f vs.toArray w fun e w' => ∃ v, e = .returned v ∧ Outs w w' st ret objs v

mutual
/-- Names by a list: name j becomes ids[j]. -/
def nmD (ids : List Nat) : D → D
  | .ref o off => .ref (ids.getD o 0) off
  | .elt o k i off => .elt (ids.getD o 0) k i off
  | .slo o k off len => .slo (ids.getD o 0) k off len
  | .agg cs => .agg (nmL ids cs)
  | .tup cs => .tup (nmL ids cs)
  | .fn f cs => .fn f (nmL ids cs)
  | .any => .any
  | .sc v => .sc v
  | .sl k rows => .sl k rows
  | .ro cs => .ro cs
def nmL (ids : List Nat) : List D → List D
  | [] => []
  | d :: ds => nmD ids d :: nmL ids ds
end
mutual
/-- All names in it are below n. -/
def ltD (n : Nat) : D → Bool
  | .ref o _ | .elt o _ _ _ | .slo o _ _ _ => decide (o < n)
  | .agg cs | .tup cs | .fn _ cs => ltL n cs
  | _ => true
def ltL (n : Nat) : List D → Bool
  | [] => true
  | d :: ds => ltD n d && ltL n ds
end
mutual
theorem R.nm {w : World} {st : Nat → Prop} {ρ ρ' : Nat → Option (Option Nat)} {ids : List Nat} {n : Nat} (h : ∀ j, j < n → ρ' (ids.getD j 0) = ρ j) : ∀ {d : D} {v : Value}, ltD n d = true → R w st ρ d v → R w st ρ' (nmD ids d) v
  | .any, _, _, _ => by simp [nmD, R]
  | .sc _, _, _, hr => by simpa [nmD, R] using hr
  | .sl _ _, _, _, hr => by simpa [nmD, R] using hr
  | .ro _, _, _, hr => by simpa [nmD, R] using hr
  | .agg _, _, hl, hr | .tup _, _, hl, hr | .fn _ _, _, hl, hr => by
    simp only [ltD] at hl
    simp only [nmD, R] at hr ⊢
    obtain ⟨vs, h1, h2⟩ := hr
    exact ⟨vs, h1, RL.nm h hl h2⟩
  | .ref .., _, hl, hr | .elt .., _, hl, hr | .slo .., _, hl, hr => by
    simp only [ltD, decide_eq_true_eq] at hl
    simp only [nmD, R] at hr ⊢
    rw [h _ hl]; exact hr
theorem RL.nm {w : World} {st : Nat → Prop} {ρ ρ' : Nat → Option (Option Nat)} {ids : List Nat} {n : Nat} (h : ∀ j, j < n → ρ' (ids.getD j 0) = ρ j) : ∀ {ds : List D} {vs : List Value}, ltL n ds = true → RL w st ρ ds vs → RL w st ρ' (nmL ids ds) vs
  | [], _, _, hr => by simpa [nmL, RL] using hr
  | _ :: _, _, hl, hr => by
    simp only [ltL, Bool.and_eq_true] at hl
    simp only [nmL, RL] at hr ⊢
    obtain ⟨v, vs', h1, h2, h3⟩ := hr
    exact ⟨v, vs', h1, R.nm h hl.1 h2, RL.nm h hl.2 h3⟩
end

def St.kills (σ : St) : List Nat → St
  | [] => σ
  | o :: os => (σ.kill o).kills os
section
variable {w0 : World} {p : Nat → Prop} {σ : St} {a : Act} {w : World} {ρ : Nat → Option (Option Nat)}
theorem RelAt.kills {ids : List Nat} : ∀ {σ : St} {ρ ρ' : Nat → Option (Option Nat)}, RelAt w0 p σ a w ρ → (∀ o, o ∉ ids → ρ' o = ρ o) → RelAt w0 p (σ.kills ids) a w ρ' := by
  induction ids with
  | nil => intro σ ρ ρ' h hρ; have : ρ' = ρ := funext fun o => hρ o (by simp); rw [this]; exact h
  | cons o os ih =>
    intro σ ρ ρ' h hρ
    refine ih (ρ := fun x => if x = o then ρ' x else ρ x) (h.kill o (fun o' e => by simp [e])) (fun o' e => ?_)
    by_cases e' : o' = o
    · simp [e']
    · simp only [e', if_false]
      exact hρ o' (by simp [e', e])
theorem hget_kills {ids : List Nat} {o : Nat} : ∀ {σ : St}, hget σ.heap o = .dead → hget (σ.kills ids).heap o = .dead := by
  induction ids with
  | nil => intro σ h; exact h
  | cons x os ih =>
    intro σ h
    refine ih ?_
    rw [hget_kill]
    split
    · rfl
    · rw [h]; rfl
theorem hget_kills_in {ids : List Nat} {o : Nat} : ∀ {σ : St}, o ∈ ids → hget (σ.kills ids).heap o = .dead := by
  induction ids with
  | nil => intro σ h; cases h
  | cons x os ih =>
    intro σ h
    by_cases e : o = x
    · subst e
      exact hget_kills (σ := σ.kill o) (by rw [hget_kill]; simp)
    · exact ih (by simpa [e] using h)
theorem hhas_hset {h : List (Nat × Obj)} {o o' : Nat} {y : Obj} : hhas (hset h o y) o' = hhas h o' := by
  induction h with
  | nil => simp [hset]
  | cons q h ih =>
    obtain ⟨q, x⟩ := q
    by_cases e : q = o
    · simp [hset, hhas, e]
    · simp [hset, hhas, e, ih]
theorem hhas_kills {ids : List Nat} {o : Nat} : ∀ {σ : St}, hhas (σ.kills ids).heap o = hhas σ.heap o := by
  induction ids with
  | nil => intro σ; rfl
  | cons x os ih => intro σ; rw [St.kills, ih, St.kill, hhas_hset, hhas_hclr]

/-- Many objects laid. -/
def hsets (h : List (Nat × Obj)) : List Nat → List (Nat × List (List D)) → List (Nat × Obj)
  | o :: os, (k, rows) :: xs => hsets (hset h o (.row k rows)) os xs
  | _, _ => h
theorem hget_hsets_out {ids : List Nat} {o : Nat} : ∀ {h : List (Nat × Obj)} {xs : List (Nat × List (List D))}, o ∉ ids → hget (hsets h ids xs) o = hget h o := by
  induction ids with
  | nil => intro h xs _; cases xs <;> rfl
  | cons x os ih =>
    intro h xs ho
    cases xs with
    | nil => rfl
    | cons y ys =>
      obtain ⟨k, rows⟩ := y
      simp only [List.mem_cons, not_or] at ho
      rw [hsets, ih ho.2, hget_hset_other ho.1]
theorem hget_hsets_in {ids : List Nat} : ∀ {h : List (Nat × Obj)} {xs : List (Nat × List (List D))} {j k : Nat} {rows : List (List D)}, ids.Nodup → (∀ o ∈ ids, hhas h o = true) → j < ids.length → xs[j]? = some (k, rows) →
    hget (hsets h ids xs) (ids.getD j 0) = .row k rows := by
  induction ids with
  | nil => intro h xs j k rows _ _ hj; simp at hj
  | cons x os ih =>
    intro h xs j k rows hn hh hj hx
    cases xs with
    | nil => simp at hx
    | cons y ys =>
      obtain ⟨k', rows'⟩ := y
      simp only [List.nodup_cons] at hn
      cases j with
      | zero =>
        simp only [List.getElem?_cons_zero, Option.some.injEq, Prod.mk.injEq] at hx
        obtain ⟨rfl, rfl⟩ := hx
        simp only [List.getD_cons_zero, hsets]
        rw [hget_hsets_out hn.1, hget_hset_same (hh x (by simp))]
      | succ j =>
        simp only [List.getElem?_cons_succ] at hx
        simp only [List.length_cons] at hj
        simp only [List.getD_cons_succ, hsets]
        exact ih hn.2 (fun o ho => by rw [hhas_hset]; exact hh o (by simp [ho])) (by omega) hx

/-- Behind a call: its rows get names here. -/
def St.imp_ (σ : St) (dst : Option Nat) (ids : List Nat) (ret : D) (objs : List (Nat × List (List D))) : St :=
  St.put { σ.kills ids with heap := hsets (σ.kills ids).heap ids objs } dst (nmD ids ret)

/-- The value of a contract does not hang on what may be read of the world before. -/
def Flat (ret : D) (objs : List (Nat × List (List D))) : Prop :=
  (∀ w st st' ρ v, R w st ρ ret v → R w st' ρ ret v) ∧ (∀ k rows, (k, rows) ∈ objs → ∀ w st st' g off, RR w st k g off rows → RR w st' k g off rows)

theorem getD_idx {ids : List Nat} {o : Nat} (h : o ∈ ids) : ids.idxOf o < ids.length ∧ ids.getD (ids.idxOf o) 0 = o := by
  have hlt := List.idxOf_lt_length_of_mem h
  refine ⟨hlt, ?_⟩
  simp [List.getD, List.getElem?_eq_getElem hlt]
theorem idx_getD {ids : List Nat} (hn : ids.Nodup) {j : Nat} (hj : j < ids.length) : ids.idxOf (ids.getD j 0) = j := by
  simp only [List.getD, List.getElem?_eq_getElem hj, Option.getD_some]
  exact hn.idxOf_getElem j hj

theorem RelAt.call (h : RelAt w0 p σ a w ρ) {w' : World} {v : Value} {dst : Option Nat} {ids : List Nat} {ret : D} {objs : List (Nat × List (List D))} {st : Nat → Prop}
    (ho : Outs w w' st ret objs v) (hn : ids.Nodup) (hlen : ids.length = objs.length) (hh : ∀ o ∈ ids, hhas σ.heap o = true) (hlt : ltD objs.length ret = true)
    (hst : (∀ g, st g → stab p σ.heap ρ w g) ∨ Flat ret objs) : Rel w0 p (σ.imp_ dst ids ret objs) (a.put dst v) w' := by
  obtain ⟨hb, ρc, hret, hobjs, hfresh, hinj⟩ := ho
  let ρ' : Nat → Option (Option Nat) := fun o => if o ∈ ids then ρc (ids.idxOf o) else ρ o
  have hin : ∀ j, j < objs.length → ρ' (ids.getD j 0) = ρc j := by
    intro j hj
    rw [← hlen] at hj
    have hm : ids.getD j 0 ∈ ids := by
      simp only [List.getD, List.getElem?_eq_getElem hj, Option.getD_some]; exact List.getElem_mem hj
    simp only [ρ', hm, if_true, idx_getD hn hj]
  have hk : RelAt w0 p (σ.kills ids) a w ρ' := h.kills (fun o e => by simp [ρ', e])
  have hdead : ∀ o, o ∈ ids → hget (σ.kills ids).heap o = .dead := fun o e => hget_kills_in e
  have hrow : ∀ o, o ∈ ids → ∃ j k rows, j < objs.length ∧ o = ids.getD j 0 ∧ objs[j]? = some (k, rows) ∧ hget (hsets (σ.kills ids).heap ids objs) o = .row k rows := by
    intro o ho
    obtain ⟨hl, he⟩ := getD_idx ho
    have hl' : ids.idxOf o < objs.length := by omega
    have hx : objs[ids.idxOf o]? = some (objs[ids.idxOf o].1, objs[ids.idxOf o].2) := List.getElem?_eq_getElem hl'
    refine ⟨ids.idxOf o, _, _, hl', he.symm, hx, ?_⟩
    have := hget_hsets_in (h := (σ.kills ids).heap) hn (fun o ho => by rw [hhas_kills]; exact hh o ho) hl hx
    rwa [he] at this
  have hgN : ∀ o g, o ∈ ids → ρ' o = some (some g) → w.heap.size ≤ g := by
    intro o g ho hg
    obtain ⟨j, k, rows, hj, he, _, _⟩ := hrow o ho
    rw [he, hin j hj] at hg
    exact hfresh j g hj hg
  have hold : ∀ o, o ∉ ids → hget (σ.kills ids).heap o ≠ .dead → hget σ.heap o ≠ .dead := by
    intro o _ hd hd'
    exact hd (hget_kills hd')
  -- what may be read behind the call
  have hmono : ∀ (st2 : Nat → Prop), (∀ g, stab p (σ.kills ids).heap ρ' w g → st2 g) → (∀ g, w.heap.size ≤ g → g < w'.heap.size → (∀ o, o ∈ ids → hget (hsets (σ.kills ids).heap ids objs) o ≠ .dead → ρ' o ≠ some (some g)) → st2 g) →
      ((∀ g, st g → stab p σ.heap ρ w g) → ∀ g, stO w w' st ρc objs.length g → st2 g) := by
    intro st2 h1 h2 hs g hg
    rcases hg with hg | ⟨g1, g2, g3⟩
    · refine h1 g ⟨(hs g hg).1, (hs g hg).2.1, fun o' ho' e => ?_⟩
      by_cases e' : o' ∈ ids
      · rw [hdead o' e'] at ho'; exact ho' rfl
      · simp only [ρ', e', if_false] at e
        exact (hs g hg).2.2 o' (hold o' e' ho') e
    · refine h2 g g1 g2 (fun o ho _ e => ?_)
      obtain ⟨j, k, rows, hj, he, _, _⟩ := hrow o ho
      rw [he, hin j hj] at e
      exact g3 j hj e
  have hborn := hk.borns (w' := w') (heap' := hsets (σ.kills ids).heap ids objs) (· ∈ ids) (fun o e => hget_hsets_out e) hdead
    (fun o g ho _ hg => ⟨fun hs => by have := hgN o g ho hg; have := hs.2.1; omega, fun o' ho' e => by
        have h1 := (hk.objs o').lt ho' e
        have h2 := hgN o g ho hg
        omega, Nat.le_trans h.below.size (hgN o g ho hg)⟩)
    (fun o1 o2 g h1 h2 _ _ e1 e2 => by
      obtain ⟨j1, _, _, hj1, he1, _, _⟩ := hrow o1 h1
      obtain ⟨j2, _, _, hj2, he2, _, _⟩ := hrow o2 h2
      rw [he1, hin j1 hj1] at e1
      rw [he2, hin j2 hj2] at e2
      rw [he1, he2, hinj j1 j2 g hj1 hj2 e1 e2])
    (fun g hg _ => hb.block g hg) (fun g n hs => Sh_of_block (hb.block g hs.lt) hs) hb.size hb.os hb.tape hb.output
    (fun o ho st2 h1 h2 => by
      obtain ⟨j, k, rows, hj, he, hx, hg⟩ := hrow o ho
      rw [hg]
      have hro := hobjs j k rows hx
      have hρ : ρ' o = ρc j := by rw [he, hin j hj]
      simp only [RO] at hro ⊢
      rw [hρ]
      split at hro
      · exact hro
      · exact hro
      · obtain ⟨cur, e, cap, r1, r2, r3, r4, r5⟩ := hro
        refine ⟨cur, e, cap, r1, r2, r3, r4, ?_⟩
        rcases hst with hst | hst
        · exact RR.mono (fun _ _ _ => rfl) (fun _ _ hh => hh) (hmono st2 h1 h2 hst) (fun _ => rfl) r5
        · exact hst.2 k rows (List.mem_of_getElem? hx) _ _ _ _ _ r5)
  refine ⟨ρ', ?_⟩
  refine RelAt.put hborn dst ?_
  have hr : R w' (stab p (hsets (σ.kills ids).heap ids objs) ρ' w') ρc ret v := by
    rcases hst with hst | hst
    · refine R.mono (fun _ _ _ => rfl) (fun _ _ hh => hh) (fun g hg => ?_) hret
      rcases hg with hg | ⟨g1, g2, g3⟩
      · refine ⟨(hst g hg).1, Nat.lt_of_lt_of_le (hst g hg).2.1 hb.size, fun o' ho' e => ?_⟩
        by_cases e' : o' ∈ ids
        · have h1 := hgN o' g e' e
          have h2 := (hst g hg).2.1
          omega
        · rw [hget_hsets_out e'] at ho'
          simp only [ρ', e', if_false] at e
          exact (hst g hg).2.2 o' (hold o' e' ho') e
      · refine ⟨h.open_ g (Nat.le_trans h.below.size g1), g2, fun o' ho' e => ?_⟩
        by_cases e' : o' ∈ ids
        · obtain ⟨j, k, rows, hj, he, _, _⟩ := hrow o' e'
          rw [he, hin j hj] at e
          exact g3 j hj e
        · rw [hget_hsets_out e'] at ho'
          have h1 := (hk.objs o').lt ho' e
          omega
    · exact hst.1 _ _ _ _ _ hret
  exact R.nm hin hlt hr
end
end Go.Avm
