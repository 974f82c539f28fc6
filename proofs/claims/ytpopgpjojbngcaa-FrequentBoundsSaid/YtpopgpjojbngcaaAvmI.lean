/- The abstract machine, part I: boxes, stores, slices that are built or made; structs that are built. -/
import Derived.Test.YtpopgpjojbngcaaAvmH
namespace Go.Avm
set_option linter.unusedVariables false
set_option linter.unusedSimpArgs false
open Go.RowKit

def splice {α : Type} (cs : List α) (off : Nat) (vs : List α) : List α := cs.take off ++ vs ++ cs.drop (off + vs.length)
theorem splice_length {α : Type} {cs vs : List α} {off : Nat} (h : off + vs.length ≤ cs.length) : (splice cs off vs).length = cs.length := by
  unfold splice; simp only [List.length_append, List.length_take, List.length_drop]; omega
theorem splice_get {α : Type} {cs vs : List α} {off j : Nat} (h : off + vs.length ≤ cs.length) : (splice cs off vs)[j]? = if off ≤ j ∧ j < off + vs.length then vs[j - off]? else cs[j]? := by
  unfold splice
  have hl : (cs.take off).length = off := by rw [List.length_take]; omega
  by_cases h1 : j < off
  · rw [if_neg (by omega), List.append_assoc, List.getElem?_append_left (by omega), List.getElem?_take_of_lt h1]
  · by_cases h2 : j < off + vs.length
    · rw [if_pos (by omega), List.getElem?_append_left (by rw [List.length_append]; omega), List.getElem?_append_right (by omega), hl]
    · rw [if_neg (by omega), List.getElem?_append_right (by rw [List.length_append]; omega), List.length_append, hl, List.getElem?_drop]
      congr 1; omega
theorem RL_splice {w : World} {st : Nat → Prop} {ρ : Nat → Option (Option Nat)} {ds es : List D} {vs us : List Value} {off : Nat} (h : RL w st ρ ds vs) (h' : RL w st ρ es us) : RL w st ρ (splice ds off es) (splice vs off us) := by
  unfold splice
  rw [RL_length h']
  exact RL_append (RL_append (RL_take off h) h') (RL_drop _ h)

section
variable {w w' : World} {st st' : Nat → Prop}
theorem RC.monoR (hc : ∀ g off, st g → w'.cell? ⟨g, off, none⟩ = w.cell? ⟨g, off, none⟩) (hs : ∀ g n, Sh w g n → Sh w' g n) (hst : ∀ g, st g → st' g) {g : Nat} : ∀ {cs : List D} {off : Nat},
    (∀ j, j < cs.length → w'.cell? ⟨g, off + j, none⟩ = w.cell? ⟨g, off + j, none⟩) → RC w st g off cs → RC w' st' g off cs
  | [], _, _, _ => by simp [RC]
  | c :: cs, off, h, hr => by
    simp only [RC] at hr ⊢
    obtain ⟨⟨v, h1, h2, h3⟩, h4⟩ := hr
    refine ⟨⟨v, ?_, h2, R.mono hc hs hst h3⟩, RC.monoR hc hs hst (fun j hj => ?_) h4⟩
    · have := h 0 (by simp)
      simp only [Nat.add_zero] at this
      exact this.trans h1
    · have := h (j + 1) (by simp only [List.length_cons]; omega)
      rwa [show off + (j + 1) = off + 1 + j by omega] at this
theorem RR_set (hc : ∀ g off, st g → w'.cell? ⟨g, off, none⟩ = w.cell? ⟨g, off, none⟩) (hs : ∀ g n, Sh w g n → Sh w' g n) (hst : ∀ g, st g → st' g) {k g : Nat} {r' : List D} (hr' : r'.length = k) :
    ∀ {rows : List (List D)} {off i : Nat}, i < rows.length → RR w st k g off rows → (∀ j, ¬ (off + i * k ≤ j ∧ j < off + i * k + k) → w'.cell? ⟨g, j, none⟩ = w.cell? ⟨g, j, none⟩) → RC w' st' g (off + i * k) r' →
      RR w' st' k g off (rows.set i r')
  | [], _, _, hi, _, _, _ => by simp at hi
  | r :: rs, off, 0, _, hrr, hout, hin => by
    simp only [RR] at hrr
    simp only [List.set_cons_zero, RR]
    have all : ∀ {rows : List (List D)} {off' : Nat}, off + k ≤ off' → RR w st k g off' rows → RR w' st' k g off' rows := by
      intro rows
      induction rows with
      | nil => intro _ _ _; simp [RR]
      | cons x xs ih =>
        intro off' hle hx
        simp only [RR] at hx ⊢
        exact ⟨hx.1, RC.monoR hc hs hst (fun j _ => hout _ (by omega)) hx.2.1, ih (by omega) hx.2.2⟩
    exact ⟨hr', by simpa using hin, all (Nat.le_refl _) hrr.2.2⟩
  | r :: rs, off, i + 1, hi, hrr, hout, hin => by
    simp only [RR] at hrr
    simp only [List.set_cons_succ, RR]
    have e : off + (i + 1) * k = off + k + i * k := by rw [Nat.add_mul]; omega
    rw [e] at hin hout
    refine ⟨hrr.1, RC.monoR hc hs hst (fun j hj => hout _ (by rw [hrr.1] at hj; omega)) hrr.2.1, RR_set hc hs hst hr' (by simpa using hi) hrr.2.2 (fun j hj => hout j hj) hin⟩
end

section
variable {P : Program} {σ : St}

theorem Steps1.box {o : Oper} {t : TypeId} {x : Operand} {d : Nat} {cs : List D} (ho : o.op = .box t x) (hdst : o.dst = some d) (hh : hfree σ.heap d = true) (hx : cellsD (evl σ x) = some cs) :
    Steps1 P σ o (St.put { σ.kills [d] with heap := hset (σ.kills [d]).heap d (.box (clrL d cs)) } (some d) (.ref d 0)) := by
  rintro w0 p a w ⟨ρ, h⟩
  obtain ⟨h1, h2⟩ := cellsD_spec hx (h.evl x)
  refine ⟨.pointer (some ⟨w.heap.size, 0, none⟩), w.alloc (.cells (a.eval x).cells t), .inl ?_, ?_⟩
  · simp [execOp, ho, Instr.box, newVar, newRow]
  · rw [hdst]
    have hnb := h.newBlock (ids := [d]) (o := d) (x := .box (clrL d cs)) (cur := (a.eval x).cells) (e := t) (by simp) hh (by simp) (fun st hst => by
      simp only [RO, updρ_same]
      refine ⟨w.heap.size, _, t, rfl, heap_alloc_new w _, ?_⟩
      exact RL.mono (fun g off hg => World.cell?_alloc_lt w _ ⟨g, off, none⟩ hg.2.1) (fun g n hs => Sh_of_block (Below.heap_alloc w _ g hs.lt) hs) hst (RL.clr (fun o' e => updρ_other e) h1))
    exact ⟨_, hnb.put (some d) (by simp only [R, updρ_same]; exact ⟨w.heap.size, rfl, rfl⟩)⟩

theorem Steps1.alloc {o : Oper} {t : TypeId} {d : Nat} {ti : TI} (ho : o.op = .alloc t) (hdst : o.dst = some d) (hh : hfree σ.heap d = true) (ht : tiGet P t = some ti) :
    Steps1 P σ o (St.put { σ.kills [d] with heap := hset (σ.kills [d]).heap d (.box (ti.zero.cells.toList.map .sc)) } (some d) (.ref d 0)) := by
  rintro w0 p a w ⟨ρ, h⟩
  obtain ⟨_, _, _, hz, _⟩ := run_ti ht w
  refine ⟨.pointer (some ⟨w.heap.size, 0, none⟩), w.alloc (.cells ti.zero.cells t), .inl ?_, ?_⟩
  · simp [execOp, ho, Instr.alloc, newVar, newRow, hz]
  · rw [hdst]
    have hnb := h.newBlock (ids := [d]) (o := d) (x := .box (ti.zero.cells.toList.map .sc)) (cur := ti.zero.cells) (e := t) (by simp) hh (by simp) (fun st hst => by
      simp only [RO, updρ_same]
      exact ⟨w.heap.size, _, t, rfl, heap_alloc_new w _, RL_sc _⟩)
    exact ⟨_, hnb.put (some d) (by simp only [R, updρ_same]; exact ⟨w.heap.size, rfl, rfl⟩)⟩

/-- The heap behind a store. -/
def storeD (σ : St) (vs : List D) : D → Option (Nat × Obj)
  | .ref o off => match hget σ.heap o with
    | .box cs => if off + vs.length ≤ cs.length then some (o, .box (splice cs off vs)) else none
    | _ => none
  | .elt o k i off => match hget σ.heap o with
    | .row k' rows => if k' = k then (rows[i]?).bind fun r => if off + vs.length ≤ r.length ∧ pureL vs = true then some (o, .row k (rows.set i (splice r off vs))) else none else none
    | _ => none
  | _ => none
theorem run_storeVar {w : World} {t : TypeId} {ti : TI} (ht : tiGet P t = some ti) {g off : Nat} {cur : Array Value} {e : TypeId} {v : Value} (hg : w.heap[g]? = some (.cells cur e (0, 0))) (hsz : v.cells.size = ti.size)
    (hfit : off + v.cells.toList.length ≤ cur.size) (h1 : ∀ u ∈ v.cells.toList, u.oneCell' = true) :
    (storeVar t ⟨g, off, none⟩ v).run P w = .ok () (w.setRow g (splice cur.toList off v.cells.toList).toArray) := by
  obtain ⟨_, hs, _⟩ := run_ti ht w
  have hst := run_storeCells_at P g off e v.cells.toList 0 cur w hg (by simpa using hfit) h1
  simp only [Nat.add_zero] at hst
  simp [storeVar, hs, hsz, hst, splice]
theorem Steps1.store {o : Oper} {t : TypeId} {ax vx : Operand} {ti : TI} {vs : List D} {oo : Nat} {x : Obj} (ho : o.op = .store t ax vx) (ht : tiGet P t = some ti) (hv : cellsD (evl σ vx) = some vs) (hl : vs.length = ti.size)
    (hs : storeD σ vs (evl σ ax) = some (oo, x)) : Steps1 P σ o (St.put { σ with heap := hset σ.heap oo x } o.dst (.sc undef)) := by
  rintro w0 p a w ⟨ρ, h⟩
  obtain ⟨h1, h2⟩ := cellsD_spec hv (h.evl vx)
  have hlen := RL_length h1
  have hsz : (a.eval vx).cells.size = ti.size := by rw [← hl, ← hlen, Array.length_toList]
  have ha := h.evl ax
  cases had : evl σ ax with
  | ref o' off =>
    rw [had] at hs ha
    simp only [storeD] at hs
    split at hs
    · rename_i cs hg
      split at hs
      · rename_i hfit
        simp only [Option.some.injEq, Prod.mk.injEq] at hs
        obtain ⟨rfl, rfl⟩ := hs
        have hro := h.objs o'
        rw [hg] at hro
        simp only [RO] at hro
        obtain ⟨g, cur, e, r1, r2, r3⟩ := hro
        simp only [R] at ha
        obtain ⟨g', a1, a2⟩ := ha
        rw [r1] at a1
        simp only [Option.some.injEq] at a1
        subst a1
        have hcl := RL_length r3
        have hct : cur.toList.length = cur.size := Array.length_toList
        have hcl' : cs.length = cur.size := by rw [← hcl, hct]
        have hrun := run_storeVar ht (w := w) (g := g) (off := off) (v := a.eval vx) r2 hsz (by rw [hlen]; omega) h2
        refine ⟨undef, _, .inr ⟨rfl, by simp [execOp, ho, Instr.storeAt, a2, Instr.sureAddr, hrun]; rfl⟩, ?_⟩
        have hu := h.upd (o := o') (g := g) (x := .box (splice cs off vs)) (cur := cur) (cur' := (splice cur.toList off (a.eval vx).cells.toList).toArray) (e := e) (by rw [hg]; simp) r1 r2
          (by rw [List.size_toArray, splice_length (by rw [hlen, hct]; omega), hct]) (by simp) (fun st hst => by
            simp only [RO]
            refine ⟨g, _, e, r1, setRow_heap w g cur _ e (0, 0) r2, ?_⟩
            have hc : ∀ k q, stab p σ.heap ρ w k → (w.setRow g (splice cur.toList off (a.eval vx).cells.toList).toArray).cell? ⟨k, q, none⟩ = w.cell? ⟨k, q, none⟩ := by
              intro k q hk
              refine World.cell?_of_block (w := w) (a := ⟨k, q, none⟩) (setRow_other w g k _ ?_)
              rintro rfl
              exact hk.2.2 o' (by rw [hg]; simp) r1
            have hsh : ∀ k n, Sh w k n → Sh (w.setRow g (splice cur.toList off (a.eval vx).cells.toList).toArray) k n := by
              intro k n hh
              by_cases e' : k = g
              · subst e'
                obtain ⟨c, e2, s1, s2⟩ := hh
                rw [r2] at s1
                simp only [Option.some.injEq, Obj.cells.injEq] at s1
                exact ⟨_, e, setRow_heap w k cur _ e (0, 0) r2, by rw [List.size_toArray, splice_length (by rw [hlen, hct]; omega), hct, s1.1, s2]⟩
              · exact Sh_of_block (setRow_other w g k _ e') hh
            have := RL_splice (off := off) r3 h1
            simpa using RL.mono hc hsh hst this)
        exact ⟨ρ, hu.put o.dst (by simp [R])⟩
      · cases hs
    · cases hs
  | elt o' k i off =>
    rw [had] at hs ha
    simp only [storeD] at hs
    split at hs
    · rename_i k' rows hg
      split at hs
      · rename_i hk
        subst hk
        simp only [Option.bind_eq_some_iff] at hs
        obtain ⟨r, hr, hs⟩ := hs
        split at hs
        · rename_i hfit
          obtain ⟨hfit, hpure⟩ := hfit
          simp only [Option.some.injEq, Prod.mk.injEq] at hs
          obtain ⟨rfl, rfl⟩ := hs
          have hro := h.objs o'
          rw [hg] at hro
          simp only [R] at ha
          obtain ⟨g, r1, a2⟩ := ha
          simp only [RO, r1] at hro
          obtain ⟨cur, e, cap, r2, r3, r4, r5, r6⟩ := hro
          obtain ⟨hrl, hrc⟩ := RR_get r6 hr
          have hi : i < rows.length := (List.getElem?_eq_some_iff.1 hr).1
          have hile : i * k' + k' ≤ cur.size := by
            have : (i + 1) * k' ≤ cap * k' := Nat.mul_le_mul_right _ (by omega)
            rw [Nat.add_mul, Nat.one_mul] at this
            have := r3.size
            omega
          rw [Nat.zero_add] at hrc
          have hct : cur.toList.length = cur.size := Array.length_toList
          have hfit2 : i * k' + off + (a.eval vx).cells.toList.length ≤ cur.toList.length := by rw [hlen, hct]; omega
          have hrun := run_storeVar ht (w := w) (g := g) (off := i * k' + off) (v := a.eval vx) r2 hsz (by rw [hct] at hfit2; exact hfit2) h2
          refine ⟨undef, _, .inr ⟨rfl, by simp [execOp, ho, Instr.storeAt, a2, Instr.sureAddr, hrun]; rfl⟩, ?_⟩
          have hsize : (splice cur.toList (i * k' + off) (a.eval vx).cells.toList).toArray.size = cur.size := by
            rw [List.size_toArray, splice_length hfit2, hct]
          have hu := h.upd (o := o') (g := g) (x := .row k' (rows.set i (splice r off vs))) (cur := cur) (cur' := (splice cur.toList (i * k' + off) (a.eval vx).cells.toList).toArray) (e := e) (by rw [hg]; simp) r1 r2 hsize (by simp) (fun st hst => by
              have hc : ∀ b q, stab p σ.heap ρ w b → (w.setRow g (splice cur.toList (i * k' + off) (a.eval vx).cells.toList).toArray).cell? ⟨b, q, none⟩ = w.cell? ⟨b, q, none⟩ := by
                intro b q hb
                refine World.cell?_of_block (w := w) (a := ⟨b, q, none⟩) (setRow_other w g b _ ?_)
                rintro rfl
                exact hb.2.2 o' (by rw [hg]; simp) r1
              have hsh : ∀ b n, Sh w b n → Sh (w.setRow g (splice cur.toList (i * k' + off) (a.eval vx).cells.toList).toArray) b n := by
                intro b n hh
                by_cases e' : b = g
                · subst e'
                  obtain ⟨c, e2, s1, s2⟩ := hh
                  rw [r2] at s1
                  simp only [Option.some.injEq, Obj.cells.injEq] at s1
                  exact ⟨_, e, setRow_heap w b cur _ e (0, 0) r2, by rw [hsize, s1.1, s2]⟩
                · exact Sh_of_block (setRow_other w g b _ e') hh
              have hcell : ∀ q, (w.setRow g (splice cur.toList (i * k' + off) (a.eval vx).cells.toList).toArray).cell? ⟨g, q, none⟩ = if i * k' + off ≤ q ∧ q < i * k' + off + (a.eval vx).cells.toList.length then (a.eval vx).cells.toList[q - (i * k' + off)]? else w.cell? ⟨g, q, none⟩ := by
                intro q
                rw [cell_of_row _ g q _ _ (0, 0) (setRow_heap w g cur _ e (0, 0) r2), cell_of_row w g q cur e (0, 0) r2, List.getElem?_toArray, splice_get hfit2, ← Array.getElem?_toList (xs := cur)]
              simp only [RO, r1]
              refine ⟨_, e, cap, setRow_heap w g cur _ e (0, 0) r2, ⟨by rw [hsize]; exact r3.size, fun v hv => ?_⟩, r4, by rw [List.length_set]; exact r5, ?_⟩
              · simp only [splice, List.mem_append] at hv
                rcases hv with (hv | hv) | hv
                · exact r3.one v (List.mem_of_mem_take hv)
                · exact h2 v hv
                · exact r3.one v (List.mem_of_mem_drop hv)
              refine RR_set hc hsh hst (by rw [splice_length hfit, hrl]) hi r6 (fun j hj => ?_) ?_
              · rw [hcell, if_neg (by omega)]
              · rw [Nat.zero_add]
                -- the row itself
                have rc : ∀ {cs : List D} {q : Nat}, RC w (stab p σ.heap ρ w) g q cs → ∃ us : List Value, RL w (stab p σ.heap ρ w) (fun _ => none) cs us ∧ (∀ v ∈ us, v.oneCell' = true) ∧ ∀ j v, us[j]? = some v → w.cell? ⟨g, q + j, none⟩ = some v := by
                  intro cs
                  induction cs with
                  | nil => intro q _; exact ⟨[], by simp [RL], by simp, by simp⟩
                  | cons c cs ih =>
                    intro q hq
                    simp only [RC] at hq
                    obtain ⟨⟨v, e1, e2, e3⟩, e4⟩ := hq
                    obtain ⟨us, f1, f2, f3⟩ := ih e4
                    refine ⟨v :: us, by simp only [RL]; exact ⟨v, us, rfl, e3, f1⟩, by simpa using ⟨e2, f2⟩, fun j u hj => ?_⟩
                    cases j with
                    | zero => simp only [List.getElem?_cons_zero, Option.some.injEq] at hj; subst hj; exact e1
                    | succ j => simp only [List.getElem?_cons_succ] at hj; have := f3 j u hj; rw [show q + (j + 1) = q + 1 + j by omega]; exact this
                obtain ⟨us, u1, u2, u3⟩ := rc hrc
                have hul := RL_length u1
                have hvp := pureL_spec (ρ' := fun _ => none) hpure h1
                have hfu : off + (a.eval vx).cells.toList.length ≤ us.length := by rw [hlen]; omega
                refine RC_of_list (vs := splice us off (a.eval vx).cells.toList) (RL.mono hc hsh hst (RL_splice u1 hvp)) (fun v hv => ?_) (fun j v hj => ?_)
                · unfold splice at hv
                  rcases List.mem_append.1 hv with hv | hv
                  · rcases List.mem_append.1 hv with hv | hv
                    · exact u2 v (List.mem_of_mem_take hv)
                    · exact h2 v hv
                  · exact u2 v (List.mem_of_mem_drop hv)
                · rw [splice_get hfu] at hj
                  rw [hcell]
                  split at hj
                  · rename_i hin
                    rw [if_pos (by omega)]
                    rw [show i * k' + j - (i * k' + off) = j - off by omega]; exact hj
                  · rename_i hin
                    rw [if_neg (by omega)]
                    exact u3 j v hj)
          exact ⟨ρ, hu.put o.dst (by simp [R])⟩
        · cases hs
      · cases hs
    · cases hs
  | any | sc | agg | sl | tup | ro | slo | fn => rw [had] at hs; simp [storeD] at hs

/-! What is built of parts. -/
def fillD (place : Nat → Option (Nat × Nat)) (cells : List D) : List (Nat × D) → Option (List D)
  | [] => some cells
  | (i, d) :: rest => match place i, cellsD d with
    | some (off, size), some cs => if cs.length = size ∧ off + cs.length ≤ cells.length then fillD place (splice cells off cs) rest else none
    | _, _ => none
theorem foldl_set : ∀ (vs : List Value) (off k : Nat) (cells : Array Value), off + k + vs.length ≤ cells.size →
    ((vs.zipIdx k).foldl (fun cs (x : Value × Nat) => cs.setIfInBounds (off + x.2) x.1) cells).toList = splice cells.toList (off + k) vs
  | [], off, k, cells, _ => by simp [splice]
  | v :: vs, off, k, cells, h => by
    simp only [List.length_cons] at h
    simp only [List.zipIdx_cons, List.foldl_cons]
    rw [foldl_set vs off (k + 1) _ (by rw [Array.size_setIfInBounds]; omega)]
    apply List.ext_getElem?
    intro j
    have hct : cells.toList.length = cells.size := Array.length_toList
    have hct' : (cells.setIfInBounds (off + k) v).toList.length = cells.size := by simp
    have hl : off + (k + 1) + vs.length ≤ (cells.setIfInBounds (off + k) v).toList.length := by omega
    have hl' : off + k + (v :: vs).length ≤ cells.toList.length := by rw [List.length_cons]; omega
    rw [splice_get hl, splice_get hl', Array.toList_setIfInBounds, List.length_cons]
    by_cases e : j = off + k
    · subst e
      rw [if_neg (by omega), if_pos (by omega), Nat.sub_self]
      rw [List.getElem?_set_self (by omega)]
      simp
    · rw [List.getElem?_set_ne (by omega)]
      by_cases h1 : off + (k + 1) ≤ j ∧ j < off + (k + 1) + vs.length
      · rw [if_pos h1, if_pos (by omega), show j - (off + k) = (j - (off + (k + 1))) + 1 by omega]; simp
      · rw [if_neg h1, if_neg (by omega)]
theorem fill_spec {w : World} {st : Nat → Prop} {ρ : Nat → Option (Option Nat)} {place : Nat → Option (Nat × Nat)} : ∀ {parts : List (Nat × D)} {vparts : List (Nat × Value)} {cells cells' : List D} {vs : List Value},
    RL w st ρ cells vs → parts.map (·.1) = vparts.map (·.1) → RL w st ρ (parts.map (·.2)) (vparts.map (·.2)) → fillD place cells parts = some cells' → ∃ vs', Instr.fill place vs.toArray vparts = some vs'.toArray ∧ RL w st ρ cells' vs'
  | [], [], cells, cells', vs, h, _, _, hf => by
    simp only [fillD, Option.some.injEq] at hf
    subst hf
    exact ⟨vs, by simp [Instr.fill], h⟩
  | [], _ :: _, _, _, _, _, h, _, _ => by simp at h
  | _ :: _, [], _, _, _, _, h, _, _ => by simp at h
  | (i, d) :: parts, (i', v) :: vparts, cells, cells', vs, h, h1, h2, hf => by
    simp only [List.map_cons, List.cons.injEq] at h1
    obtain ⟨rfl, h1⟩ := h1
    simp only [List.map_cons, RL] at h2
    obtain ⟨v', vs2, e, h3, h4⟩ := h2
    simp only [List.cons.injEq] at e
    obtain ⟨rfl, rfl⟩ := e
    simp only [fillD] at hf
    split at hf
    · rename_i off size cs hp hc
      split at hf
      · rename_i hcond
        obtain ⟨rfl, hle⟩ := hcond
        obtain ⟨h5, _⟩ := cellsD_spec hc h3
        have hl := RL_length h5
        have hl2 := RL_length h
        obtain ⟨vs', h6, h7⟩ := fill_spec (RL_splice (off := off) h h5) h1 h4 hf
        refine ⟨vs', ?_, h7⟩
        have hsz : v.cells.size = cs.length := by rw [← hl, Array.length_toList]
        have hfold := foldl_set v.cells.toList off 0 vs.toArray (by rw [List.size_toArray, hl, hl2]; omega)
        have hz : (v.cells.zipIdx.foldl (fun cs (x : Value × Nat) => cs.setIfInBounds (off + x.2) x.1) vs.toArray) = (splice vs off v.cells.toList).toArray := by
          apply Array.toList_inj.1
          rw [← Array.foldl_toList, Array.toList_zipIdx]
          simpa using hfold
        have hnot : ¬ (v.cells.size ≠ cs.length ∨ vs.toArray.size < off + v.cells.size) := by
          rw [hsz, List.size_toArray, hl2]; omega
        simp only [Instr.fill, hp]
        rw [if_neg (by simp only [Bool.or_eq_true, decide_eq_true_eq, gt_iff_lt]; exact hnot)]
        refine Eq.trans ?_ h6
        exact congrArg (fun c => Instr.fill place c vparts) hz
      · cases hf
    · cases hf
end
end Go.Avm
