/- The abstract machine, part ZF: a sort in place, out of a contract of the library's shelf. -/
import Derived.Test.YtpopgpjojbngcaaAvmZE
import Derived.Sort.Grow
namespace Go.Avm
set_option linter.unusedVariables false
set_option linter.unusedSimpArgs false
open Go.RowKit Go.Sort
section
variable {α : Type} {enc : α → Value} {P : Program} {f : FuncId}
theorem RR_enc {w : World} {st : Nat → Prop} {g : Nat} (h1 : ∀ z, (enc z).oneCell' = true) : ∀ {l : List α} {off : Nat}, (∀ j z, l[j]? = some z → w.cell? ⟨g, off + j, none⟩ = some (enc z)) → RR w st 1 g off (l.map fun z => [.sc (enc z)])
  | [], _, _ => by simp [RR]
  | z :: l, off, h => by
    simp only [List.map_cons, RR, RC, R, List.length_cons, List.length_nil, and_true, true_and]
    refine ⟨⟨enc z, ?_, h1 z, rfl⟩, RR_enc h1 fun j y hj => ?_⟩
    · have := h 0 z rfl
      simpa using this
    · have := h (j + 1) y (by simpa using hj)
      rw [show off + 1 + j = off + (j + 1) by omega]; exact this
theorem enc_RR {w : World} {st : Nat → Prop} {g : Nat} {l : List α} {j : Nat} {z : α} (h : RR w st 1 g 0 (l.map fun z => [.sc (enc z)])) (hj : l[j]? = some z) : w.cell? ⟨g, j, none⟩ = some (enc z) := by
  have h2 := (RR_get h (i := j) (r := [.sc (enc z)]) (by simp [hj])).2
  simp only [RC, R, Nat.zero_add, Nat.mul_one, and_true] at h2
  obtain ⟨v, e1, _, e2⟩ := h2
  rw [e1, e2]
variable [Inhabited α]
theorem putCells_get {d : List α} {c : Array Value} {j : Nat} : (putCells enc 0 d.toArray c)[j]? = (c[j]?).map fun x => if j < d.length then enc ((d[j]?).getD default) else x := by
  simp only [putCells, Array.getElem?_mapIdx, Nat.zero_le, true_and, Nat.zero_add, Nat.sub_zero, List.size_toArray]
  congr 1
  funext x
  split
  · rename_i h
    simp [h]
  · rfl
/-- The sort of a row of values, one cell each, by a contract of the shelf. -/
theorem sort_calls (srt : List α → List α) (hlen : ∀ l, (srt l).length = l.length) (h1 : ∀ z, (enc z).oneCell' = true) (henter : ∀ xs w, (callFunc f xs).run P w = .ok (.enter f xs) w)
    (hc : ∀ (blk cap : Nat) (zs : List α) (w : World), Holds enc w blk 0 zs.toArray → blk < w.heap.size → zs.length < 4611686018427387904 → Calls P f #[.slice (some ⟨blk, 0, none⟩) zs.length cap] w fun e w' => e = .returned (.tuple #[]) ∧ ∃ n os, w' = grow (putRow enc (Sort.ahead w n) blk 0 (srt zs).toArray) os)
    {zs : List α} (hne : zs ≠ []) (hsz : zs.length ≤ 1000000) : MCalls P f [.row 1 (zs.map fun z => [.sc (enc z)])] [.slo 0 1 0 zs.length] (.tup []) [.row 1 ((srt zs).map fun z => [.sc (enc z)])] := by
  refine ⟨henter, fun w st ρ vs hst hin hargs => ?_⟩
  have hpos : 0 < zs.length := List.length_pos_iff.2 hne
  simp only [RL, R] at hargs
  obtain ⟨v, vs', rfl, hv, rfl⟩ := hargs
  rcases hv with ⟨_, _, h0, _⟩ | ⟨g, cap, A, hρ, hsh, hle, hcap, rfl, hA⟩
  · omega
  have hro := hin.objs 0
  simp only [List.getD_cons_zero, RO, hρ] at hro
  obtain ⟨cur, e, cap', r1, r2, r3, r4, r5⟩ := hro
  have hA' := hA (by omega)
  simp only [Nat.zero_mul] at hA'
  subst hA'
  have hg : g < w.heap.size := (Array.getElem?_eq_some_iff.1 r1).1
  have hH : Holds enc w g 0 zs.toArray := by
    intro j hj
    have hj' : j < zs.length := by simpa using hj
    have hz : zs[j]? = some zs[j] := List.getElem?_eq_getElem hj'
    refine ⟨?_, ?_⟩
    · rw [Nat.zero_add, enc_RR r5 hz]
      simp [hj']
    · simp [World.frozen?, r1]
  refine Calls.mono (hc g _ zs w hH hg (by omega)) ?_
  rintro ex w' ⟨rfl, n, os, rfl⟩
  have hcell : ∀ k, (grow (putRow enc (Sort.ahead w n) g 0 (srt zs).toArray) os).heap[k]? = if k < w.heap.size then (if g = k then some (.cells (putCells enc 0 (srt zs).toArray cur) e (0, 0)) else w.heap[k]?) else (os[k - w.heap.size]?) := by
    intro k
    simp only [grow, Array.getElem?_append, size_putRow, Sort.ahead]
    split
    · simp only [putRow, mapBlock, Array.getElem?_modify]
      split
      · rename_i e1
        subst e1
        simp [r1, onCells]
      · rfl
    · rfl
  have hw' : (grow (putRow enc (Sort.ahead w n) g 0 (srt zs).toArray) os).heap[g]? = some (.cells (putCells enc 0 (srt zs).toArray cur) e (0, 0)) := by rw [hcell, if_pos hg, if_pos rfl]
  have hsize : w.heap.size ≤ (grow (putRow enc (Sort.ahead w n) g 0 (srt zs).toArray) os).heap.size := by
    simp only [grow, Array.size_append, size_putRow, Sort.ahead]; omega
  have hcs : (putCells enc 0 (srt zs).toArray cur).size = cur.size := by simp [putCells]
  refine ⟨.tuple #[], rfl, ρ, ?_, fun _ _ => rfl, ?_, fun j => ?_, fun j g' hj hg' => ?_, fun j j' g' hj hj' e1 e2 => ?_⟩
  · refine ⟨rfl, rfl, rfl, hsize, fun k hk hn => ?_, fun g' m hs => ?_⟩
    · rw [hcell, if_pos hk, if_neg]
      rintro rfl
      exact hn ⟨0, by simp, hρ⟩
    · obtain ⟨cur2, e2, h3, h4⟩ := hs
      have hlt : g' < w.heap.size := (Array.getElem?_eq_some_iff.1 h3).1
      by_cases hgg : g = g'
      · subst hgg
        rw [r1] at h3
        cases h3
        exact ⟨_, e, hw', by rw [hcs]; exact h4⟩
      · exact ⟨cur2, e2, by rw [hcell, if_pos hlt, if_neg hgg]; exact h3, h4⟩
  · simp [R, RL]
  · cases j with
    | succ j => simp [RO]
    | zero =>
      simp only [List.getD_cons_zero, RO, hρ]
      have hcc : zs.length ≤ cur.size := by rw [r2.size]; simpa using r4
      refine ⟨_, e, cap', hw', ⟨by rw [hcs]; exact r2.size, fun v hv => ?_⟩, r3, by simpa [hlen] using r4, RR_enc h1 fun j z hj => ?_⟩
      · obtain ⟨i, hi⟩ := List.getElem?_of_mem hv
        rw [Array.getElem?_toList, putCells_get, Option.map_eq_some_iff] at hi
        obtain ⟨x, hx, hxe⟩ := hi
        subst hxe
        split
        · exact h1 _
        · exact r2.one x (List.mem_of_getElem? (by rw [Array.getElem?_toList]; exact hx))
      · have hjl : j < (srt zs).length := (List.getElem?_eq_some_iff.1 hj).1
        have hjc : j < cur.size := by rw [hlen] at hjl; omega
        rw [Nat.zero_add, cell_of_row _ g j _ e (0, 0) hw', putCells_get, Array.getElem?_eq_getElem hjc]
        simp only [Option.map_some, if_pos hjl, hj, Option.getD_some]
  · cases j with
    | succ j => simp at hj
    | zero => exact .inr ⟨0, by simp, hg'⟩
  · cases j with
    | succ j => simp at hj
    | zero =>
      cases j' with
      | succ j => simp at hj'
      | zero => rfl
end
/-! Loops whose rounds may end in a state that must first be brought to the names of the start. -/
theorem Tri.loopV {P : Program} {Q : Exit → St → Prop} {s : List D} {h : List (Nat × Obj)} {τ : Type} {c : Code} (l : τ → List (Nat × D)) (m : τ → List (Nat × Obj)) (I : τ → Prop) (μ : τ → Nat) (t0 : τ) (h0 : I t0)
    {s' : τ → List D} {h' : τ → List (Nat × Obj)} (es : ∀ t, setL (l t) s = s' t) (eh : ∀ t, setH (m t) h = h' t) (hs : LeL s (s' t0)) (hh : LeH h (h' t0))
    (hb : ∀ t, I t → Tri P c (loopQ (fun σ' => ∃ t', I t' ∧ μ t' < μ t ∧ Imp σ' { slots := s' t', heap := h' t' }) Q) { slots := s' t, heap := h' t }) : Tri P (.loop c) Q { slots := s, heap := h } :=
  Tri.loop (fun t => { slots := s' t, heap := h' t }) I μ t0 h0 (Imp.les hs hh) (fun t ht => Tri.mono (hb t ht) (fun e σ' hq => by
    cases e with
    | normal =>
      obtain ⟨t', h1, h2, h3⟩ := hq
      exact ⟨t', h1, h2, h3⟩
    | _ => exact hq))
theorem isNextV {τ : Type} {I : τ → Prop} {μ : τ → Nat} {t : τ} {σ : St} {s' : τ → List D} {h' : τ → List (Nat × Obj)} (t' : τ) (hi : Imp σ { slots := s' t', heap := h' t' }) (hI : I t') (hm : μ t' < μ t) :
    ∃ t', I t' ∧ μ t' < μ t ∧ Imp σ { slots := s' t', heap := h' t' } := ⟨t', hI, hm, hi⟩
theorem Imp.takeTo {σ σ' σ2 : St} (t d : Nat) {o k n : Nat} {rows : List (List D)} (ht : σ.slots[t]? = some (.slo o k 0 n)) (hrow : hget σ.heap o = .row k rows) (hnl : n ≤ rows.length) (hh : hfree σ.heap d = true)
    (he : St.put { σ.kills [o, d] with heap := hset (σ.kills [o, d]).heap d (.row k (rows.take n)) } (some t) (.slo d k 0 n) = σ') (h : Imp σ' σ2) : Imp σ σ2 := fun w0 p a w hr => h w0 p a w (he ▸ Imp.take t d ht hrow hnl hh w0 p a w hr)
end Go.Avm
