/- The abstract machine, parts ZJ to ZJ. -/
import Derived.Test.YtpopgpjojbngcaaAvmR
/- The abstract machine, part ZJ: a row turned in place whose head is returned, and empty rows left as they are, out of contracts of the library's shelf. -/
namespace Go.Avm
set_option linter.unusedVariables false
set_option linter.unusedSimpArgs false
open Go.RowKit Go.Sort
section
variable {α : Type} {enc : α → Value} {P : Program} {f : FuncId}
variable [Inhabited α]
/-- A row of values, one cell each, that a function of the shelf turns in place, and of which it returns the head. -/
theorem head_calls (srt : List α → List α) (hd : List α → Nat) (hdl : ∀ l, hd l ≤ l.length) (hlen : ∀ l, (srt l).length = l.length) (h1 : ∀ z, (enc z).oneCell' = true) (henter : ∀ xs w, (callFunc f xs).run P w = .ok (.enter f xs) w)
    (hc : ∀ (blk cap : Nat) (zs : List α) (w : World),Holds enc w blk 0 zs.toArray → blk < w.heap.size → zs.length < 4611686018427387904 → zs.length ≤ cap → Calls P f #[.slice (some ⟨blk,0,none⟩) zs.length cap] w fun e w' => e = .returned (.slice (some ⟨blk,0,none⟩) (hd zs) cap) ∧ ∃ n,w' = putRow enc (Sort.ahead w n) blk 0 (srt zs).toArray)
    {zs : List α} (hne : zs ≠ []) (hsz : zs.length ≤ 1000000) : MCalls P f [.row 1 (zs.map fun z => [.sc (enc z)])] [.slo 0 1 0 zs.length] (.slo 0 1 0 (hd zs)) [.row 1 ((srt zs).map fun z => [.sc (enc z)])] := by
  refine ⟨henter, fun w st ρ vs hst hin hargs => ?_⟩
  have hpos : 0 < zs.length := List.length_pos_iff.2 hne
  simp only [RL, R] at hargs
  obtain ⟨v, vs', rfl, hv, rfl⟩ := hargs
  rcases hv with ⟨_, _, h0, _⟩ | ⟨g, cap, A, hρ, hsh, hle, hcap, rfl, hA⟩
  · omega
  have hro := hin.objs 0
  simp only [List.getD_cons_zero, RO, hρ] at hro
  obtain ⟨cur, e, cap', r1, r2, r3, r4, r5⟩ := hro
  have hA' := hA (by omega)
  simp only [Nat.zero_mul] at hA'
  subst hA'
  have hg : g < w.heap.size := (Array.getElem?_eq_some_iff.1 r1).1
  have hH : Holds enc w g 0 zs.toArray := by
    intro j hj
    have hj' : j < zs.length := by simpa using hj
    have hz : zs[j]? = some zs[j] := List.getElem?_eq_getElem hj'
    refine ⟨?_, ?_⟩
    · rw [Nat.zero_add, enc_RR r5 hz]
      simp [hj']
    · simp [World.frozen?, r1]
  refine Calls.mono (hc g _ zs w hH hg (by omega) (by omega)) ?_
  rintro ex w' ⟨rfl, n, hw⟩
  have hgr : ∀ u : World, grow u #[] = u := fun u => by simp [grow]
  rw [← hgr (putRow enc (Sort.ahead w n) g 0 (srt zs).toArray)] at hw
  generalize hos : (#[] : Array _) = os at hw
  subst hw
  have hcell : ∀ k, (grow (putRow enc (Sort.ahead w n) g 0 (srt zs).toArray) os).heap[k]? = if k < w.heap.size then (if g = k then some (.cells (putCells enc 0 (srt zs).toArray cur) e (0, 0)) else w.heap[k]?) else (os[k - w.heap.size]?) := by
    intro k
    simp only [grow, Array.getElem?_append, size_putRow, Sort.ahead]
    split
    · simp only [putRow, mapBlock, Array.getElem?_modify]
      split
      · rename_i e1
        subst e1
        simp [r1, onCells]
      · rfl
    · rfl
  have hw' : (grow (putRow enc (Sort.ahead w n) g 0 (srt zs).toArray) os).heap[g]? = some (.cells (putCells enc 0 (srt zs).toArray cur) e (0, 0)) := by rw [hcell, if_pos hg, if_pos rfl]
  have hsize : w.heap.size ≤ (grow (putRow enc (Sort.ahead w n) g 0 (srt zs).toArray) os).heap.size := by
    simp only [grow, Array.size_append, size_putRow, Sort.ahead]; omega
  have hcs : (putCells enc 0 (srt zs).toArray cur).size = cur.size := by simp [putCells]
  refine ⟨_, rfl, ρ, ?_, fun _ _ => rfl, ?_, fun j => ?_, fun j g' hj hg' => ?_, fun j j' g' hj hj' e1 e2 => ?_⟩
  · refine ⟨rfl, rfl, rfl, hsize, fun k hk hn => ?_, fun g' m hs => ?_⟩
    · rw [hcell, if_pos hk, if_neg]
      rintro rfl
      exact hn ⟨0, by simp, hρ⟩
    · obtain ⟨cur2, e2, h3, h4⟩ := hs
      have hlt : g' < w.heap.size := (Array.getElem?_eq_some_iff.1 h3).1
      by_cases hgg : g = g'
      · subst hgg
        rw [r1] at h3
        cases h3
        exact ⟨_, e, hw', by rw [hcs]; exact h4⟩
      · exact ⟨cur2, e2, by rw [hcell, if_pos hlt, if_neg hgg]; exact h3, h4⟩
  · simp only [R]
    have := hdl zs
    refine .inr ⟨g, cap, some ⟨g, 0, none⟩, hρ, ?_, by omega, hcap, rfl, fun _ => by simp⟩
    obtain ⟨cur2, e2, h3, h4⟩ := hsh
    rw [r1] at h3
    cases h3
    exact ⟨_, e, hw', by rw [hcs]; exact h4⟩
  · cases j with
    | succ j => simp [RO]
    | zero =>
      simp only [List.getD_cons_zero, RO, hρ]
      have hcc : zs.length ≤ cur.size := by rw [r2.size]; simpa using r4
      refine ⟨_, e, cap', hw', ⟨by rw [hcs]; exact r2.size, fun v hv => ?_⟩, r3, by simpa [hlen] using r4, RR_enc h1 fun j z hj => ?_⟩
      · obtain ⟨i, hi⟩ := List.getElem?_of_mem hv
        rw [Array.getElem?_toList, putCells_get, Option.map_eq_some_iff] at hi
        obtain ⟨x, hx, hxe⟩ := hi
        subst hxe
        split
        · exact h1 _
        · exact r2.one x (List.mem_of_getElem? (by rw [Array.getElem?_toList]; exact hx))
      · have hjl : j < (srt zs).length := (List.getElem?_eq_some_iff.1 hj).1
        have hjc : j < cur.size := by rw [hlen] at hjl; omega
        rw [Nat.zero_add, cell_of_row _ g j _ e (0, 0) hw', putCells_get, Array.getElem?_eq_getElem hjc]
        simp only [Option.map_some, if_pos hjl, hj, Option.getD_some]
  · cases j with
    | succ j => simp at hj
    | zero => exact .inr ⟨0, by simp, hg'⟩
  · cases j with
    | succ j => simp at hj
    | zero =>
      cases j' with
      | succ j => simp at hj'
      | zero => rfl
theorem Sh.refl_below {own : Nat → Prop} (w : World) : BelowO own w w := ⟨rfl, rfl, rfl, Nat.le_refl _, fun _ _ _ => rfl, fun _ _ h => h⟩
theorem none_calls (henter : ∀ xs w, (callFunc f xs).run P w = .ok (.enter f xs) w)
    (hc : ∀ (p : Option Addr) (cap : Nat) (w : World), Calls P f #[.slice p 0 cap] w fun e w' => e = .returned (.tuple #[]) ∧ w' = w) : MCalls P f [.row 1 []] [.slo 0 1 0 0] (.tup []) [.row 1 []] := by
  refine ⟨henter, fun w st ρ vs hst hin hargs => ?_⟩
  simp only [RL, R] at hargs
  obtain ⟨v, vs', rfl, hv, rfl⟩ := hargs
  obtain ⟨a, c, rfl⟩ : ∃ a c, v = .slice a 0 c := by
    rcases hv with ⟨_, _, _, a, rfl⟩ | ⟨g, cap, A, _, _, _, _, rfl, _⟩
    · exact ⟨_, _, rfl⟩
    · exact ⟨_, _, rfl⟩
  refine Calls.mono (hc a c w) ?_
  rintro ex w' ⟨rfl, rfl⟩
  refine ⟨_, rfl, ρ, Sh.refl_below w', fun _ _ => rfl, ?_, fun j => ?_, fun j g' hj hg' => ?_, fun j j' g' hj hj' e1 e2 => ?_⟩
  · simp [R, RL]
  · cases j with
    | succ j => simp [RO]
    | zero =>
      have := hin.objs 0
      simp only [List.getD_cons_zero, RO, RR] at this ⊢
      exact this
  · cases j with
    | succ j => simp at hj
    | zero => exact .inr ⟨0, by simp, hg'⟩
  · cases j with
    | succ j => simp at hj
    | zero =>
      cases j' with
      | succ j => simp at hj'
      | zero => rfl
theorem none_head (henter : ∀ xs w, (callFunc f xs).run P w = .ok (.enter f xs) w)
    (hc : ∀ (p : Option Addr) (cap : Nat) (w : World), Calls P f #[.slice p 0 cap] w fun e w' => e = .returned (.slice p 0 cap) ∧ w' = w) : MCalls P f [.row 1 []] [.slo 0 1 0 0] (.slo 0 1 0 0) [.row 1 []] := by
  refine ⟨henter, fun w st ρ vs hst hin hargs => ?_⟩
  simp only [RL, R] at hargs
  obtain ⟨v, vs', rfl, hv, rfl⟩ := hargs
  obtain ⟨a, c, rfl⟩ : ∃ a c, v = .slice a 0 c := by
    rcases hv with ⟨_, _, _, a, rfl⟩ | ⟨g, cap, A, _, _, _, _, rfl, _⟩
    · exact ⟨_, _, rfl⟩
    · exact ⟨_, _, rfl⟩
  refine Calls.mono (hc a c w) ?_
  rintro ex w' ⟨rfl, rfl⟩
  refine ⟨_, rfl, ρ, Sh.refl_below w', fun _ _ => rfl, ?_, fun j => ?_, fun j g' hj hg' => ?_, fun j j' g' hj hj' e1 e2 => ?_⟩
  · simp only [R]; exact hv
  · cases j with
    | succ j => simp [RO]
    | zero =>
      have := hin.objs 0
      simp only [List.getD_cons_zero, RO, RR] at this ⊢
      exact this
  · cases j with
    | succ j => simp at hj
    | zero => exact .inr ⟨0, by simp, hg'⟩
  · cases j with
    | succ j => simp at hj
    | zero =>
      cases j' with
      | succ j => simp at hj'
      | zero => rfl
end
theorem Imp.frzTo {σ σ' σ2 : St} (o : Nat) {k : Nat} {rows : List (List D)} (hg : hget σ.heap o = .row k rows) (he : σ.frz o k rows = σ') (h : Imp σ' σ2) : Imp σ σ2 := Imp.trans (he ▸ Imp.freeze σ o k rows hg) h
end Go.Avm
