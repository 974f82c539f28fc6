/- The abstract machine, part H: operations that make or write memory. -/
import Derived.Test.YtpopgpjojbngcaaAvmG
namespace Go.Avm
set_option linter.unusedVariables false
set_option linter.unusedSimpArgs false
open Go.RowKit

section
variable {w : World} {st : Nat → Prop}
/-- A row of rows, as one list of cells. -/
theorem RR_flat {k g : Nat} : ∀ {rows : List (List D)} {off : Nat}, RR w st k g off rows →
    ∃ vs : List Value, vs.length = rows.length * k ∧ RL w st (fun _ => none) rows.flatten vs ∧ (∀ v ∈ vs, v.oneCell' = true) ∧ (∀ r ∈ rows, r.length = k) ∧ ∀ j v, vs[j]? = some v → w.cell? ⟨g, off + j, none⟩ = some v
  | [], _, _ => ⟨[], by simp, by simp [RL], by simp, by simp, by simp⟩
  | r :: rs, off, h => by
    simp only [RR] at h
    obtain ⟨h1, h2, h3⟩ := h
    obtain ⟨us, u1, u2, u3, u4, u5⟩ := RR_flat h3
    have rc : ∀ {cs : List D} {off : Nat}, RC w st g off cs → ∃ vs : List Value, RL w st (fun _ => none) cs vs ∧ (∀ v ∈ vs, v.oneCell' = true) ∧ ∀ j v, vs[j]? = some v → w.cell? ⟨g, off + j, none⟩ = some v := by
      intro cs
      induction cs with
      | nil => intro off _; exact ⟨[], by simp [RL], by simp, by simp⟩
      | cons c cs ih =>
        intro off h
        simp only [RC] at h
        obtain ⟨⟨v, e1, e2, e3⟩, e4⟩ := h
        obtain ⟨vs, f1, f2, f3⟩ := ih e4
        refine ⟨v :: vs, by simp only [RL]; exact ⟨v, vs, rfl, e3, f1⟩, by simpa using ⟨e2, f2⟩, fun j u hj => ?_⟩
        cases j with
        | zero => simp only [List.getElem?_cons_zero, Option.some.injEq] at hj; subst hj; exact e1
        | succ j => simp only [List.getElem?_cons_succ] at hj; have := f3 j u hj; rw [show off + (j + 1) = off + 1 + j by omega]; exact this
    obtain ⟨vs, v1, v2, v3⟩ := rc h2
    have hl := RL_length v1
    refine ⟨vs ++ us, ?_, ?_, ?_, ?_, ?_⟩
    · rw [List.length_append, hl, h1, u1, List.length_cons, Nat.add_mul]; omega
    · rw [List.flatten_cons]; exact RL_append v1 u2
    · intro v hv
      cases List.mem_append.1 hv with
      | inl e => exact v2 v e
      | inr e => exact u3 v e
    · intro r' hr'
      cases List.mem_cons.1 hr' with
      | inl e => rw [e]; exact h1
      | inr e => exact u4 r' e
    · intro j v hj
      by_cases hlt : j < vs.length
      · rw [List.getElem?_append_left hlt] at hj; exact v3 j v hj
      · rw [List.getElem?_append_right (by omega)] at hj
        have := u5 _ v hj
        rw [hl, h1] at this
        rw [show off + j = off + k + (j - k) by omega]; exact this
theorem RL_split {ρ : Nat → Option (Option Nat)} : ∀ {ds es : List D} {vs : List Value}, RL w st ρ (ds ++ es) vs → ∃ us xs, vs = us ++ xs ∧ RL w st ρ ds us ∧ RL w st ρ es xs
  | [], es, vs, h => ⟨[], vs, rfl, by simp [RL], by simpa using h⟩
  | d :: ds, es, vs, h => by
    simp only [List.cons_append, RL] at h
    obtain ⟨v, vs', rfl, h1, h2⟩ := h
    obtain ⟨us, xs, rfl, h3, h4⟩ := RL_split h2
    exact ⟨v :: us, xs, rfl, by simp only [RL]; exact ⟨v, us, rfl, h1, h3⟩, h4⟩
theorem RR_of_flat {k g : Nat} : ∀ {rows : List (List D)} {off : Nat} {vs : List Value}, (∀ r ∈ rows, r.length = k) → RL w st (fun _ => none) rows.flatten vs → (∀ v ∈ vs, v.oneCell' = true) →
    (∀ j v, vs[j]? = some v → w.cell? ⟨g, off + j, none⟩ = some v) → RR w st k g off rows
  | [], _, _, _, _, _, _ => by simp [RR]
  | r :: rs, off, vs, h1, h2, h3, h4 => by
    rw [List.flatten_cons] at h2
    obtain ⟨us, xs, rfl, h5, h6⟩ := RL_split h2
    have hl := RL_length h5
    have hk := h1 r (by simp)
    simp only [RR]
    refine ⟨hk, RC_of_list h5 (fun v hv => h3 v (by simp [hv])) (fun j v hj => h4 j v ?_), RR_of_flat (fun r' hr' => h1 r' (by simp [hr'])) h6 (fun v hv => h3 v (by simp [hv])) (fun j v hj => ?_)⟩
    · have hlt : j < us.length := (List.getElem?_eq_some_iff.1 hj).1
      rw [List.getElem?_append_left hlt]; exact hj
    · have := h4 (us.length + j) v (by rw [List.getElem?_append_right (by omega), Nat.add_sub_cancel_left]; exact hj)
      rw [hl, hk] at this
      rwa [show off + k + j = off + (k + j) by omega]
end

section
variable {w0 : World} {p : Pm} {σ : St} {a : Act} {w : World} {ρ : Nat → Option (Option Nat)}

/-- A new object under the name o. -/
def St.newObj (σ : St) (o : Nat) (x : Obj) : St := { σ.kill o with heap := hset (σ.kill o).heap o x }
theorem hhas_kill {o o' : Nat} : hhas (σ.kill o).heap o' = hhas σ.heap o' := by rw [St.kill, hhas_hset, hhas_hclr]

def updρ (ρ : Nat → Option (Option Nat)) (o : Nat) (z : Option (Option Nat)) : Nat → Option (Option Nat) := fun x => if x = o then z else ρ x
theorem updρ_same (o : Nat) (z : Option (Option Nat)) : updρ ρ o z o = z := by simp [updρ]
theorem updρ_other {o o' : Nat} {z : Option (Option Nat)} (h : o' ≠ o) : updρ ρ o z o' = ρ o' := by simp [updρ, h]

/-- A new block for a new object, whatever was killed before. -/
theorem RelAt.newBlock (h : RelAt w0 p σ a w ρ) {ids : List Nat} {o : Nat} {x : Obj} {cur : Array Value} {e : TypeId} (ho : o ∈ ids) (hh : hfree σ.heap o = true) (hxd : x ≠ .dead)
    (hx : ∀ st : Nat → Prop, (∀ g, stab p σ.heap ρ w g → st g) → RO (w.alloc (.cells cur e)) st (updρ ρ o (some (some w.heap.size))) o x) :
    RelAt w0 p { σ.kills ids with heap := hset (σ.kills ids).heap o x } a (w.alloc (.cells cur e)) (updρ ρ o (some (some w.heap.size))) := by
  have hk : RelAt w0 p (σ.kills ids) a w (updρ ρ o (some (some w.heap.size))) := h.kills (fun o' e => updρ_other (fun e' => e (e' ▸ ho))) (fun o' h1 => updρ_other (fun e' => absurd (hfree_iff.1 hh).2 (by omega)))
  refine hk.born (hget_kills_in ho) (by rw [hhas_kills]; exact (hfree_iff.1 hh).1) (fun g hg => ?_) (fun g hg _ => Below.heap_alloc w _ g hg) (fun g n hs => Sh_of_block (Below.heap_alloc w _ g hs.lt) hs) (by simp) rfl rfl rfl hxd
    (fun st hst => hx st fun g hg => hst g ⟨hg.1, hg.2.1, fun o' ho' => ?_⟩)
  · rw [updρ_same] at hg
    simp only [Option.some.injEq] at hg
    subst hg
    refine ⟨fun hs => by have := hs.2.1; omega, fun o' ho' e' => ?_, .inl h.below.size⟩
    have := (hk.objs o').lt ho' e'
    omega
  · by_cases e' : o' = o
    · subst e'; exact absurd (hget_kills_in ho) ho'
    · rw [updρ_other e']
      exact hg.2.2 o' (fun hd => ho' (hget_kills hd))
/-- An empty row that has no block. -/
theorem RelAt.newVirt (h : RelAt w0 p σ a w ρ) {ids : List Nat} {o k : Nat} (ho : o ∈ ids) (hh : hfree σ.heap o = true) :
    RelAt w0 p { σ.kills ids with heap := hset (σ.kills ids).heap o (.row k []) } a w (updρ ρ o (some none)) := by
  have hk : RelAt w0 p (σ.kills ids) a w (updρ ρ o (some none)) := h.kills (fun o' e => updρ_other (fun e' => e (e' ▸ ho))) (fun o' h1 => updρ_other (fun e' => absurd (hfree_iff.1 hh).2 (by omega)))
  refine hk.born (hget_kills_in ho) (by rw [hhas_kills]; exact (hfree_iff.1 hh).1) (fun g hg => ?_) (fun g hg _ => rfl) (fun g n hs => hs) (Nat.le_refl _) rfl rfl rfl (by simp) (fun st hst => ?_)
  · rw [updρ_same] at hg; simp at hg
  · simp [RO, updρ_same]
/-- An object passes to another name; its block may have got another content. -/
theorem RelAt.moved (h : RelAt w0 p σ a w ρ) {o d k : Nat} {rows rows' : List (List D)} {w' : World} (hrow : hget σ.heap o = .row k rows) (hh : hfree σ.heap d = true)
    (hw : ∀ b, b < w.heap.size → ρ o ≠ some (some b) → w'.heap[b]? = w.heap[b]?) (hs : ∀ g n, Sh w g n → Sh w' g n) (hsz : w.heap.size ≤ w'.heap.size) (hos : w'.os = w.os) (htp : w'.tape = w.tape) (hout : w'.output = w.output)
    (hx : ∀ st : Nat → Prop, (∀ g, stab p σ.heap ρ w g → st g) → RO w' st (updρ ρ d (ρ o)) d (.row k rows')) :
    RelAt w0 p { σ.kills [o, d] with heap := hset (σ.kills [o, d]).heap d (.row k rows') } a w' (updρ ρ d (ρ o)) := by
  have hlive : hget σ.heap o ≠ .dead := by rw [hrow]; simp
  have hg1 : ∀ o', hget (hset (σ.kills [o, d]).heap d (.row k rows')) o' = if o' = d then .row k rows' else if o' = o then .dead else ((hget σ.heap o').clr o).clr d := by
    intro o'
    by_cases e : o' = d
    · rw [if_pos e, e, hget_hset_same (by rw [hhas_kills]; exact (hfree_iff.1 hh).1)]
    · rw [if_neg e, hget_hset_other e]
      simp only [St.kills, hget_kill, if_neg e]
      split
      · rfl
      · rfl
  have live : ∀ o', hget (hset (σ.kills [o, d]).heap d (.row k rows')) o' ≠ .dead → o' = d ∨ (o' ≠ d ∧ o' ≠ o ∧ hget σ.heap o' ≠ .dead) := by
    intro o' ho'
    rw [hg1] at ho'
    by_cases e : o' = d
    · exact .inl e
    · rw [if_neg e] at ho'
      by_cases e2 : o' = o
      · rw [if_pos e2] at ho'; exact absurd rfl ho'
      · rw [if_neg e2, Obj.clr_dead, Obj.clr_dead] at ho'; exact .inr ⟨e, e2, ho'⟩
  have hst : ∀ g, stab p σ.heap ρ w g → stab p (hset (σ.kills [o, d]).heap d (.row k rows')) (updρ ρ d (ρ o)) w' g := by
    intro g hg
    refine ⟨hg.1, Nat.lt_of_lt_of_le hg.2.1 hsz, fun o' ho' => ?_⟩
    rcases live o' ho' with e | ⟨e1, e2, e3⟩
    · rw [e, updρ_same]; exact hg.2.2 o hlive
    · rw [updρ_other e1]; exact hg.2.2 o' e3
  have hc : ∀ g off, stab p σ.heap ρ w g → w'.cell? ⟨g, off, none⟩ = w.cell? ⟨g, off, none⟩ := fun g off hg => World.cell?_of_block (w := w) (a := ⟨g, off, none⟩) (hw g hg.2.1 (hg.2.2 o hlive))
  refine ⟨h.open_, h.defers, ?_, fun o' => ?_, fun o1 o2 g h1 h2 e1 e2 => ?_, fun o1 g h1 e1 => ?_, ?_, fun o1 h1 => ?_⟩
  · have h1 := RL.clr (o := o) (ρ' := ρ) (fun _ _ => rfl) h.slots
    have h2 := RL.clr (o := d) (ρ' := updρ ρ d (ρ o)) (fun o' e => updρ_other e) h1
    exact RL.mono hc hs hst h2
  · show RO w' _ _ o' (hget (hset (σ.kills [o, d]).heap d (.row k rows')) o')
    rw [hg1]
    by_cases e : o' = d
    · rw [if_pos e, e]; exact hx _ hst
    · rw [if_neg e]
      by_cases e2 : o' = o
      · rw [if_pos e2]; simp [RO]
      · rw [if_neg e2]
        have h1 := RO.clr (o := o) (ρ' := ρ) (fun _ _ => rfl) e2 (h.objs o')
        have h2 := RO.clr (o := d) (ρ' := updρ ρ d (ρ o)) (fun o' e => updρ_other e) e h1
        by_cases hd : hget σ.heap o' = .dead
        · rw [hd]; simp [Obj.clr, RO]
        · refine RO.mono hc hs hst (fun g hg => ?_) h2
          rw [updρ_other e] at hg
          exact hw g ((h.objs o').lt hd hg) (fun e' => e2 (h.inj o' o g hd hlive hg e'))
  · rcases live o1 h1 with n1 | ⟨n1, m1, l1⟩ <;> rcases live o2 h2 with n2 | ⟨n2, m2, l2⟩
    · rw [n1, n2]
    · rw [n1, updρ_same] at e1
      rw [updρ_other n2] at e2
      exact absurd (h.inj o o2 g hlive l2 e1 e2).symm m2
    · rw [n2, updρ_same] at e2
      rw [updρ_other n1] at e1
      exact absurd (h.inj o o1 g hlive l1 e2 e1).symm m1
    · rw [updρ_other n1] at e1
      rw [updρ_other n2] at e2
      exact h.inj o1 o2 g l1 l2 e1 e2
  · rcases live o1 h1 with n1 | ⟨n1, m1, l1⟩
    · rw [n1, updρ_same] at e1; exact h.fresh o g hlive e1
    · rw [updρ_other n1] at e1; exact h.fresh o1 g l1 e1
  · refine h.below.trans (own' := fun b => ρ o = some (some b)) ⟨hos, htp, hout, hsz, fun b hb hn => hw b hb hn, hs⟩ (fun b hb e => ?_)
    rcases h.fresh o b hlive e with h3 | h3
    · omega
    · exact h3
  · rw [updρ_other (by have := (hfree_iff.1 hh).2; omega)]
    exact h.pin o1 h1
end

/-! append -/
section
variable {w : World}
theorem run_firstCells_any {P : Program} (size n : Nat) (X : Option Addr) (c : Nat) (news : List Value) (hl : news.length = n * size) (hX : n = 0 ∨ ∃ b, X = some b ∧ ∀ j v, news[j]? = some v → w.cell? (b.add j) = some v) :
    (Builtin.firstCells size n (.slice X n c)).run P w = .ok news.toArray w := by
  rcases hX with rfl | ⟨b, rfl, hc⟩
  · have hn : news = [] := List.eq_nil_of_length_eq_zero (by simpa using hl)
    subst hn
    cases X <;> simp [Builtin.firstCells, loadCells, loadCellsFrom]
  · exact run_firstCells_some w size n b n c news hl hc

theorem zeroCells_one {z : Array Value} {n : Nat} (hz : ∀ v ∈ z.toList, v.oneCell' = true) : ∀ v ∈ (Builtin.zeroCells z n).toList, v.oneCell' = true := by
  intro v hv
  simp only [Builtin.zeroCells, Array.toList_map, List.mem_map, Array.mem_toList_iff, Array.mem_range] at hv
  obtain ⟨i, hi, rfl⟩ := hv
  have hpos : 0 < z.size := Nat.pos_of_ne_zero fun h => by simp [h] at hi
  have hlt : i % z.size < z.size := Nat.mod_lt _ hpos
  rw [getElem!_pos z _ hlt]
  exact hz _ (Array.mem_toList_iff.2 (Array.getElem_mem hlt))
/-- What append does, whatever its two slices: nothing; a write into the room; a new block. -/
theorem run_append_all {P : Program} (t ty e : TypeId) (i : TypeInfo) (z : Value) (ht : P.underlying t = some (.slice e)) (hi : P.info? e = some i) (hz : i.zero = some z)
    (A : Option Addr) (sLen sCap : Nat) (olds : List Value) (hlo : olds.length = sLen * i.size) (hle : sLen ≤ sCap) (hA : sLen = 0 ∨ ∃ b, A = some b ∧ ∀ j v, olds[j]? = some v → w.cell? (b.add j) = some v)
    (X : Option Addr) (n c : Nat) (news : List Value) (hl : news.length = n * i.size) (hX : n = 0 ∨ ∃ b, X = some b ∧ ∀ j v, news[j]? = some v → w.cell? (b.add j) = some v) (h1 : ∀ u ∈ news, u.oneCell' = true)
    (hroom : 0 < n → sLen + n ≤ sCap → ∃ g q cur e', A = some ⟨g, q, none⟩ ∧ w.heap[g]? = some (.cells cur e' (0, 0)) ∧ q + sLen * i.size + news.length ≤ cur.size)
    (h63 : sLen + n ≤ maxLen) (hbytes : (sLen + n) * i.bytes ≤ 140737488355328) (hz1 : ∀ v ∈ z.cells.toList, v.oneCell' = true) (ho1 : ∀ v ∈ olds, v.oneCell' = true) :
    (n = 0 ∧ (Builtin.append_ #[t, t] ty #[.slice A sLen sCap, .slice X n c]).run P w = .ok (.slice A sLen sCap) w) ∨
    (0 < n ∧ sLen + n ≤ sCap ∧ ∃ g q cur e', A = some ⟨g, q, none⟩ ∧ w.heap[g]? = some (.cells cur e' (0, 0)) ∧ q + sLen * i.size + news.length ≤ cur.size ∧
      (Builtin.append_ #[t, t] ty #[.slice A sLen sCap, .slice X n c]).run P w = .ok (.slice A (sLen + n) sCap) (w.setRow g (cur.toList.take (q + sLen * i.size) ++ news ++ cur.toList.drop (q + sLen * i.size + news.length)).toArray)) ∨
    (0 < n ∧ sCap < sLen + n ∧ ∃ cap cur, sLen + n ≤ cap ∧ cap ≤ maxLen ∧ (z.cells.size = i.size → SzOne cur (cap * i.size)) ∧ cur.toList.take ((sLen + n) * i.size) = olds ++ news ∧
      (Builtin.append_ #[t, t] ty #[.slice A sLen sCap, .slice X n c]).run P w = .ok (.slice (some ⟨w.heap.size, 0, none⟩) (sLen + n) cap) (w.drew.alloc (.cells cur e))) := by
  rcases Nat.eq_zero_or_pos n with hn0 | hn0
  · left
    refine ⟨hn0, ?_⟩
    subst hn0
    have hf := run_firstCells_any (P := P) (w := w) i.size 0 X c news hl (.inl rfl)
    have hnn : news = [] := List.eq_nil_of_length_eq_zero (by simpa using hl)
    subst hnn
    cases A <;> simp [Builtin.append_, run_underlying ht, sizeOf, typeInfo, hi, Builtin.lenOf, hf, hle, storeCells]
  · right
    by_cases hr : sLen + n ≤ sCap
    · left
      obtain ⟨g, q, cur, e', rfl, hg, hfit⟩ := hroom hn0 hr
      refine ⟨hn0, hr, g, q, cur, e', rfl, hg, hfit, ?_⟩
      have hf := run_firstCells_any (P := P) (w := w) i.size n X c news hl hX
      have hst := run_storeCells_at P g (q + sLen * i.size) e' news 0 cur w hg (by simpa using hfit) h1
      simp only [Nat.add_zero] at hst
      simp [Builtin.append_, run_underlying ht, sizeOf, typeInfo, hi, Builtin.lenOf, hr, hf, Addr.add_lit, hst]
    · right
      refine ⟨hn0, by omega, ?_⟩
      obtain ⟨b, rfl, hX'⟩ : ∃ b, X = some b ∧ ∀ j v, news[j]? = some v → w.cell? (b.add j) = some v := hX.resolve_left (by omega)
      have h63' : ((sLen + n : Nat) : Int) ≤ 9223372036854775807 := by unfold maxLen at h63; omega
      have hge := grownCap_ge w (sLen + n) sCap e
      have hcm := grownCap_le_maxLen w (sLen + n) sCap e h63
      refine ⟨grownCap w (sLen + n) sCap e, olds.toArray ++ news.toArray ++ Builtin.zeroCells z.cells (grownCap w (sLen + n) sCap e - (sLen + n)), hge, hcm, fun hzs => ⟨?_, ?_⟩, ?_, ?_⟩
      · simp only [Array.size_append, List.size_toArray, size_zeroCells, hzs, hlo, hl, ← Nat.add_mul]
        congr 1
        omega
      · intro v hv
        simp only [Array.toList_append, List.mem_append] at hv
        rcases hv with (hv | hv) | hv
        · exact ho1 v hv
        · exact h1 v hv
        · exact zeroCells_one hz1 v hv
      · simp only [Array.toList_append, List.append_assoc]
        have hlen : (olds ++ news).length = (sLen + n) * i.size := by rw [List.length_append, hlo, hl, Nat.add_mul]
        rw [← List.append_assoc, ← hlen]
        exact List.take_left
      · have hfit := growslice_fits (need := sLen + n) (old := sCap) (by omega) hbytes
        rcases A with _ | b'
        · have hs0 : sLen = 0 := by
            rcases hA with h | ⟨b, h, _⟩
            · exact h
            · cases h
          subst hs0
          have ho : olds = [] := List.eq_nil_of_length_eq_zero (by simpa using hlo)
          subst ho
          have hfit' := hfit
          simp only [Nat.zero_add] at hfit' h63' hr ⊢
          have hn' : ¬ n ≤ sCap := by omega
          have h63'' : ¬ (9223372036854775807 < (n : Int)) := by omega
          have h48' : ¬ (281474976710656 < Builtin.nextslicecap n sCap * i.bytes) := by omega
          have hf := run_firstCells_some (P := P) w.drew i.size n b n c news hl (by simpa using hX')
          simp [Builtin.append_, run_underlying ht, sizeOf, typeInfo, zeroValue, hi, hz, Builtin.lenOf, hn', h63'', h48', Question.forced, run_firstCells_none, hf, newRow, grownCap]
        · have holds : ∀ j v, olds[j]? = some v → w.cell? (b'.add j) = some v := by
            intro j v hj
            rcases hA with h | ⟨b, h, hc⟩
            · subst h
              have ho : olds = [] := List.eq_nil_of_length_eq_zero (by simpa using hlo)
              subst ho; simp at hj
            · simp only [Option.some.injEq] at h; subst h; exact hc j v hj
          exact run_append_grow w t ty e i z ht hi hz b' sLen sCap olds hlo holds b n c news hl hX' (by omega) h63' hfit
end

/-- What is appended to: a nil slice, or the whole of a row. -/
def tgtD (σ : St) (k : Nat) : D → Option (Option Nat × List (List D))
  | .sc (.slice none 0 0) => some (none, [])
  | .slo o k' 0 len => match hget σ.heap o with
    | .row k'' rows => if k' = k ∧ k'' = k ∧ len = rows.length then some (some o, rows) else none
    | _ => none
  | _ => none
/-- The elements of a slice. -/
def elemsD (σ : St) (k : Nat) : D → Option (List (List D))
  | .sc (.slice none 0 0) => some []
  | .sl k' rows => if k' = k then some rows else none
  | .slo o k' off len => match hget σ.heap o with
    | .row k'' rows => if k' = k ∧ k'' = k ∧ off + len ≤ rows.length then some ((rows.drop off).take len) else none
    | _ => none
  | _ => none
section
variable {P : Program} {w0 : World} {p : Pm} {σ : St} {a : Act} {w : World} {ρ : Nat → Option (Option Nat)}
theorem elems_spec (h : RelAt w0 p σ a w ρ) {k : Nat} {d : D} {v : Value} {xs : List (List D)} (hx : elemsD σ k d = some xs) (hr : R w (stab p σ.heap ρ w) ρ d v) :
    ∃ X c, v = .slice X xs.length c ∧ ∃ news : List Value, news.length = xs.length * k ∧ RL w (stab p σ.heap ρ w) (fun _ => none) xs.flatten news ∧ (∀ u ∈ news, u.oneCell' = true) ∧ (∀ r ∈ xs, r.length = k) ∧
      (xs.length = 0 ∨ ∃ b, X = some b ∧ ∀ j u, news[j]? = some u → w.cell? (b.add j) = some u) := by
  have fin : ∀ {g off : Nat} {rows : List (List D)}, RR w (stab p σ.heap ρ w) k g off rows → ∃ news : List Value, news.length = rows.length * k ∧ RL w (stab p σ.heap ρ w) (fun _ => none) rows.flatten news ∧ (∀ u ∈ news, u.oneCell' = true) ∧ (∀ r ∈ rows, r.length = k) ∧
      ∀ j u, news[j]? = some u → w.cell? ((⟨g, off, none⟩ : Addr).add j) = some u := by
    intro g off rows hrr
    obtain ⟨vs, h1, h2, h3, h4, h5⟩ := RR_flat hrr
    exact ⟨vs, h1, h2, h3, h4, fun j u hj => by rw [Addr.add_lit]; exact h5 j u hj⟩
  have nil : ∃ news : List Value, news.length = ([] : List (List D)).length * k ∧ RL w (stab p σ.heap ρ w) (fun _ => none) ([] : List (List D)).flatten news ∧ (∀ u ∈ news, u.oneCell' = true) ∧ (∀ r ∈ ([] : List (List D)), r.length = k) :=
    ⟨[], by simp, by simp [RL], by simp, by simp⟩
  cases d with
  | sc u =>
    simp only [elemsD] at hx
    split at hx
    · rename_i heq
      simp only [Option.some.injEq] at hx
      subst hx
      simp only [R] at hr
      simp only [D.sc.injEq] at heq
      subst heq
      obtain ⟨news, n1, n2, n3, n4⟩ := nil
      exact ⟨none, 0, hr, news, n1, n2, n3, n4, .inl rfl⟩
    all_goals first | cases hx | (rename_i heq; simp at heq)
  | sl k' rows =>
    simp only [elemsD] at hx
    split at hx
    · rename_i hk
      subst hk
      simp only [Option.some.injEq] at hx
      subst hx
      simp only [R] at hr
      obtain ⟨A, c, e1, e2, e3, e4⟩ := hr
      rcases e4 with rfl | ⟨g, off, rfl, e5, e6⟩
      · obtain ⟨news, n1, n2, n3, n4⟩ := nil
        exact ⟨A, c, e1, news, n1, n2, n3, n4, .inl rfl⟩
      · obtain ⟨news, n1, n2, n3, n4, n5⟩ := fin e6
        exact ⟨_, c, e1, news, n1, n2, n3, n4, .inr ⟨_, rfl, n5⟩⟩
    · cases hx
  | slo o k' off len =>
    simp only [elemsD] at hx
    split at hx
    · rename_i k'' rows hg
      split at hx
      · rename_i hk
        obtain ⟨rfl, rfl, hle⟩ := hk
        simp only [Option.some.injEq] at hx
        subst hx
        have hb := h.objs o
        rw [hg] at hb
        have hl : ((rows.drop off).take len).length = len := by rw [List.length_take, List.length_drop]; omega
        simp only [R] at hr
        rcases hr with ⟨e1, rfl, rfl, A, e4⟩ | ⟨g, cap, A, e1, e2, e3, e4, e5, e6⟩
        · obtain ⟨news, n1, n2, n3, n4⟩ := nil
          exact ⟨A, 0, by rw [hl]; exact e4, news, by simpa using n1, by simpa using n2, n3, by simp, .inl hl⟩
        · by_cases hz : len = 0
          · subst hz
            obtain ⟨news, n1, n2, n3, n4⟩ := nil
            exact ⟨A, cap - off, by rw [hl]; exact e5, news, by simpa using n1, by simpa using n2, n3, by simp, .inl hl⟩
          · simp only [RO, e1] at hb
            obtain ⟨cur, e, cap', _, _, _, _, h7⟩ := hb
            have h8 := RR_take len (RR_drop off h7)
            rw [Nat.zero_add] at h8
            obtain ⟨news, n1, n2, n3, n4, n5⟩ := fin h8
            exact ⟨A, cap - off, by rw [hl]; exact e5, news, n1, n2, n3, n4, .inr ⟨_, e6 (by omega), n5⟩⟩
      · cases hx
    · cases hx
  | any | agg | ro | ref | elt | tup | fn => simp [elemsD] at hx

/-- The state behind an append: the row has the name d. -/
def appIds (src : Option Nat) (d : Nat) : List Nat := match src with | some o => [o, d] | none => [d]
def St.appTo (σ : St) (src : Option Nat) (d k : Nat) (rows : List (List D)) : St :=
  St.put { σ.kills (appIds src d) with heap := hset (σ.kills (appIds src d)).heap d (.row k rows) } (some d) (.slo d k 0 rows.length)

theorem Steps1.append {o : Oper} {s x : Operand} {t : TypeId} {d : Nat} {ti ei : TI} {e : TypeId} {src : Option Nat} {rows xs : List (List D)} (ho : o.op = .call { callee := .builtin .append, args := #[s, x], argTypes := #[t, t] })
    (hdst : o.dst = some d) (ht : tiGet P t = some ti) (hk : ti.kind.elem? = some e) (he : tiGet P e = some ei) (hzs : ei.zero.cells.size = ei.size) (hz1 : ei.zero.cells.toList.all (·.oneCell') = true) (hb0 : 0 < ei.bytes) (hh : hfree σ.heap d = true)
    (hs : tgtD σ ei.size (evl σ s) = some (src, rows)) (hx : elemsD σ ei.size (evl σ x) = some xs) (hb : (rows.length + xs.length) * ei.bytes ≤ 140737488355328) :
    Steps1 P σ o (σ.appTo src d ei.size (rows ++ xs)) := by
  rintro w0 p a w ⟨ρ, h⟩
  obtain ⟨i, dt, hi, hu, z1, z2, z3, z4⟩ := tiGet_spec ht
  obtain ⟨ie, de, hie, hue, y1, y2, y3, y4⟩ := tiGet_spec he
  have hut : P.underlying t = some (.slice e) := by
    cases hkk : ti.kind with
    | slice e' =>
      rw [hkk] at hk z4
      simp only [TK.elem?, Option.some.injEq] at hk
      subst hk
      rw [tk_slice z4] at hu; exact hu
    | _ => rw [hkk] at hk; simp [TK.elem?] at hk
  obtain ⟨X, c, hxv, news, n1, n2, n3, n4, n5⟩ := elems_spec h hx (h.evl x)
  have h63 : rows.length + xs.length ≤ maxLen := by
    have : (rows.length + xs.length) * 1 ≤ (rows.length + xs.length) * ei.bytes := Nat.mul_le_mul_left _ hb0
    unfold maxLen; omega
  have hexec : ∀ A sLen sCap v w', a.eval s = .slice A sLen sCap → (Builtin.append_ #[t, t] o.type #[.slice A sLen sCap, .slice X xs.length c]).run P w = .ok v w' → (execOp a.eval o).run P w = .ok (.value v) w' := by
    intro A sLen sCap v w' h1 h2
    simp [execOp, ho, resolve, invoke, builtin, h1, hxv, h2]
  have hs' := h.evl s
  -- the two kinds of targets
  have main : ∀ (A : Option Addr) (sCap : Nat) (olds : List Value), a.eval s = .slice A rows.length sCap → rows.length ≤ sCap → sCap ≤ maxLen → olds.length = rows.length * ei.size → RL w (stab p σ.heap ρ w) (fun _ => none) rows.flatten olds →
      (∀ u ∈ olds, u.oneCell' = true) → (∀ r ∈ rows, r.length = ei.size) → (rows.length = 0 ∨ ∃ b, A = some b ∧ ∀ j v, olds[j]? = some v → w.cell? (b.add j) = some v) →
      (0 < xs.length → rows.length + xs.length ≤ sCap → ∃ g q cur e', A = some ⟨g, q, none⟩ ∧ w.heap[g]? = some (.cells cur e' (0, 0)) ∧ q + rows.length * ei.size + news.length ≤ cur.size) →
      (∀ ids, d ∈ ids → (ids = appIds src d) →
        (xs.length = 0 → ∃ ρ', RelAt w0 p { σ.kills ids with heap := hset (σ.kills ids).heap d (.row ei.size (rows ++ xs)) } a w ρ' ∧ R w (stab p (hset (σ.kills ids).heap d (.row ei.size (rows ++ xs))) ρ' w) ρ' (.slo d ei.size 0 (rows ++ xs).length) (.slice A rows.length sCap)) ∧
        (∀ g q cur e', 0 < xs.length → rows.length + xs.length ≤ sCap → A = some ⟨g, q, none⟩ → w.heap[g]? = some (.cells cur e' (0, 0)) → q + rows.length * ei.size + news.length ≤ cur.size →
          ∃ ρ', RelAt w0 p { σ.kills ids with heap := hset (σ.kills ids).heap d (.row ei.size (rows ++ xs)) } a (w.setRow g (cur.toList.take (q + rows.length * ei.size) ++ news ++ cur.toList.drop (q + rows.length * ei.size + news.length)).toArray) ρ' ∧
            R (w.setRow g (cur.toList.take (q + rows.length * ei.size) ++ news ++ cur.toList.drop (q + rows.length * ei.size + news.length)).toArray) (stab p (hset (σ.kills ids).heap d (.row ei.size (rows ++ xs))) ρ' (w.setRow g (cur.toList.take (q + rows.length * ei.size) ++ news ++ cur.toList.drop (q + rows.length * ei.size + news.length)).toArray)) ρ'
              (.slo d ei.size 0 (rows ++ xs).length) (.slice A (rows.length + xs.length) sCap))) →
      ∃ v w', ((execOp a.eval o).run P w = .ok (.value v) w' ∨ (v = undef ∧ (execOp a.eval o).run P w = .ok .skip w')) ∧ Rel w0 p (σ.appTo src d ei.size (rows ++ xs)) (a.put o.dst v) w' := by
    intro A sCap olds e1 e2 e3 e4 e5 e6 e7 e8 e9 e10
    have hall := run_append_all (P := P) (w := w) t o.type e ie ei.zero hut hie y3 A rows.length sCap olds (by rw [y1]; exact e4) e2 e8 X xs.length c news (by rw [y1]; exact n1) n5 n3 (by rw [y1]; exact e9) h63 (by rw [y2]; exact hb) (fun v hv => List.all_eq_true.1 hz1 v hv) e6
    obtain ⟨ids, hids, hd⟩ : ∃ ids, (ids = appIds src d) ∧ d ∈ ids := ⟨_, rfl, by cases src <;> simp [appIds]⟩
    have happ : ∀ _ : Value, σ.appTo src d ei.size (rows ++ xs) = St.put { σ.kills ids with heap := hset (σ.kills ids).heap d (.row ei.size (rows ++ xs)) } o.dst (.slo d ei.size 0 (rows ++ xs).length) := by
      intro _; rw [hdst, hids]; rfl
    obtain ⟨f1, f2⟩ := e10 ids hd hids
    rcases hall with ⟨g1, g2⟩ | ⟨g1, g2, g, q, cur, e', g3, g4, g5, g6⟩ | ⟨g1, g2, cap, cur, g3, g4, g5, g6, g7⟩
    · obtain ⟨ρ', r1, r2⟩ := f1 g1
      exact ⟨_, _, .inl (hexec A rows.length sCap _ _ e1 g2), by rw [happ undef]; exact ⟨ρ', r1.put o.dst r2⟩⟩
    · rw [y1] at g5 g6
      obtain ⟨ρ', r1, r2⟩ := f2 g q cur e' g1 g2 g3 g4 g5
      exact ⟨_, _, .inl (hexec A rows.length sCap _ _ e1 g6), by rw [happ undef]; exact ⟨ρ', r1.put o.dst r2⟩⟩
    · rw [y1] at g5 g6
      have hcs := g5 hzs
      refine ⟨_, _, .inl (hexec A rows.length sCap _ _ e1 g7), ?_⟩
      rw [happ undef]
      have hflat : ∀ st : Nat → Prop, (∀ g, stab p σ.heap ρ w.drew g → st g) → RR (w.drew.alloc (.cells cur e)) st ei.size w.heap.size 0 (rows ++ xs) := by
        intro st hst
        have hst' : ∀ g, stab p σ.heap ρ w g → st g := fun g hg => hst g hg
        have hc : ∀ g off, stab p σ.heap ρ w g → (w.drew.alloc (.cells cur e)).cell? ⟨g, off, none⟩ = w.cell? ⟨g, off, none⟩ := fun g off hg => World.cell?_alloc_lt w.drew _ ⟨g, off, none⟩ hg.2.1
        have hsh : ∀ g n, Sh w g n → Sh (w.drew.alloc (.cells cur e)) g n := fun g n hs => Sh_of_block (Below.heap_alloc w.drew _ g hs.lt) hs
        refine RR_of_flat (vs := olds ++ news) (fun r hr => ?_) ?_ (fun v hv => ?_) (fun j v hj => ?_)
        · cases List.mem_append.1 hr with
          | inl h => exact e7 r h
          | inr h => exact n4 r h
        · rw [List.flatten_append]
          exact RL_append (RL.mono hc hsh hst' e5) (RL.mono hc hsh hst' n2)
        · cases List.mem_append.1 hv with
          | inl h => exact e6 v h
          | inr h => exact n3 v h
        · rw [Nat.zero_add, World.cell?_alloc_at (w := w.drew) cur e w.heap.size j rfl]
          rw [← g6, List.getElem?_take] at hj
          split at hj
          · simpa using hj
          · cases hj
      have hnb := h.drew.newBlock (ids := ids) (o := d) (x := .row ei.size (rows ++ xs)) (cur := cur) (e := e) hd hh (by simp) (fun st hst => by
        simp only [RO, updρ_same]
        exact ⟨cur, e, cap, heap_alloc_new w.drew _, hcs, g4, by rw [List.length_append]; exact g3, hflat st hst⟩)
      refine ⟨_, hnb.put o.dst ?_⟩
      simp only [R, updρ_same]
      refine .inr ⟨w.heap.size, cap, _, rfl, ⟨cur, e, heap_alloc_new w.drew _, hcs.size⟩, by rw [List.length_append]; omega, g4, by rw [List.length_append]; rfl, fun _ => by simp⟩
  have virt : ∀ (ids : List Nat), d ∈ ids → rows = [] → xs.length = 0 → ∀ (A : Option Addr) (n : Nat), n = 0 → ∃ ρ', RelAt w0 p { σ.kills ids with heap := hset (σ.kills ids).heap d (.row ei.size (rows ++ xs)) } a w ρ' ∧
      R w (stab p (hset (σ.kills ids).heap d (.row ei.size (rows ++ xs))) ρ' w) ρ' (.slo d ei.size 0 (rows ++ xs).length) (.slice A n 0) := by
    intro ids hd hr hx0 A n hn
    have hxs : xs = [] := List.eq_nil_of_length_eq_zero hx0
    rw [hr, hxs, hn]
    refine ⟨_, h.newVirt hd hh, ?_⟩
    simp only [R, updρ_same]
    exact .inl ⟨trivial, trivial, rfl, A, rfl⟩
  cases hsd : evl σ s with
  | sc u =>
    rw [hsd] at hs hs'
    simp only [tgtD] at hs
    split at hs
    · rename_i heq
      simp only [D.sc.injEq] at heq
      subst heq
      simp only [Option.some.injEq, Prod.mk.injEq] at hs
      obtain ⟨rfl, rfl⟩ := hs
      simp only [R] at hs'
      refine main none 0 [] hs' (Nat.le_refl _) (Nat.zero_le _) (by simp) (by simp [RL]) (by simp) (by simp) (.inl rfl) (fun h1 h2 => by simp only [List.length_nil] at h2; omega) (fun ids hd hids => ⟨fun hx0 => virt ids hd rfl hx0 none 0 rfl, ?_⟩)
      intro g q cur e' _ _ hA
      cases hA
    all_goals first | cases hs | (rename_i heq; simp at heq)
  | slo o' k' off len =>
    rw [hsd] at hs hs'
    cases off with
    | succ n => simp [tgtD] at hs
    | zero =>
      simp only [tgtD] at hs
      split at hs
      · rename_i k'' rows' hg
        split at hs
        · rename_i hc
          obtain ⟨rfl, rfl, rfl⟩ := hc
          simp only [Option.some.injEq, Prod.mk.injEq] at hs
          obtain ⟨rfl, rfl⟩ := hs
          have hro := h.objs o'
          rw [hg] at hro
          simp only [R] at hs'
          rcases hs' with ⟨e1, _, e3, A, e4⟩ | ⟨g, cap, A, e1, e2, e3, e4, e5, e6⟩
          · have hr0 : rows' = [] := List.eq_nil_of_length_eq_zero e3
            subst hr0
            refine main A 0 [] e4 (Nat.le_refl _) (Nat.zero_le _) (by simp) (by simp [RL]) (by simp) (by simp) (.inl rfl) (fun h1 h2 => by simp only [List.length_nil] at h2; omega) (fun ids hd hids => ⟨fun hx0 => virt ids hd rfl hx0 A 0 rfl, ?_⟩)
            intro g q cur e' h1 h2
            simp only [List.length_nil] at h2
            omega
          · simp only [RO, e1] at hro
            obtain ⟨cur, e', cap', r1, r2, r3, r4, r5⟩ := hro
            have hcap : cur.size = cap * ei.size := by
              obtain ⟨cur2, e2', s1, s2⟩ := e2
              rw [r1] at s1
              simp only [Option.some.injEq, Obj.cells.injEq] at s1
              rw [s1.1]; exact s2
            obtain ⟨olds, o1, o2, o3, o4, o5⟩ := RR_flat r5
            simp only [Nat.zero_add, Nat.sub_zero, Nat.zero_mul] at e3 e5 e6 o5
            have hfit : ∀ n, rows'.length + n ≤ cap → rows'.length * ei.size + n * ei.size ≤ cur.size := by
              intro n hn
              rw [hcap, ← Nat.add_mul]; exact Nat.mul_le_mul_right _ hn
            refine main A cap olds e5 e3 e4 o1 o2 o3 o4 ?_ ?_ ?_
            · by_cases hz : rows'.length = 0
              · exact .inl hz
              · exact .inr ⟨_, e6 (by omega), fun j v hj => by rw [Addr.add_lit, Nat.zero_add]; exact o5 j v hj⟩
            · intro h1 h2
              exact ⟨g, 0, cur, e', e6 (by omega), r1, by rw [n1, Nat.zero_add]; exact hfit _ h2⟩
            · intro ids hd hids
              subst hids
              have hshape : ∀ {w' : World} {ρ' : Nat → Option (Option Nat)} {st : Nat → Prop} {n : Nat}, (∀ g n, Sh w g n → Sh w' g n) → ρ' d = some (some g) → n = (rows' ++ xs).length → rows'.length + xs.length ≤ cap → R w' st ρ' (.slo d ei.size 0 (rows' ++ xs).length) (.slice A n cap) := by
                intro w' ρ' st n hsh hρ hn hle
                simp only [R]
                refine .inr ⟨g, cap, A, hρ, hsh _ _ e2, by rw [List.length_append]; omega, e4, by rw [hn]; rfl, fun hlt => by rw [Nat.zero_mul]; exact e6 hlt⟩
              refine ⟨fun hx0 => ?_, fun g' q cur' e'' h1 h2 hA hcur hfit' => ?_⟩
              · have hxs : xs = [] := List.eq_nil_of_length_eq_zero hx0
                have hm := h.moved (d := d) (rows' := rows' ++ xs) (w' := w) hg hh (fun _ _ _ => rfl) (fun _ _ hs => hs) (Nat.le_refl _) rfl rfl rfl (fun st hst => by
                  simp only [RO, updρ_same, e1]
                  rw [hxs, List.append_nil]
                  exact ⟨cur, e', cap', r1, r2, r3, r4, RR.mono (fun _ _ _ => rfl) (fun _ _ hs => hs) hst (fun _ => rfl) r5⟩)
                exact ⟨_, hm, hshape (fun _ _ hs => hs) (by rw [updρ_same, e1]) (by rw [hxs]; simp) (by omega)⟩
              · rw [e6 (by omega)] at hA
                simp only [Option.some.injEq, Addr.mk.injEq] at hA
                obtain ⟨rfl, rfl, _⟩ := hA
                rw [r1] at hcur
                simp only [Option.some.injEq, Obj.cells.injEq] at hcur
                obtain ⟨rfl, rfl, _⟩ := hcur
                simp only [Nat.zero_add] at hfit' ⊢
                have hlen : (cur.toList.take (rows'.length * ei.size) ++ news ++ cur.toList.drop (rows'.length * ei.size + news.length)).toArray.size = cur.size := by
                  simp only [List.size_toArray, List.length_append, List.length_take, List.length_drop, Array.length_toList]
                  omega
                have hsh : ∀ b n, Sh w b n → Sh (w.setRow g (cur.toList.take (rows'.length * ei.size) ++ news ++ cur.toList.drop (rows'.length * ei.size + news.length)).toArray) b n := by
                  intro b n hh
                  by_cases e' : b = g
                  · subst e'
                    obtain ⟨c2, e2', s1, s2⟩ := hh
                    rw [r1] at s1
                    simp only [Option.some.injEq, Obj.cells.injEq] at s1
                    exact ⟨_, _, setRow_heap w b cur _ _ (0, 0) r1, by rw [hlen, s1.1, s2]⟩
                  · exact Sh_of_block (setRow_other w g b _ e') hh
                have hm := h.moved (d := d) (rows' := rows' ++ xs) (w' := w.setRow g (cur.toList.take (rows'.length * ei.size) ++ news ++ cur.toList.drop (rows'.length * ei.size + news.length)).toArray) hg hh
                  (fun b _ hb => setRow_other w g b _ (fun e' => hb (by rw [e1, e']))) hsh (by rw [setRow_size]; exact Nat.le_refl _) rfl rfl rfl (fun st hst => by
                  simp only [RO, updρ_same, e1]
                  have hc : ∀ b off, stab p σ.heap ρ w b → (w.setRow g (cur.toList.take (rows'.length * ei.size) ++ news ++ cur.toList.drop (rows'.length * ei.size + news.length)).toArray).cell? ⟨b, off, none⟩ = w.cell? ⟨b, off, none⟩ := by
                    intro b off hb
                    refine World.cell?_of_block (w := w) (a := ⟨b, off, none⟩) (setRow_other w g b _ ?_)
                    rintro rfl
                    exact hb.2.2 o' (by rw [hg]; simp) e1
                  refine ⟨_, _, cap, setRow_heap w g cur _ _ (0, 0) r1, ⟨by rw [hlen]; exact hcap, fun v hv => ?_⟩, e4, by rw [List.length_append]; omega, ?_⟩
                  · simp only [List.mem_append] at hv
                    rcases hv with (hv | hv) | hv
                    · exact r2.one v (List.mem_of_mem_take hv)
                    · exact n3 v hv
                    · exact r2.one v (List.mem_of_mem_drop hv)
                  refine RR_of_flat (vs := olds ++ news) (fun r hr => ?_) ?_ (fun v hv => ?_) (fun j v hj => ?_)
                  · cases List.mem_append.1 hr with
                    | inl h => exact o4 r h
                    | inr h => exact n4 r h
                  · rw [List.flatten_append]
                    exact RL_append (RL.mono hc hsh hst o2) (RL.mono hc hsh hst n2)
                  · cases List.mem_append.1 hv with
                    | inl h => exact o3 v h
                    | inr h => exact n3 v h
                  · rw [Nat.zero_add, cell_of_row _ g j _ _ (0, 0) (setRow_heap w g cur _ _ (0, 0) r1)]
                    have htake : cur.toList.take (rows'.length * ei.size) = olds := by
                      apply List.ext_getElem?
                      intro i
                      by_cases hi : i < rows'.length * ei.size
                      · rw [List.getElem?_take_of_lt hi]
                        have : olds[i]? = some (olds[i]'(by omega)) := List.getElem?_eq_getElem (by omega)
                        have h5 := o5 i _ this
                        rw [cell_of_row w g i cur _ (0, 0) r1, ← Array.getElem?_toList] at h5
                        rw [h5, this]
                      · rw [List.getElem?_eq_none (by rw [List.length_take]; omega), List.getElem?_eq_none (by rw [o1]; omega)]
                    rw [htake, List.getElem?_toArray, List.getElem?_append_left (by
                      rw [List.length_append]
                      have := (List.getElem?_eq_some_iff.1 hj).1
                      simpa using this)]
                    exact hj)
                exact ⟨_, hm, hshape hsh (by rw [updρ_same, e1]) (by rw [List.length_append]) h2⟩
        · cases hs
      · cases hs
  | any | agg | sl | tup | ro | ref | elt | fn => rw [hsd] at hs; simp [tgtD] at hs
end
end Go.Avm
