/- The abstract machine, part Q: arguments of any plain type (integers, bools, strings, structs, slices of these) as data by value. -/
import Derived.Test.YtpopgpjojbngcaaAvmP
import Derived.ChangeArms
namespace Go.Avm
set_option linter.unusedVariables false
set_option linter.unusedSimpArgs false
open Go.RowKit Go.ChangeShapes Go.WideShapes Go.ChangeAt

/-- The type of one cell. -/
inductive C where
  | bool | int (k : IntKind) | str | sl (row : List C)
mutual
def Cok : C → D → Prop
  | .bool, d => ∃ b, d = .sc (.bool b)
  | .int k, d => ∃ n, d = .sc (.int k n) ∧ (Lit.int k n).wf = true
  | .str, d => ∃ s : ByteArray, d = .sc (.string s) ∧ s.size ≤ maxLen
  | .sl r, d => ∃ rows, d = .sl r.length rows ∧ rows.length ≤ maxLen ∧ ∀ row ∈ rows, Rok r row
def Rok : List C → List D → Prop
  | [], ds => ds = []
  | c :: cs, ds => ∃ d ds', ds = d :: ds' ∧ Cok c d ∧ Rok cs ds'
end
def fldTys (P : Program) (g : TypeId → Option (List C)) : List Field → Nat → Option (List C)
  | [], _ => some []
  | f :: fs, off => (g f.type).bind fun r => if f.offset = off ∧ r.length = P.cellsOf f.type then (fldTys P g fs (off + r.length)).map (r ++ ·) else none
def cTys (P : Program) : Nat → TypeId → Option (List C)
  | 0, _ => none
  | n + 1, t => match P.underlying t with
    | some .bool => some [.bool]
    | some (.int k) => some [.int k]
    | some .string => some [.str]
    | some (.slice e) => (cTys P n e).bind fun r => if r.length = P.cellsOf e ∧ 0 < r.length then some [.sl r] else none
    | some (.struct fs) => (fldTys P (cTys P n) fs.toList 0).bind fun r => if r.length = P.cellsOf t then some r else none
    | _ => none

theorem Rok_append : ∀ {r1 r2 : List C} {d1 d2 : List D}, Rok r1 d1 → Rok r2 d2 → Rok (r1 ++ r2) (d1 ++ d2)
  | [], _, _, _, h1, h2 => by simp only [Rok] at h1; subst h1; exact h2
  | c :: r1, r2, d1, d2, h1, h2 => by
    simp only [Rok] at h1
    obtain ⟨d, ds', rfl, hc, hr⟩ := h1
    simp only [List.cons_append, Rok]
    exact ⟨d, ds' ++ d2, rfl, hc, Rok_append hr h2⟩
theorem Rok_length : ∀ {r : List C} {ds : List D}, Rok r ds → ds.length = r.length
  | [], _, h => by simp only [Rok] at h; subst h; rfl
  | c :: r, ds, h => by
    simp only [Rok] at h
    obtain ⟨d, ds', rfl, _, hr⟩ := h
    simp [Rok_length hr]

section
variable {H : Type} {enc : TypeId × Value → H} {P : Program} {w : World} {spare : Nat → Bool} {held : Bool}
abbrev Opens (w : World) (r : List C) (cs : List Value) : Prop := ∃ ds, RL w (fun g => g < w.heap.size) (fun _ => none) ds cs ∧ Rok r ds ∧ ∀ v ∈ cs, v.oneCell' = true

theorem RC_of_RL {g : Nat} : ∀ {ds : List D} {cs : List Value} {off : Nat}, RL w (fun g => g < w.heap.size) (fun _ => none) ds cs → (∀ v ∈ cs, v.oneCell' = true) → (∀ j v, cs[j]? = some v → w.cell? ⟨g, off + j, none⟩ = some v) → RC w (fun g => g < w.heap.size) g off ds
  | [], _, _, _, _, _ => by simp [RC]
  | d :: ds, cs, off, h, h1, h2 => by
    simp only [RL] at h
    obtain ⟨v, vs', rfl, hr, hrs⟩ := h
    simp only [RC]
    refine ⟨⟨v, by simpa using h2 0 v (by simp), h1 v (by simp), hr⟩, RC_of_RL hrs (fun u hu => h1 u (by simp [hu])) fun j u hj => ?_⟩
    have := h2 (j + 1) u (by simpa using hj)
    rwa [show off + (j + 1) = off + 1 + j by omega] at this

theorem open_slice {e : TypeId} {r : List C} (hlen : r.length = P.cellsOf e) (hpos : 0 < r.length) {fuel : Nat} {t : TypeId} {cs : List Value} {x : DataW H × List MemPlace} (ht : P.underlying t = some (.slice e))
    (he : ∀ (fuel : Nat) (cs : List Value) (x : DataW H × List MemPlace), DataW.trod enc P w 0 spare held fuel e cs = some x → Opens w r cs) (h : DataW.trod enc P w 0 spare held fuel t cs = some x) : Opens w [.sl r] cs := by
  rcases DataW.trod_slice ht h with ⟨rfl, _⟩ | ⟨a, len, cap, elems, rest, n, _, rfl, rfl, hb, hl, hm, hlen', hel, _, _⟩
  · refine ⟨[.sl r.length []], by simp only [RL, R]; exact ⟨_, _, rfl, ⟨none, 0, rfl, Nat.zero_le _, Nat.zero_le _, .inl trivial⟩, rfl⟩, ?_, by simp [Value.oneCell']⟩
    simp only [Rok, Cok]
    exact ⟨_, _, rfl, ⟨[], rfl, Nat.zero_le _, by simp⟩, rfl⟩
  · have each : ∀ i, i < len → ∃ vs, w.cells? 0 (a.add (i * P.cellsOf e)) (P.cellsOf e) = some vs ∧ Opens w r vs := by
      intro i hi
      have h1 := hel i hi
      rw [List.getElem?_eq_getElem (by omega), Option.bind_eq_some_iff] at h1
      obtain ⟨vs, h2, h3⟩ := h1
      exact ⟨vs, h2, he _ _ _ h3⟩
    obtain ⟨g, off, spot⟩ := a
    have hspot : 0 < len → spot = none ∧ g < w.heap.size := by
      intro h0
      obtain ⟨vs, h1, _⟩ := each 0 h0
      have h2 := (World.cells?_some h1).2.2 0 (by omega)
      have h3 := (World.cells?_some h1).2.1
      obtain ⟨v, hv⟩ : ∃ v, vs[0]? = some v := ⟨vs[0], by simp⟩
      rw [hv] at h2
      have hs : spot = none := by
        cases spot with
        | none => rfl
        | some x => simp [Addr.add, World.cell?] at h2; split at h2 <;> simp at h2
      subst hs
      refine ⟨rfl, ?_⟩
      have := World.block_lt_of_cell? w _ h2
      simpa [Addr.add_lit] using this
    have rows : ∀ m i, i + m = len → 0 < len → ∃ rs, rs.length = m ∧ RR w (fun g => g < w.heap.size) r.length g (off + i * r.length) rs ∧ ∀ row ∈ rs, Rok r row := by
      intro m
      induction m with
      | zero => intro i _ _; exact ⟨[], rfl, by simp [RR], by simp⟩
      | succ m ih =>
        intro i hi h0
        obtain ⟨rs, h1, h2, h3⟩ := ih (i + 1) (by omega) h0
        obtain ⟨vs, h4, ds, h5, h6, h7⟩ := each i (by omega)
        obtain ⟨rfl, hg⟩ := hspot h0
        obtain ⟨_, h8, h9⟩ := World.cells?_some h4
        refine ⟨ds :: rs, by simp [h1], ?_, ?_⟩
        · simp only [RR]
          refine ⟨Rok_length h6, RC_of_RL h5 h7 fun j v hj => ?_, ?_⟩
          · have hlt : j < vs.length := (List.getElem?_eq_some_iff.1 hj).1
            have := h9 j (by omega)
            rw [Addr.add_lit, Addr.add_lit, hj, ← hlen] at this
            exact this
          · rwa [show off + i * r.length + r.length = off + (i + 1) * r.length by rw [Nat.add_mul]; omega]
        · intro row hrow
          cases List.mem_cons.1 hrow with
          | inl e => rw [e]; exact h6
          | inr e => exact h3 row e
    by_cases h0 : 0 < len
    · obtain ⟨rs, h1, h2, h3⟩ := rows len 0 (by omega) h0
      obtain ⟨rfl, hg⟩ := hspot h0
      refine ⟨[.sl r.length rs], ?_, ?_, by simp [Value.oneCell']⟩
      · simp only [RL, R]
        refine ⟨_, _, rfl, ⟨some ⟨g, off, none⟩, cap, by rw [h1], by omega, hm, .inr ⟨g, off, rfl, hg, ?_⟩⟩, rfl⟩
        simpa using h2
      · simp only [Rok, Cok]
        exact ⟨_, _, rfl, ⟨rs, rfl, by omega, h3⟩, rfl⟩
    · have hz : len = 0 := by omega
      subst hz
      refine ⟨[.sl r.length []], by simp only [RL, R]; exact ⟨_, _, rfl, ⟨some ⟨g, off, spot⟩, cap, rfl, Nat.zero_le _, hm, .inl trivial⟩, rfl⟩, ?_, by simp [Value.oneCell']⟩
      simp only [Rok, Cok]
      exact ⟨_, _, rfl, ⟨[], rfl, Nat.zero_le _, by simp⟩, rfl⟩

theorem open_fields {g : TypeId → Option (List C)} {n : Nat} {cs : List Value} (hg : ∀ t r, g t = some r → ∀ (fuel : Nat) (cs : List Value) (x : DataW H × List MemPlace), DataW.trod enc P w 0 spare held fuel t cs = some x → Opens w r cs) :
    ∀ (fs : List Field) (off : Nat) (r : List C), fldTys P g fs off = some r → (∀ f ∈ fs, ∃ x, DataW.trod enc P w 0 spare held n f.type ((cs.drop f.offset).take (P.cellsOf f.type)) = some x) → off + r.length ≤ cs.length → Opens w r ((cs.drop off).take r.length)
  | [], off, r, h, _, _ => by
    simp only [fldTys, Option.some.injEq] at h
    subst h
    exact ⟨[], by simp [RL], by simp [Rok], by simp⟩
  | f :: fs, off, r, h, hx, hle => by
    simp only [fldTys, Option.bind_eq_some_iff] at h
    obtain ⟨r1, h1, h⟩ := h
    split at h
    · rename_i hc
      obtain ⟨rfl, hc2⟩ := hc
      simp only [Option.map_eq_some_iff] at h
      obtain ⟨r2, h2, rfl⟩ := h
      obtain ⟨x, hx1⟩ := hx f (by simp)
      obtain ⟨d1, a1, a2, a3⟩ := hg _ _ h1 _ _ _ hx1
      rw [List.length_append] at hle
      obtain ⟨d2, b1, b2, b3⟩ := open_fields hg fs _ r2 h2 (fun f' hf' => hx f' (by simp [hf'])) (by omega)
      have e : (cs.drop f.offset).take (r1 ++ r2).length = (cs.drop f.offset).take (P.cellsOf f.type) ++ (cs.drop (f.offset + r1.length)).take r2.length := by
        rw [List.length_append, List.take_add, ← hc2, List.drop_drop]
      rw [e]
      refine ⟨d1 ++ d2, RL_append a1 b1, Rok_append a2 b2, ?_⟩
      intro v hv
      cases List.mem_append.1 hv with
      | inl hv => exact a3 v hv
      | inr hv => exact b3 v hv
    · cases h

theorem open_any : ∀ (n : Nat) (t : TypeId) (r : List C), cTys P n t = some r → ∀ (fuel : Nat) (cs : List Value) (x : DataW H × List MemPlace), DataW.trod enc P w 0 spare held fuel t cs = some x → Opens w r cs
  | 0, _, _, h, _, _, _, _ => by simp [cTys] at h
  | n + 1, t, r, h, fuel, cs, x, hx => by
    simp only [cTys] at h
    split at h
    · rename_i hu
      simp only [Option.some.injEq] at h; subst h
      obtain ⟨b, rfl, _⟩ := DataW.trod_bool hu hx
      exact ⟨[.sc (.bool b)], by simp [RL, R], by simp [Rok, Cok], by simp [Value.oneCell']⟩
    · rename_i k hu
      simp only [Option.some.injEq] at h; subst h
      obtain ⟨z, rfl, _, hw⟩ := DataW.trod_int hu hx
      exact ⟨[.sc (.int k z)], by simp [RL, R], by simp [Rok, Cok, hw], by simp [Value.oneCell']⟩
    · rename_i hu
      simp only [Option.some.injEq] at h; subst h
      obtain ⟨s, rfl, _, hw⟩ := DataW.trod_string hu hx
      exact ⟨[.sc (.string s)], by simp [RL, R], by simp [Rok, Cok, hw], by simp [Value.oneCell']⟩
    · rename_i e hu
      simp only [Option.bind_eq_some_iff] at h
      obtain ⟨r', h1, h⟩ := h
      split at h
      · rename_i hc
        simp only [Option.some.injEq] at h; subst h
        exact open_slice hc.1 hc.2 hu (open_any n e r' h1) hx
      · cases h
    · rename_i fs hu
      simp only [Option.bind_eq_some_iff] at h
      obtain ⟨r', h1, h⟩ := h
      split at h
      · rename_i hc
        simp only [Option.some.injEq] at h; subst h
        obtain ⟨xs, m, rfl, _, hl, hsz, hf⟩ := DataW.trod_struct hu hx
        have := open_fields (n := m) (cs := cs) (fun t r hr => open_any n t r hr) fs.toList 0 r' h1 (fun f hm => by
          obtain ⟨i, hi⟩ := List.getElem?_of_mem hm
          have h2 := hf i f (by simpa using hi)
          have hlt : i < xs.length := by rw [hsz]; simpa using (List.getElem?_eq_some_iff.1 hi).1
          exact ⟨xs[i], by rw [h2]; simp [hlt]⟩) (by omega)
        rw [List.drop_zero, hc, ← hl, List.take_length] at this
        exact this
      · cases h
    · cases h

/-- An argument of one cell. -/
theorem arg_cell {base : Nat} {t : TypeId} {n : Nat} {c : C} {v : Value} {d : DataW H} {ps : List MemPlace} (hc : cTys P n t = some [c]) (h : DataW.Trod enc P w 0 (fun _ => true) true t v d ps) (hv : v.cells = #[v]) :
    ∃ a, R w (fun g => g < w.heap.size) (fun _ => none) a v ∧ Cok c a := by
  obtain ⟨fuel, hf⟩ := h
  obtain ⟨ds, h1, h2, _⟩ := open_any n t [c] hc fuel _ _ hf
  rw [hv] at h1
  simp only [Rok] at h2
  obtain ⟨a, _, rfl, h3, rfl⟩ := h2
  simp only [RL] at h1
  obtain ⟨u, us, e, h4, rfl⟩ := h1
  simp only [List.cons.injEq, and_true] at e
  subst e
  exact ⟨a, h4, h3⟩
/-- Rows of a type, each as one's own record. -/
theorem rows_map {α : Type} {f : α → List D} {ok : α → Prop} {r : List C} (h : ∀ row, Rok r row → ∃ a, row = f a ∧ ok a) : ∀ {rows : List (List D)}, (∀ row ∈ rows, Rok r row) → ∃ as : List α, rows = as.map f ∧ ∀ a ∈ as, ok a
  | [], _ => ⟨[], rfl, by simp⟩
  | row :: rows, hr => by
    obtain ⟨a, rfl, ha⟩ := h row (hr _ (by simp))
    obtain ⟨as, rfl, has⟩ := rows_map h (rows := rows) (fun x hx => hr x (by simp [hx]))
    exact ⟨a :: as, rfl, by simpa using ⟨ha, has⟩⟩
end
end Go.Avm
