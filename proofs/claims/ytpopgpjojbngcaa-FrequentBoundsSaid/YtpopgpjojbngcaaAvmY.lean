/- The abstract machine, part Y: capacities, slices beyond the length, append of a make; objects that pass to another name; calls that are handed what their arguments name. -/
import Derived.Test.YtpopgpjojbngcaaAvmX
namespace Go.Avm
set_option linter.unusedVariables false
set_option linter.unusedSimpArgs false
open Go.RowKit

section
variable {w0 : World} {p : Pm} {σ : St} {a : Act} {w : World} {ρ : Nat → Option (Option Nat)}
/-- A live object told otherwise. -/
theorem RelAt.recast (h : RelAt w0 p σ a w ρ) {o : Nat} {x : Obj} (hlive : hget σ.heap o ≠ .dead) (hxd : x ≠ .dead)
    (hx : ∀ st : Nat → Prop, (∀ g, stab p σ.heap ρ w g → st g) → RO w st ρ o x) : RelAt w0 p { σ with heap := hset σ.heap o x } a w ρ := by
  have hhas_ : hhas σ.heap o = true := hhas_of_hget hlive
  have hget' : ∀ o', o' ≠ o → hget (hset σ.heap o x) o' = hget σ.heap o' := fun o' e => hget_hset_other e
  have hlive' : ∀ o', hget (hset σ.heap o x) o' ≠ .dead ↔ hget σ.heap o' ≠ .dead := by
    intro o'
    by_cases e : o' = o
    · subst e; rw [hget_hset_same hhas_]; exact ⟨fun _ => hlive, fun _ => hxd⟩
    · rw [hget' o' e]
  have hst : ∀ k, stab p σ.heap ρ w k → stab p (hset σ.heap o x) ρ w k := fun k hk => ⟨hk.1, hk.2.1, fun o' ho' => hk.2.2 o' ((hlive' o').1 ho')⟩
  have hc : ∀ k off, stab p σ.heap ρ w k → w.cell? ⟨k, off, none⟩ = w.cell? ⟨k, off, none⟩ := fun _ _ _ => rfl
  refine ⟨h.open_, h.defers, RL.mono hc (fun _ _ hh => hh) hst h.slots, fun o' => ?_, fun o1 o2 g' h1 h2 => h.inj o1 o2 g' ((hlive' o1).1 h1) ((hlive' o2).1 h2), fun o1 g' h1 => h.fresh o1 g' ((hlive' o1).1 h1), h.below, h.pin⟩
  by_cases e' : o' = o
  · subst e'
    show RO _ _ ρ o' (hget (hset σ.heap o' x) o')
    rw [hget_hset_same hhas_]
    exact hx _ hst
  · show RO _ _ ρ o' (hget (hset σ.heap o x) o')
    rw [hget' o' e']
    exact RO.mono hc (fun _ _ hh => hh) hst (fun _ _ => rfl) (h.objs o')
end

/-- A row whose capacity is its length. -/
def rowC (k : Nat) (rows : List (List D)) : Ext where
  φ w st g := ∃ cur e, w.heap[g]? = some (.cells cur e (0, 0)) ∧ SzOne cur (rows.length * k) ∧ rows.length ≤ maxLen ∧ RR w st k g 0 rows
  lt h := by
    obtain ⟨cur, e, h1, _⟩ := h
    exact (Array.getElem?_eq_some_iff.1 h1).1
  mono hc hs hst hb h := by
    obtain ⟨cur, e, h1, h2, h3, h4⟩ := h
    exact ⟨cur, e, hb.trans h1, h2, h3, RR.mono hc hs hst (fun off => World.cell?_of_block (a := ⟨_, off, none⟩) hb) h4⟩
/-- Rows of which nothing is known. -/
def anyR (k n : Nat) : List (List D) := List.replicate n (List.replicate k .any)
theorem anyR_len {k n : Nat} : (anyR k n).length = n := List.length_replicate
theorem RC_any {w : World} {st : Nat → Prop} {g : Nat} : ∀ {k off : Nat}, (∀ j, j < k → ∃ v, w.cell? ⟨g, off + j, none⟩ = some v ∧ v.oneCell' = true) → RC w st g off (List.replicate k .any)
  | 0, _, _ => by simp [RC]
  | k + 1, off, h => by
    simp only [List.replicate_succ, RC]
    obtain ⟨v, h1, h2⟩ := h 0 (by omega)
    refine ⟨⟨v, by simpa using h1, h2, by simp [R]⟩, RC_any fun j hj => ?_⟩
    have := h (j + 1) (by omega)
    simpa [Nat.add_assoc, Nat.add_comm 1 j] using this
theorem RR_any {w : World} {st : Nat → Prop} {k g : Nat} : ∀ {n off : Nat}, (∀ j, j < n * k → ∃ v, w.cell? ⟨g, off + j, none⟩ = some v ∧ v.oneCell' = true) → RR w st k g off (anyR k n)
  | 0, _, _ => by simp [anyR, RR]
  | n + 1, off, h => by
    simp only [anyR, List.replicate_succ, RR]
    refine ⟨by simp, RC_any fun j hj => h j (by rw [Nat.add_mul]; omega), RR_any (n := n) fun j hj => ?_⟩
    have := h (k + j) (by rw [Nat.add_mul]; omega)
    simpa [Nat.add_assoc] using this
theorem RR_app {w : World} {st : Nat → Prop} {k g : Nat} : ∀ {rs ss : List (List D)} {off : Nat}, RR w st k g off rs → RR w st k g (off + rs.length * k) ss → RR w st k g off (rs ++ ss)
  | [], _, _, _, h => by simpa using h
  | r :: rs, ss, off, h, h2 => by
    simp only [RR, List.cons_append] at h ⊢
    refine ⟨h.1, h.2.1, RR_app h.2.2 ?_⟩
    rw [List.length_cons, Nat.add_mul] at h2
    rw [show off + k + rs.length * k = off + (rs.length * k + 1 * k) by omega]
    exact h2

section
variable {P : Program} {ds : List (Option Nat)} {Q : Exit → St → Prop} {σ σ' : St} {l : List Oper} {dst : Option Nat} {ty : TypeId} {pos : String} {af : Array Edge} {g : Option (Nat × Bool)}
/-- cap: behind it the row is told to its capacity. -/
theorem TriD.cap {x : Operand} {t e : TypeId} {ti : TI} {q k off len : Nat} {rows : List (List D)} (hg : aguardC ds g σ = some true) (ht : tiGet P t = some ti) (hk : ti.kind.elem? = some e)
    (hx : evl σ x = .slo q k off len) (hk0 : 0 < k) (hrow : hget σ.heap q = .row k rows) (hne : 0 < rows.length)
    (hn : ∀ m : Nat, rows.length + m ≤ maxLen → TriD P ds Q l (St.put { σ with heap := hset σ.heap q (.ext (rowC k (rows ++ anyR k m))) } dst (.sc (.int .i64 ((rows.length + m - off : Nat) : Int))))) : TriD P ds Q (⟨dst, .call { callee := .builtin .cap, args := #[x], argTypes := #[t] }, ty, pos, af, g⟩ :: l) σ := by
  intro all ha w0 p a w hr
  have hw := aguard_wanted (all := all) (o := ⟨dst, .call { callee := .builtin .cap, args := #[x], argTypes := #[t] }, ty, pos, af, g⟩) (by rw [aguard_C ha]; exact hg) hr
  obtain ⟨ρ, hr⟩ := hr
  have hu := slice_of_ti ht hk
  have ho := hr.objs q
  rw [hrow] at ho
  have h1 := hr.evl x
  rw [hx] at h1
  simp only [R] at h1
  cases hρ : ρ q with
  | none => simp only [RO, hρ] at ho
  | some z =>
    cases z with
    | none =>
      simp only [RO, hρ] at ho
      subst ho
      simp at hne
    | some gg =>
      simp only [RO, hρ] at ho
      obtain ⟨cur, e', cap, e1, e2, e3, e4, e5⟩ := ho
      rcases h1 with ⟨f1, _⟩ | ⟨g', cap', A, f1, f2, f3, f4, f5, f6⟩
      · rw [hρ] at f1; simp at f1
      · rw [hρ] at f1
        simp only [Option.some.injEq] at f1
        subst f1
        obtain ⟨cur2, e6, f7, f8⟩ := f2
        rw [e1] at f7
        simp only [Option.some.injEq, Obj.cells.injEq] at f7
        obtain ⟨rfl, _⟩ := f7
        have hcc : cap' = cap := Nat.eq_of_mul_eq_mul_right hk0 (f8.symm.trans e2.size)
        subst hcc
        have hrun : (execOp a.eval ⟨dst, .call { callee := .builtin .cap, args := #[x], argTypes := #[t] }, ty, pos, af, g⟩).run P w = .ok (.value (.int .i64 ((cap' - off : Nat) : Int))) w := by
          simp [execOp, resolve, invoke, builtin, Builtin.cap_, run_underlying hu, f5, goInt]
        have hsum : rows.length + (cap' - rows.length) = cap' := by omega
        refine wpList_of_step hw (.inl hrun) (hn (cap' - rows.length) (by omega) all ha w0 p _ _ ⟨ρ, RelAt.put ?_ dst ?_⟩)
        · refine hr.recast (by rw [hrow]; simp) (by simp) fun st hst => ?_
          simp only [RO]
          refine ⟨gg, hρ, cur, e', e1, ⟨?_, e2.one⟩, ?_, RR_app (RR.mono (fun _ _ _ => rfl) (fun _ _ hh => hh) hst (fun _ => rfl) e5) (RR_any fun j hj => ?_)⟩
          · rw [e2.size, List.length_append]; simp only [anyR, List.length_replicate, hsum]
          · rw [List.length_append]; simp only [anyR, List.length_replicate, hsum]; exact e3
          · have hlt : rows.length * k + j < cur.size := by
              rw [e2.size, ← hsum, Nat.add_mul]; omega
            refine ⟨cur[rows.length * k + j], ?_, e2.one _ (by simp)⟩
            rw [Nat.zero_add, cell_of_row w gg _ cur e' (0, 0) e1]
            exact Array.getElem?_eq_getElem hlt
        · rw [hsum]; simp [R]
/-- What is told to its capacity told as a row. -/
theorem Imp.unC (q : Nat) {k : Nat} {rows : List (List D)} (h : hget σ.heap q = .ext (rowC k rows)) : Imp σ { σ with heap := hset σ.heap q (.row k rows) } := by
  rintro w0 p a w ⟨ρ, hr⟩
  have ho := hr.objs q
  rw [h] at ho
  simp only [RO] at ho
  obtain ⟨g, hρ, cur, e, e1, e2, e3, e4⟩ := ho
  refine ⟨ρ, hr.recast (by rw [h]; simp) (by simp) fun st hst => ?_⟩
  simp only [RO, hρ]
  exact ⟨cur, e, rows.length, e1, e2, e3, Nat.le_refl _, RR.mono (fun _ _ _ => rfl) (fun _ _ hh => hh) hst (fun _ => rfl) e4⟩
theorem TriD.imp (h : Imp σ σ') (hn : TriD P ds Q l σ') : TriD P ds Q l σ := fun all ha => TriL.imp h (hn all ha)
theorem TriD.unC (q : Nat) {k : Nat} {rows : List (List D)} (h : hget σ.heap q = .ext (rowC k rows)) (he : { σ with heap := hset σ.heap q (.row k rows) } = σ') (hn : TriD P ds Q l σ') : TriD P ds Q l σ := TriD.imp (Imp.unC q h) (he ▸ hn)
theorem Tri.unC {c : Code} (q : Nat) {k : Nat} {rows : List (List D)} (h : hget σ.heap q = .ext (rowC k rows)) (he : { σ with heap := hset σ.heap q (.row k rows) } = σ') (hn : Tri P c Q σ') : Tri P c Q σ := Tri.imp (Imp.unC q h) (he ▸ hn)
/-- A part of a slice beyond its length: into what is told of its row. -/
theorem TriD.reslice {x : Operand} {lo hi : Option Operand} {t e : TypeId} {ti ei : TI} {q k off len lb hb : Nat} {rows : List (List D)} (hg : aguardC ds g σ = some true) (ht : tiGet P t = some ti) (hk : ti.kind.elem? = some e) (he : tiGet P e = some ei) (hks : ei.size = k) (hk0 : 0 < k)
    (hx : evl σ x = .slo q k off len) (hrow : hget σ.heap q = .row k rows) (hlo : bnd σ 0 lo = some lb) (hhi : bnd σ len hi = some hb) (h1 : lb ≤ hb) (h2 : off + hb ≤ rows.length) (h3 : off < rows.length)
    (hn : TriD P ds Q l (σ.put dst (.slo q k (off + lb) (hb - lb)))) : TriD P ds Q (⟨dst, .slice t x lo hi none, ty, pos, af, g⟩ :: l) σ := by
  intro all ha w0 p a w hr
  have hw := aguard_wanted (all := all) (o := ⟨dst, .slice t x lo hi none, ty, pos, af, g⟩) (by rw [aguard_C ha]; exact hg) hr
  obtain ⟨ρ, hr⟩ := hr
  have ho := hr.objs q
  rw [hrow] at ho
  have hX := hr.evl x
  rw [hx] at hX
  simp only [R] at hX
  cases hρ : ρ q with
  | none => simp only [RO, hρ] at ho
  | some z =>
    cases z with
    | none =>
      simp only [RO, hρ] at ho
      subst ho
      simp at h3
    | some gg =>
      simp only [RO, hρ] at ho
      obtain ⟨cur, e', cap, e1, e2, e3, e4, e5⟩ := ho
      rcases hX with ⟨f1, _⟩ | ⟨g', cap', A, f1, f2, f3, f4, f5, f6⟩
      · rw [hρ] at f1; simp at f1
      · rw [hρ] at f1
        simp only [Option.some.injEq] at f1
        subst f1
        obtain ⟨cur2, e6, f7, f8⟩ := f2
        rw [e1] at f7
        simp only [Option.some.injEq, Obj.cells.injEq] at f7
        obtain ⟨rfl, _⟩ := f7
        have hcc : cap' = cap := Nat.eq_of_mul_eq_mul_right hk0 (f8.symm.trans e2.size)
        subst hcc
        have hrun : (execOp a.eval ⟨dst, .slice t x lo hi none, ty, pos, af, g⟩).run P w = .ok (.value (.slice (if cap' - off = lb then A else A.map (·.add (lb * ei.size))) (hb - lb) (cap' - off - lb))) w := by
          obtain ⟨⟨dt, hu, hkd⟩, _⟩ := run_ti ht w
          obtain ⟨_, hsz, _⟩ := run_ti he w
          cases hkk : ti.kind with
          | slice e' =>
            rw [hkk] at hk hkd
            simp only [TK.elem?, Option.some.injEq] at hk
            subst hk
            obtain rfl := tk_slice hkd
            rcases bnd_spec hr hlo with ⟨rfl, rfl⟩ | ⟨y, k', rfl, hy⟩ <;> rcases bnd_spec hr hhi with ⟨rfl, rfl⟩ | ⟨y', k'', rfl, hy'⟩
            · simp [execOp, f5, Instr.sliceAt, hu, Instr.slice, Instr.sliceBounds, hsz]
            · have hb' := run_sliceBound (P := P) w k'' (hb : Int) (cap' - off) .sliceAcap (by omega) (by omega)
              simp [execOp, f5, Instr.sliceAt, hu, Instr.slice, Instr.sliceBounds, hsz, hy', hb']
            · have hb' := run_sliceBound (P := P) w k' (lb : Int) hb .sliceB (by omega) (by omega)
              simp [execOp, f5, Instr.sliceAt, hu, Instr.slice, Instr.sliceBounds, hsz, hy, hb']
            · have hb1 := run_sliceBound (P := P) w k' (lb : Int) hb .sliceB (by omega) (by omega)
              have hb2 := run_sliceBound (P := P) w k'' (hb : Int) (cap' - off) .sliceAcap (by omega) (by omega)
              simp [execOp, f5, Instr.sliceAt, hu, Instr.slice, Instr.sliceBounds, hsz, hy, hb1, hy', hb2]
          | _ => rw [hkk] at hk; simp [TK.elem?] at hk
        refine wpList_of_step hw (.inl hrun) (hn all ha w0 p _ _ ⟨ρ, hr.put dst ?_⟩)
        simp only [R]
        refine .inr ⟨gg, cap', _, hρ, ⟨cur, e', e1, f8⟩, by omega, f4, by rw [Nat.sub_sub], ?_⟩
        intro hlt
        rw [if_neg (by omega), f6 (by omega), hks]
        simp [Addr.add_lit, Nat.add_mul]
/-- s[i:j:m], whose value nobody asks for. -/
theorem TriD.slice3 {x y : Operand} {lo hi : Option Operand} {t e : TypeId} {ti ei : TI} {len lb hb mb : Nat} (hg : aguardC ds g σ = some true) (ht : tiGet P t = some ti) (hk : ti.kind.elem? = some e) (he : tiGet P e = some ei)
    (hx : lenD (evl σ x) = some len) (hlo : bnd σ 0 lo = some lb) (hh : hi.isSome = true) (hhi : bnd σ len hi = some hb) (hmx : bnd σ 0 (some y) = some mb) (h1 : lb ≤ hb) (h2 : hb ≤ mb) (h3 : mb ≤ len)
    (hn : TriD P ds Q l (σ.put dst .any)) : TriD P ds Q (⟨dst, .slice t x lo hi (some y), ty, pos, af, g⟩ :: l) σ := by
  intro all ha w0 p a w hr
  have hw := aguard_wanted (all := all) (o := ⟨dst, .slice t x lo hi (some y), ty, pos, af, g⟩) (by rw [aguard_C ha]; exact hg) hr
  obtain ⟨ρ, hr⟩ := hr
  obtain ⟨A, c, hA, hc⟩ : ∃ A c, a.eval x = .slice A len c ∧ len ≤ c := by
    have h1 := hr.evl x
    cases hx' : evl σ x with
    | sl k rows =>
      rw [hx'] at h1 hx
      simp only [lenD, Option.some.injEq] at hx
      simp only [R] at h1
      obtain ⟨A, c, e1, e2, _⟩ := h1
      exact ⟨A, c, by rw [e1, hx], by omega⟩
    | slo o k off n =>
      rw [hx'] at h1 hx
      simp only [lenD, Option.some.injEq] at hx
      subst hx
      simp only [R] at h1
      rcases h1 with ⟨_, _, e3, A, e4⟩ | ⟨g, cap, A, _, _, e3, _, e5, _⟩
      · exact ⟨A, 0, by rw [e4, e3], by omega⟩
      · exact ⟨A, _, e5, by omega⟩
    | any | sc | agg | ro | ref | elt | tup | fn => rw [hx'] at hx; simp [lenD] at hx
  obtain ⟨v, hv⟩ : ∃ v, (execOp a.eval ⟨dst, .slice t x lo hi (some y), ty, pos, af, g⟩).run P w = .ok (.value v) w := by
    obtain ⟨⟨dt, hu, hkd⟩, _⟩ := run_ti ht w
    obtain ⟨_, hsz, _⟩ := run_ti he w
    rcases bnd_spec hr hmx with ⟨h0, _⟩ | ⟨y', k', e0, hy'⟩
    · cases h0
    · cases e0
      cases hkk : ti.kind with
      | slice e' =>
        rw [hkk] at hk hkd
        simp only [TK.elem?, Option.some.injEq] at hk
        subst hk
        obtain rfl := tk_slice hkd
        have hm' := run_sliceBound (P := P) w k' (mb : Int) c .slice3Acap (by omega) (by omega)
        rcases bnd_spec hr hhi with ⟨rfl, _⟩ | ⟨z, k2, rfl, hz⟩
        · simp at hh
        · have hh' := run_sliceBound (P := P) w k2 (hb : Int) mb .slice3B (by omega) (by omega)
          rcases bnd_spec hr hlo with ⟨rfl, rfl⟩ | ⟨u, k3, rfl, hu3⟩
          · exact ⟨_, by simp [execOp, hA, Instr.sliceAt, hu, Instr.slice, Instr.sliceBounds, hsz, hy', hm', hz, hh']; rfl⟩
          · have hl' := run_sliceBound (P := P) w k3 (lb : Int) hb .slice3C (by omega) (by omega)
            exact ⟨_, by simp [execOp, hA, Instr.sliceAt, hu, Instr.slice, Instr.sliceBounds, hsz, hy', hm', hz, hh', hu3, hl']; rfl⟩
      | _ => rw [hkk] at hk; simp [TK.elem?] at hk
  exact wpList_of_step hw (.inl hv) (hn all ha w0 p _ _ ⟨ρ, hr.put dst (by simp [R])⟩)
end
end Go.Avm
