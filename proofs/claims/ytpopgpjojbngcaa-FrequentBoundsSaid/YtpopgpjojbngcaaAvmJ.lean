/- The abstract machine, part J: structs and slices that are built or made; states that say less; bytes as a string. -/
import Derived.Test.YtpopgpjojbngcaaAvmI
namespace Go.Avm
set_option linter.unusedVariables false
set_option linter.unusedSimpArgs false
open Go.RowKit

section
variable {P : Program} {σ : St}

theorem RL_parts {w0 : World} {p : Pm} {a : Act} {w : World} {ρ : Nat → Option (Option Nat)} (h : RelAt w0 p σ a w ρ) (parts : List (Nat × Operand)) :
    RL w (stab p σ.heap ρ w) ρ ((parts.map fun x => (x.1, evl σ x.2)).map (·.2)) ((parts.map fun x => (x.1, a.eval x.2)).map (·.2)) := by
  induction parts with
  | nil => simp [RL]
  | cons x xs ih => simp only [List.map_cons, RL]; exact ⟨_, _, rfl, h.evl x.2, ih⟩

/-- The places of a struct's fields. -/
def placesOf (P : Program) (fs : List (Nat × TypeId)) : Option (List (Nat × Nat)) := mapO (fun f => (tiGet P f.2).map fun ti => (f.1, ti.size)) fs
theorem run_places {w : World} : ∀ {F : List Field} {ps : List (Nat × Nat)}, placesOf P (F.map fun f => (f.offset, f.type)) = some ps →
    (F.mapM (fun f => do pure (f.offset, ← sizeOf f.type)) : Sem (List (Nat × Nat))).run P w = .ok ps w
  | [], ps, h => by
    simp only [placesOf, List.map_nil, mapO, Option.some.injEq] at h
    subst h
    simp
  | f :: F, ps, h => by
    simp only [placesOf, List.map_cons, mapO, Option.bind_eq_some_iff, Option.map_eq_some_iff] at h
    obtain ⟨x, ⟨ti, h1, rfl⟩, ps', h2, rfl⟩ := h
    have ih := run_places (F := F) (w := w) (ps := ps') (by simpa [placesOf] using h2)
    obtain ⟨_, hs, _⟩ := run_ti h1 w
    simp only [List.mapM_cons, Sem.run_bind, hs, ih, Result.andThen_ok, Sem.run_pure]
theorem Sound.build {t : TypeId} {parts : Array (Nat × Operand)} {ti : TI} {fs : List (Nat × TypeId)} {ps : List (Nat × Nat)} {cells : List D} (ht : tiGet P t = some ti) (hk : ti.kind = .struct fs) (hp : placesOf P fs = some ps)
    (hf : fillD (ps[·]?) (ti.zero.cells.toList.map .sc) (parts.toList.map fun x => (x.1, evl σ x.2)) = some cells) : Sound P σ (.build t parts) (.agg cells) := by
  intro w0 p a w ρ o ho h
  obtain ⟨⟨dt, hu, hkd⟩, _, _, hz, _⟩ := run_ti ht w
  rw [hk] at hkd
  obtain ⟨F, rfl, hF⟩ := tk_struct hkd
  have hpl : (F.mapM (fun f => do pure (f.offset, ← sizeOf f.type)) : Sem (Array (Nat × Nat))).run P w = .ok ps.toArray w := by
    rw [← Array.toArray_toList (xs := F), List.mapM_toArray]
    simp only [Sem.run_map, run_places (F := F.toList) (w := w) (by rw [hF]; exact hp), Result.andThen_ok]
  obtain ⟨vs', h1, h2⟩ := fill_spec (w := w) (st := stab p σ.heap ρ w) (ρ := ρ) (vparts := parts.toList.map fun x => (x.1, a.eval x.2)) (RL_sc ti.zero.cells.toList) (by simp [List.map_map, Function.comp_def]) (RL_parts h parts.toList) hf
  refine ⟨.agg vs'.toArray, ?_, by simp only [R]; exact ⟨_, rfl, by simpa using h2⟩⟩
  have h1' : Instr.fill (fun i : Nat => ps[i]?) ti.zero.cells (parts.toList.map fun x => (x.1, a.eval x.2)) = some vs'.toArray := by simpa using h1
  simp only [execOp, ho, Instr.build, Sem.run_bind, hz, Result.andThen_ok, hu, hpl, Sem.run_pure]
  simp [h1']

def chunks (k : Nat) : Nat → List D → List (List D)
  | 0, _ => []
  | n + 1, cs => cs.take k :: chunks k n (cs.drop k)
theorem chunks_length {k : Nat} : ∀ {n : Nat} {cs : List D}, (chunks k n cs).length = n
  | 0, _ => rfl
  | n + 1, cs => by simp [chunks, chunks_length]
theorem RR_chunks {w : World} {st : Nat → Prop} {k g : Nat} : ∀ {n off : Nat} {cs : List D} {vs : List Value}, cs.length = n * k → RL w st (fun _ => none) cs vs → (∀ v ∈ vs, v.oneCell' = true) →
    (∀ j v, vs[j]? = some v → w.cell? ⟨g, off + j, none⟩ = some v) → RR w st k g off (chunks k n cs)
  | 0, _, _, _, _, _, _, _ => by simp [chunks, RR]
  | n + 1, off, cs, vs, hl, h, h1, h2 => by
    rw [Nat.add_mul, Nat.one_mul] at hl
    simp only [chunks, RR]
    have hvl := RL_length h
    refine ⟨by rw [List.length_take]; omega, RC_of_list (RL_take k h) (fun v hv => h1 v (List.mem_of_mem_take hv)) (fun j v hj => ?_), RR_chunks (by rw [List.length_drop]; omega) (RL_drop k h) (fun v hv => h1 v (List.mem_of_mem_drop hv)) (fun j v hj => ?_)⟩
    · rw [List.getElem?_take] at hj
      split at hj
      · exact h2 j v hj
      · cases hj
    · rw [List.getElem?_drop] at hj
      have := h2 (k + j) v hj
      rwa [show off + k + j = off + (k + j) by omega]

theorem slice_of_ti {t e : TypeId} {ti : TI} (ht : tiGet P t = some ti) (hk : ti.kind.elem? = some e) : P.underlying t = some (.slice e) := by
  obtain ⟨i, dt, hi, hu, z1, z2, z3, z4⟩ := tiGet_spec ht
  cases hkk : ti.kind with
  | slice e' =>
    rw [hkk] at hk z4
    simp only [TK.elem?, Option.some.injEq] at hk
    subst hk
    rw [tk_slice z4] at hu; exact hu
  | _ => rw [hkk] at hk; simp [TK.elem?] at hk

/-- The zero cells of n elements. -/
def zeroD (z : Value) (n : Nat) : List D := (List.range n).map fun i => .sc (z.cells[i % z.cells.size]!)
theorem Steps1.buildSlice {o : Oper} {t : TypeId} {n d : Nat} {parts : Array (Nat × Operand)} {ti ei : TI} {e : TypeId} {cells : List D} (ho : o.op = .buildSlice t n parts) (hdst : o.dst = some d) (hh : hfree σ.heap d = true) (ht : tiGet P t = some ti) (hk : ti.kind.elem? = some e)
    (he : tiGet P e = some ei) (hn : n ≤ 16777216) (hle : n * ei.size ≤ 16777216) (hf : fillD (fun i => some (i * ei.size, ei.size)) (zeroD ei.zero (n * ei.size)) (parts.toList.map fun x => (x.1, evl σ x.2)) = some cells)
    (hlen : cells.length = n * ei.size) (hone : cells.all oneD = true) (hpure : pureL cells = true) :
    Steps1 P σ o (St.put { σ.kills [d] with heap := hset (σ.kills [d]).heap d (.row ei.size (chunks ei.size n cells)) } (some d) (.slo d ei.size 0 n)) := by
  rintro w0 p a w ⟨ρ, h⟩
  have hu := run_underlying (P := P) (slice_of_ti ht hk) w
  obtain ⟨_, hs, _, hz, _⟩ := run_ti he w
  have hz0 : RL w (stab p σ.heap ρ w) ρ (zeroD ei.zero (n * ei.size)) ((List.range (n * ei.size)).map fun i => ei.zero.cells[i % ei.zero.cells.size]!) := by
    have : zeroD ei.zero (n * ei.size) = ((List.range (n * ei.size)).map fun i => ei.zero.cells[i % ei.zero.cells.size]!).map .sc := by simp [zeroD, List.map_map, Function.comp_def]
    rw [this]; exact RL_sc _
  obtain ⟨vs', h1, h2⟩ := fill_spec (vparts := parts.toList.map fun x => (x.1, a.eval x.2)) hz0 (by simp [List.map_map, Function.comp_def]) (RL_parts h parts.toList) hf
  have h3 := pureL_spec (ρ' := fun _ => none) hpure h2
  have h4 := RL_one hone h2
  have hvl := RL_length h2
  refine ⟨.slice (some ⟨w.heap.size, 0, none⟩) n n, w.alloc (.cells vs'.toArray e), .inl ?_, ?_⟩
  · have hle' : ¬ (n * ei.size > 2 ^ 24) := by omega
    have hfill : ∀ z : Array Value, (n * ei.size = 0 ∨ z = ei.zero.cells) → Instr.fill (fun i => some (i * ei.size, ei.size)) ((Array.range (n * ei.size)).map (z[· % z.size]!)) (parts.map fun x => (x.1, a.eval x.2)).toList = some vs'.toArray := by
      intro z hz'
      have ez : (Array.range (n * ei.size)).map (z[· % z.size]!) = ((List.range (n * ei.size)).map fun i => ei.zero.cells[i % ei.zero.cells.size]!).toArray := by
        rcases hz' with h0 | rfl
        · rw [h0]; simp
        · apply Array.toList_inj.1; simp
      rw [ez, Array.toList_map]; exact h1
    by_cases h0 : n * ei.size = 0
    · have hf0 := hfill #[] (.inl h0)
      simp only [execOp, ho, Instr.buildSlice, Sem.run_bind, hu, Result.andThen_ok, hs, Sem.run_pure]
      rw [if_neg hle']
      simp only [Sem.run_bind, Sem.run_pure, Result.andThen_ok, if_pos h0]
      simp only [hf0, Sem.run_bind, Sem.run_pure, newRow, run_newObj, Result.andThen_ok]
      rfl
    · have hf0 := hfill ei.zero.cells (.inr rfl)
      simp only [execOp, ho, Instr.buildSlice, Sem.run_bind, hu, Result.andThen_ok, hs, Sem.run_pure]
      rw [if_neg hle']
      simp only [Sem.run_bind, Sem.run_pure, Result.andThen_ok, if_neg h0, hz]
      simp only [hf0, Sem.run_bind, Sem.run_pure, newRow, run_newObj, Result.andThen_ok]
      rfl
  · rw [hdst]
    have hrr : ∀ st : Nat → Prop, (∀ g, stab p σ.heap ρ w g → st g) → RR (w.alloc (.cells vs'.toArray e)) st ei.size w.heap.size 0 (chunks ei.size n cells) := by
      intro st hst
      refine RR_chunks hlen (RL.mono (fun g off hg => World.cell?_alloc_lt w _ ⟨g, off, none⟩ hg.2.1) (fun g n hs => Sh_of_block (Below.heap_alloc w _ g hs.lt) hs) hst h3) h4 (fun j v hj => ?_)
      rw [Nat.zero_add, World.cell?_alloc_new]
      simpa using hj
    have hk0 : n ≤ maxLen := by unfold maxLen; omega
    have hnb := h.newBlock (ids := [d]) (o := d) (x := .row ei.size (chunks ei.size n cells)) (cur := vs'.toArray) (e := e) (by simp) hh (by simp) (fun st hst => by
      simp only [RO, updρ_same]
      exact ⟨_, e, n, heap_alloc_new w _, ⟨by rw [List.size_toArray, hvl, hlen], fun v hv => h4 v (by simpa using hv)⟩, hk0, by rw [chunks_length]; exact Nat.le_refl _, hrr st hst⟩)
    refine ⟨_, hnb.put (some d) ?_⟩
    simp only [R, updρ_same]
    exact .inr ⟨w.heap.size, n, _, rfl, ⟨_, e, heap_alloc_new w _, by rw [List.size_toArray, hvl, hlen]⟩, by omega, hk0, rfl, fun _ => by simp⟩

theorem RR_zero {w : World} {st : Nat → Prop} {k g : Nat} {z : List Value} (hz : z.length = k) (hone : ∀ v ∈ z, v.oneCell' = true) : ∀ {n off : Nat}, (∀ j, j < n * k → w.cell? ⟨g, off + j, none⟩ = z[j % k]?) → RR w st k g off (List.replicate n (z.map .sc))
  | 0, _, _ => by simp [RR]
  | n + 1, off, h => by
    rw [List.replicate_succ]
    simp only [RR]
    refine ⟨by simpa using hz, RC_of_list (RL_sc z) hone (fun j v hj => ?_), RR_zero hz hone (fun j hj => ?_)⟩
    · have hlt : j < z.length := (List.getElem?_eq_some_iff.1 hj).1
      rw [h j (by rw [Nat.add_mul]; omega), Nat.mod_eq_of_lt (by omega), hj]
    · have := h (k + j) (by rw [Nat.add_mul]; omega)
      rw [Nat.add_mod_left] at this
      rwa [show off + k + j = off + (k + j) by omega]
theorem madeCells_one {z : Array Value} {n : Nat} (hz : ∀ v ∈ z.toList, v.oneCell' = true) : ∀ v ∈ (madeCells z n).toList, v.oneCell' = true := by
  intro v hv
  simp only [madeCells, Array.toList_map, List.mem_map, Array.mem_toList_iff, Array.mem_range] at hv
  obtain ⟨i, hi, rfl⟩ := hv
  by_cases hpos : 0 < z.size
  · have hlt : i % z.size < z.size := Nat.mod_lt _ hpos
    rw [getElem!_pos z _ hlt]
    exact hz _ (Array.mem_toList_iff.2 (Array.getElem_mem hlt))
  · have : z.size = 0 := by omega
    have hz0 : z = #[] := Array.eq_empty_of_size_eq_zero this
    subst hz0
    rfl
theorem Steps1.makeSlice {o : Oper} {t : TypeId} {lx cx : Operand} {d l c : Nat} {kl kc : IntKind} {ti ei : TI} {e : TypeId} (ho : o.op = .makeSlice t lx cx) (hdst : o.dst = some d) (hh : hfree σ.heap d = true) (ht : tiGet P t = some ti) (hk : ti.kind.elem? = some e)
    (he : tiGet P e = some ei) (hl : evl σ lx = .sc (.int kl (l : Int))) (hc : evl σ cx = .sc (.int kc (c : Int))) (hlc : l ≤ c) (hb : ei.bytes * c ≤ 281474976710656) (h63 : c ≤ 9223372036854775807)
    (hzs : ei.zero.cells.size = ei.size) (h0 : 0 < ei.size) (hone : ei.zero.cells.toList.all (·.oneCell') = true) :
    Steps1 P σ o (St.put { σ.kills [d] with heap := hset (σ.kills [d]).heap d (.row ei.size (List.replicate c (ei.zero.cells.toList.map .sc))) } (some d) (.slo d ei.size 0 l)) := by
  rintro w0 p a w ⟨ρ, h⟩
  obtain ⟨ie, de, hie, hue, y1, y2, y3, y4⟩ := tiGet_spec he
  have hl' := h.evl lx
  have hc' := h.evl cx
  rw [hl] at hl'
  rw [hc] at hc'
  simp only [R] at hl' hc'
  have hb' : (ie.bytes : Int) * (c : Int) ≤ 281474976710656 := by
    rw [y2]
    have h : ((ei.bytes * c : Nat) : Int) ≤ 281474976710656 := by omega
    rwa [Int.natCast_mul] at h
  have hrun := run_make (P := P) w t e ie ei.zero (slice_of_ti ht hk) hie y3 kl kc (l : Int) (c : Int) (by omega) (by omega) hb' (by omega)
  rw [Int.toNat_natCast, Int.toNat_natCast, y1] at hrun
  refine ⟨.slice (some ⟨w.heap.size, 0, none⟩) l c, w.alloc (.cells (madeCells ei.zero.cells (c * ei.size)) e), .inl (by simp only [execOp, ho, hl', hc', Sem.run_bind, hrun, Result.andThen_ok, Sem.run_pure]), ?_⟩
  rw [hdst]
  have hcm : c ≤ maxLen := by unfold maxLen; omega
  have hrr : ∀ st : Nat → Prop, RR (w.alloc (.cells (madeCells ei.zero.cells (c * ei.size)) e)) st ei.size w.heap.size 0 (List.replicate c (ei.zero.cells.toList.map .sc)) := by
    intro st
    refine RR_zero (by rw [Array.length_toList]; exact hzs) (fun v hv => List.all_eq_true.1 hone v hv) (fun j hj => ?_)
    rw [Nat.zero_add, World.cell?_alloc_new, Array.getElem?_toList]
    have hmod : j % ei.size < ei.zero.cells.size := by rw [hzs]; exact Nat.mod_lt _ h0
    simp only [madeCells, hzs, Array.getElem?_map, Array.getElem?_range, hj, if_true, Option.map_some, Array.getElem?_eq_getElem hmod]
    rw [getElem!_pos ei.zero.cells (j % ei.size) hmod]
  have hsz : (madeCells ei.zero.cells (c * ei.size)).size = c * ei.size := size_madeCells _ _
  have hnb := h.newBlock (ids := [d]) (o := d) (x := .row ei.size (List.replicate c (ei.zero.cells.toList.map .sc))) (cur := madeCells ei.zero.cells (c * ei.size)) (e := e) (by simp) hh (by simp) (fun st hst => by
    simp only [RO, updρ_same]
    exact ⟨_, e, c, heap_alloc_new w _, ⟨hsz, madeCells_one (fun v hv => List.all_eq_true.1 hone v hv)⟩, hcm, by simp, hrr st⟩)
  refine ⟨_, hnb.put (some d) ?_⟩
  simp only [R, updρ_same]
  exact .inr ⟨w.heap.size, c, _, rfl, ⟨_, e, heap_alloc_new w _, hsz⟩, by omega, hcm, rfl, fun _ => by simp⟩
end

/-! States that say less. -/
def Imp (σ σ' : St) : Prop := ∀ w0 p a w, Rel w0 p σ a w → Rel w0 p σ' a w
theorem Imp.refl (σ : St) : Imp σ σ := fun _ _ _ _ h => h
theorem Imp.trans {σ σ' σ'' : St} (h : Imp σ σ') (h' : Imp σ' σ'') : Imp σ σ'' := fun _ _ _ _ hr => h' _ _ _ _ (h _ _ _ _ hr)
theorem Tri.imp {P : Program} {Q : Exit → St → Prop} {σ σ' : St} {c : Code} (h : Imp σ σ') (hn : Tri P c Q σ') : Tri P c Q σ := fun w0 p a w hr => hn w0 p a w (h w0 p a w hr)
theorem TriL.imp {P : Program} {all : Array Oper} {Q : Exit → St → Prop} {σ σ' : St} {l : List Oper} (h : Imp σ σ') (hn : TriL P all Q l σ') : TriL P all Q l σ := fun w0 p a w hr => hn w0 p a w (h w0 p a w hr)

/-- Only the slots that are kept are known still. -/
def maskL : List Bool → List D → List D
  | [], ds => ds
  | _, [] => []
  | b :: bs, d :: ds => (if b then d else .any) :: maskL bs ds
theorem RL_mask {w : World} {st : Nat → Prop} {ρ : Nat → Option (Option Nat)} : ∀ {bs : List Bool} {ds : List D} {vs : List Value}, RL w st ρ ds vs → RL w st ρ (maskL bs ds) vs
  | [], _, _, h => by simpa [maskL] using h
  | _ :: _, [], _, h => by simpa [maskL] using h
  | b :: bs, d :: ds, _, h => by
    simp only [RL] at h
    obtain ⟨v, vs', rfl, h1, h2⟩ := h
    simp only [maskL, RL]
    refine ⟨v, vs', rfl, ?_, RL_mask h2⟩
    cases b
    · simp [R]
    · exact h1
theorem Imp.mask (σ : St) (bs : List Bool) : Imp σ { σ with slots := maskL bs σ.slots } := by
  rintro w0 p a w ⟨ρ, h⟩
  exact ⟨ρ, h.open_, h.defers, RL_mask h.slots, h.objs, h.inj, h.fresh, h.below, h.pin⟩
/-- A nil slice as an empty row of one's own. -/
theorem Imp.virt (σ : St) (t d k : Nat) (ht : σ.slots[t]? = some (.sc (.slice none 0 0))) (hh : hfree σ.heap d = true) : Imp σ (St.put { σ.kills [d] with heap := hset (σ.kills [d]).heap d (.row k []) } (some t) (.slo d k 0 0)) := by
  rintro w0 p a w ⟨ρ, h⟩
  obtain ⟨v, h1, h2⟩ := RL_get h.slots ht
  simp only [R] at h2
  subst h2
  have hv := h.newVirt (ids := [d]) (o := d) (k := k) (by simp) hh
  have hput := hv.put (some t) (d := .slo d k 0 0) (v := .slice none 0 0) (by simp only [R, updρ_same]; exact .inl ⟨trivial, trivial, trivial, none, rfl⟩)
  have : a.put (some t) (.slice none 0 0) = a := by
    simp only [Act.put]
    congr 1
    rw [Array.getElem?_toList] at h1
    apply Array.toList_inj.1
    rw [Array.toList_setIfInBounds]
    apply List.ext_getElem?
    intro j
    by_cases e : j = t
    · subst e
      rw [← Array.getElem?_toList] at h1
      rw [List.getElem?_set_self (List.getElem?_eq_some_iff.1 h1).1, h1]
    · rw [List.getElem?_set_ne (Ne.symm e)]
  rw [this] at hput
  exact ⟨_, hput⟩
/-- An object is given up. -/
theorem Imp.kill (σ : St) (o : Nat) : Imp σ (σ.kill o) := by
  rintro w0 p a w ⟨ρ, h⟩
  exact ⟨ρ, h.kill o (fun _ _ => rfl) (fun _ => rfl)⟩

mutual
/-- A row by value from now on. -/
def frzD (o k : Nat) (rows : List (List D)) : D → D
  | .ref o' off => if o' = o then .any else .ref o' off
  | .elt o' k' i off => if o' = o then .any else .elt o' k' i off
  | .slo o' k' off len => if o' = o then (if k' = k ∧ off + len ≤ rows.length then .sl k ((rows.drop off).take len) else .any) else .slo o' k' off len
  | .agg cs => .agg (frzL o k rows cs)
  | .tup cs => .tup (frzL o k rows cs)
  | .fn f cs => .fn f (frzL o k rows cs)
  | .any => .any
  | .sc v => .sc v
  | .sl k rows => .sl k rows
  | .ro cs => .ro cs
def frzL (o k : Nat) (rows : List (List D)) : List D → List D
  | [] => []
  | d :: ds => frzD o k rows d :: frzL o k rows ds
end
def Obj.frz (o k : Nat) (rows : List (List D)) : Obj → Obj
  | .box cs => .box (frzL o k rows cs)
  | x => x
def hfrz (o k : Nat) (rows : List (List D)) : List (Nat × Obj) → List (Nat × Obj)
  | [] => []
  | (q, x) :: h => (q, x.frz o k rows) :: hfrz o k rows h
def St.frz (σ : St) (o k : Nat) (rows : List (List D)) : St := { slots := frzL o k rows σ.slots, heap := hset (hfrz o k rows σ.heap) o .dead }
theorem hget_hfrz {o k : Nat} {rows : List (List D)} : ∀ {h : List (Nat × Obj)} {o' : Nat}, hget (hfrz o k rows h) o' = (hget h o').frz o k rows
  | [], _ => by simp [hfrz, hget, Obj.frz]
  | (q, x) :: h, o' => by
    by_cases e : q = o'
    · simp [hfrz, hget, e]
    · simp [hfrz, hget, e, hget_hfrz]
theorem hhas_hfrz {o k : Nat} {rows : List (List D)} : ∀ {h : List (Nat × Obj)} {o' : Nat}, hhas (hfrz o k rows h) o' = hhas h o'
  | [], _ => by simp [hfrz, hhas]
  | (q, x) :: h, o' => by simp [hfrz, hhas, hhas_hfrz]
section
variable {w : World} {st : Nat → Prop} {ρ : Nat → Option (Option Nat)} {o k : Nat} {rows : List (List D)}
mutual
theorem R.frz (hv : ρ o = some none → rows = []) (hr : ∀ g, ρ o = some (some g) → st g ∧ RR w st k g 0 rows) : ∀ {d : D} {v : Value}, R w st ρ d v → R w st ρ (frzD o k rows d) v
  | .any, _, _ => by simp [frzD, R]
  | .sc _, _, hd => by simpa [frzD, R] using hd
  | .sl _ _, _, hd => by simpa [frzD, R] using hd
  | .ro _, _, hd => by simpa [frzD, R] using hd
  | .agg _, _, hd | .tup _, _, hd | .fn _ _, _, hd => by
    simp only [frzD, R] at hd ⊢
    obtain ⟨vs, h1, h2⟩ := hd
    exact ⟨vs, h1, RL.frz hv hr h2⟩
  | .ref o' _, _, hd => by
    by_cases e : o' = o
    · simp [frzD, e, R]
    · simp only [frzD, if_neg e]; exact hd
  | .elt o' _ _ _, _, hd => by
    by_cases e : o' = o
    · simp [frzD, e, R]
    · simp only [frzD, if_neg e]; exact hd
  | .slo o' k' off len, v, hd => by
    by_cases e : o' = o
    · subst e
      simp only [frzD, if_true]
      split
      · rename_i hc
        obtain ⟨rfl, hle⟩ := hc
        have hl : ((rows.drop off).take len).length = len := by rw [List.length_take, List.length_drop]; omega
        simp only [R] at hd ⊢
        rcases hd with ⟨e1, rfl, rfl, A, e4⟩ | ⟨g, cap, A, e1, e2, e3, e4, e5, e6⟩
        · exact ⟨A, 0, by rw [hl]; exact e4, by rw [hl]; omega, by unfold maxLen; omega, .inl (by simp)⟩
        · refine ⟨A, cap - off, by rw [hl]; exact e5, by rw [hl]; omega, by omega, ?_⟩
          by_cases hz : len = 0
          · left; simp [hz]
          · right
            have := RR_take len (RR_drop off (hr g e1).2)
            rw [Nat.zero_add] at this
            exact ⟨g, off * k', e6 (by omega), (hr g e1).1, this⟩
      · simp [R]
    · simp only [frzD, if_neg e]; exact hd
theorem RL.frz (hv : ρ o = some none → rows = []) (hr : ∀ g, ρ o = some (some g) → st g ∧ RR w st k g 0 rows) : ∀ {ds : List D} {vs : List Value}, RL w st ρ ds vs → RL w st ρ (frzL o k rows ds) vs
  | [], _, hd => by simpa [frzL, RL] using hd
  | _ :: _, _, hd => by
    simp only [frzL, RL] at hd ⊢
    obtain ⟨v, vs', h1, h2, h3⟩ := hd
    exact ⟨v, vs', h1, R.frz hv hr h2, RL.frz hv hr h3⟩
end
end
theorem Imp.freeze (σ : St) (o k : Nat) (rows : List (List D)) (hg : hget σ.heap o = .row k rows) : Imp σ (σ.frz o k rows) := by
  rintro w0 p a w ⟨ρ, h⟩
  have hh : hhas σ.heap o = true := hhas_of_hget (by rw [hg]; simp)
  have hget' : ∀ o', hget (σ.frz o k rows).heap o' = if o' = o then .dead else (hget σ.heap o').frz o k rows := by
    intro o'
    unfold St.frz
    by_cases e : o' = o
    · subst e; rw [if_pos rfl]; exact hget_hset_same (by rw [hhas_hfrz]; exact hh)
    · rw [if_neg e, hget_hset_other e, hget_hfrz]
  have hfd : ∀ x : Obj, x.frz o k rows ≠ .dead ↔ x ≠ .dead := by intro x; cases x <;> simp [Obj.frz]
  have live : ∀ o', hget (σ.frz o k rows).heap o' ≠ .dead → o' ≠ o ∧ hget σ.heap o' ≠ .dead := by
    intro o' ho'
    rw [hget'] at ho'
    by_cases e : o' = o
    · simp [e] at ho'
    · rw [if_neg e, hfd] at ho'; exact ⟨e, ho'⟩
  have hst : ∀ g, stab p σ.heap ρ w g → stab p (σ.frz o k rows).heap ρ w g := fun g hs => ⟨hs.1, hs.2.1, fun o' ho' => hs.2.2 o' (live o' ho').2⟩
  have hro := h.objs o
  rw [hg] at hro
  have hv : ρ o = some none → rows = [] := by
    intro e
    simp only [RO, e] at hro; exact hro
  have hr : ∀ g, ρ o = some (some g) → stab p (σ.frz o k rows).heap ρ w g ∧ RR w (stab p (σ.frz o k rows).heap ρ w) k g 0 rows := by
    intro g e
    have hlt := (h.objs o).lt (by rw [hg]; simp) e
    simp only [RO, e] at hro
    obtain ⟨cur, e', cap, r1, r2, r3, r4, r5⟩ := hro
    refine ⟨⟨h.open_ g (h.fresh o g (by rw [hg]; simp) e), hlt, fun o' ho' e2 => ?_⟩, RR.mono (fun _ _ _ => rfl) (fun _ _ hs => hs) hst (fun _ => rfl) r5⟩
    obtain ⟨n1, l1⟩ := live o' ho'
    exact n1 (h.inj o' o g l1 (by rw [hg]; simp) e2 e)
  refine ⟨ρ, h.open_, h.defers, RL.frz hv hr (RL.mono (fun _ _ _ => rfl) (fun _ _ hs => hs) hst h.slots), fun o' => ?_, fun o1 o2 g h1 h2 => h.inj o1 o2 g (live o1 h1).2 (live o2 h2).2, fun o1 g h1 => h.fresh o1 g (live o1 h1).2, h.below, h.pin⟩
  rw [hget']
  by_cases e : o' = o
  · simp [e, RO]
  · rw [if_neg e]
    have h1 := RO.mono (fun _ _ _ => rfl) (fun _ _ hs => hs) hst (fun _ _ => rfl) (h.objs o')
    cases hx : hget σ.heap o' with
    | dead => simp [RO, Obj.frz]
    | row k' rows' => rw [hx] at h1; exact h1
    | box cs =>
      rw [hx] at h1
      simp only [RO, Obj.frz] at h1 ⊢
      obtain ⟨g, cur, e', r1, r2, r3⟩ := h1
      exact ⟨g, cur, e', r1, r2, RL.frz hv hr r3⟩
    | ext e' => rw [hx] at h1; exact h1
end Go.Avm
