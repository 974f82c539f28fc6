/- The abstract machine, part C: what an operation that only reads yields, and that it does. -/
import Derived.Test.YtpopgpjojbngcaaAvmB
namespace Go.Avm
set_option linter.unusedVariables false
set_option linter.unusedSimpArgs false
open Go.RowKit

/-- In every frame and world that read as σ, the operation yields a value that reads as d, and nothing else. -/
def Sound (P : Program) (σ : St) (op : Op) (d : D) : Prop :=
  ∀ (w0 : World) (p : Pm) (a : Act) (w : World) (ρ : Nat → Option (Option Nat)) (o : Oper), o.op = op → RelAt w0 p σ a w ρ →
    ∃ v, (execOp a.eval o).run P w = .ok (.value v) w ∧ R w (stab p σ.heap ρ w) ρ d v

section
variable {P : Program} {σ : St}

theorem Sound.move (x : Operand) : Sound P σ (.move x) (evl σ x) := by
  intro w0 p a w ρ o ho h
  exact ⟨a.eval x, by simp [execOp, ho], h.evl x⟩
theorem Sound.assign (x : Operand) : Sound P σ (.assign x) (evl σ x) := by
  intro w0 p a w ρ o ho h
  exact ⟨a.eval x, by simp [execOp, ho], h.evl x⟩
theorem Sound.pick (c x y : Operand) (b : Bool) (hc : evl σ c = .sc (.bool b)) : Sound P σ (.pick c x y) (if b then evl σ x else evl σ y) := by
  intro w0 p a w ρ o ho h
  have h1 := h.evl c
  rw [hc] at h1
  simp only [R] at h1
  refine ⟨if b then a.eval x else a.eval y, by simp [execOp, ho, h1, asBool], ?_⟩
  cases b
  · exact h.evl y
  · exact h.evl x
theorem Sound.extract (x : Operand) (i : Nat) (ds : List D) (d : D) (hx : evl σ x = .tup ds) (hd : ds[i]? = some d) : Sound P σ (.extract x i) d := by
  intro w0 p a w ρ o ho h
  have h1 := h.evl x
  rw [hx] at h1
  simp only [R] at h1
  obtain ⟨vs, h2, h3⟩ := h1
  obtain ⟨v, h4, h5⟩ := RL_get h3 hd
  have h6 : vs[i]? = some v := by rw [← Array.getElem?_toList]; exact h4
  exact ⟨v, by simp [execOp, ho, h2, Instr.extract, h6], h5⟩
theorem Sound.binOp (op : BinOp) (t ty : TypeId) (x y : Operand) (u v z : Value) (hx : conc (evl σ x) = some u) (hy : conc (evl σ y) = some v)
    (hz : pureRun P (do eqGuard op t x y u v; binOp op t u v) = some z) : Sound P σ (.binOp op t x y ty) (.sc z) := by
  intro w0 p a w ρ o ho h
  have h1 := conc_spec hx (h.evl x)
  have h2 := conc_spec hy (h.evl y)
  have h3 := pureRun_run w hz
  refine ⟨z, ?_, by simp [R]⟩
  simp only [execOp, ho, h1, h2, Sem.run_bind, Sem.run_pure] at h3 ⊢
  rw [h3]; rfl
theorem Sound.unOp (op : UnOp) (t : TypeId) (x : Operand) (u z : Value) (hx : conc (evl σ x) = some u) (hz : pureRun P (Op.unary op u) = some z) : Sound P σ (.unOp op t x) (.sc z) := by
  intro w0 p a w ρ o ho h
  have h1 := conc_spec hx (h.evl x)
  have h3 := pureRun_run w hz
  refine ⟨z, ?_, by simp [R]⟩
  simp only [execOp, ho, h1, Sem.run_bind, Sem.run_pure]
  rw [h3]; rfl
theorem Sound.convert (s t : TypeId) (x : Operand) (u z : Value) (hx : conc (evl σ x) = some u) (hz : pureRun P (Go.convert s t u) = some z) : Sound P σ (.convert s t x) (.sc z) := by
  intro w0 p a w ρ o ho h
  have h1 := conc_spec hx (h.evl x)
  have h3 := pureRun_run w hz
  refine ⟨z, ?_, by simp [R]⟩
  simp only [execOp, ho, h1, Sem.run_bind, Sem.run_pure]
  rw [h3]; rfl
theorem Sound.index (t : TypeId) (x i : Operand) (u v z : Value) (hx : conc (evl σ x) = some u) (hy : conc (evl σ i) = some v) (hz : pureRun P (Instr.index t u v) = some z) :
    Sound P σ (.index t x i) (.sc z) := by
  intro w0 p a w ρ o ho h
  have h1 := conc_spec hx (h.evl x)
  have h2 := conc_spec hy (h.evl i)
  have h3 := pureRun_run w hz
  refine ⟨z, ?_, by simp [R]⟩
  simp only [execOp, ho, h1, h2, Sem.run_bind, Sem.run_pure]
  rw [h3]; rfl

def TK.fields : TK → List (Nat × TypeId)
  | .struct fs => fs
  | _ => []
theorem tk_struct {d : TypeDesc} {fs : List (Nat × TypeId)} (h : tkOf d = .struct fs) : ∃ F, d = .struct F ∧ F.toList.map (fun f => (f.offset, f.type)) = fs := by
  cases d <;> simp [tkOf] at h
  exact ⟨_, rfl, h⟩
theorem tk_slice {d : TypeDesc} {e : TypeId} (h : tkOf d = .slice e) : d = .slice e := by
  cases d <;> simp [tkOf] at h
  subst h; rfl
theorem field_at {F : Array Field} {fs : List (Nat × TypeId)} {i off : Nat} {ft : TypeId} (h : F.toList.map (fun f => (f.offset, f.type)) = fs) (hi : fs[i]? = some (off, ft)) :
    ∃ f, F[i]? = some f ∧ f.offset = off ∧ f.type = ft := by
  subst h
  rw [List.getElem?_map, Option.map_eq_some_iff] at hi
  obtain ⟨f, h1, h2⟩ := hi
  simp only [Prod.mk.injEq] at h2
  exact ⟨f, by rw [← Array.getElem?_toList]; exact h1, h2.1, h2.2⟩

/-- A value's cells made one: a struct or array, or the cell itself. -/
def mkD (agg : Bool) (cs : List D) : Option D := if agg then some (.agg cs) else match cs with | [c] => some c | _ => none

theorem Sound.field (t : TypeId) (x : Operand) (i : Nat) (ti fi : TI) (cs : List D) (off : Nat) (ft : TypeId) (d : D) (ht : tiGet P t = some ti) (hi : ti.kind.fields[i]? = some (off, ft)) (hf : tiGet P ft = some fi)
    (hx : evl σ x = .agg cs) (hl : off + fi.size ≤ cs.length) (hd : mkD fi.kind.isAgg ((cs.drop off).take fi.size) = some d) : Sound P σ (.field t x i) d := by
  intro w0 p a w ρ o ho h
  have h1 := h.evl x
  rw [hx] at h1
  simp only [R] at h1
  obtain ⟨vs, h2, h3⟩ := h1
  obtain ⟨⟨dt, hu, hk⟩, _⟩ := run_ti ht w
  cases hkk : ti.kind with
  | struct fs =>
    rw [hkk] at hk hi
    obtain ⟨F, rfl, hF⟩ := tk_struct hk
    obtain ⟨f, hf1, hf2, hf3⟩ := field_at hF hi
    obtain ⟨_, hsz, _, _, hag⟩ := run_ti hf w
    have hlen := RL_length h3
    have hpart := RL_take fi.size (RL_drop off h3)
    unfold mkD at hd
    by_cases hA : fi.kind.isAgg = true
    · rw [if_pos hA] at hd
      simp only [Option.some.injEq] at hd
      subst hd
      refine ⟨.agg (vs.extract off (off + fi.size)), ?_, ?_⟩
      · simp [execOp, ho, Instr.field, hu, hf1, h2, asAgg, part, hf3, hag, hA, hsz, hf2]
      · simp only [R]
        refine ⟨_, rfl, ?_⟩
        have e : (vs.extract off (off + fi.size)).toList = (vs.toList.drop off).take fi.size := by
          rw [Array.toList_extract, List.extract_eq_take_drop]; congr 1; omega
        rw [e]; exact hpart
    · rw [if_neg hA] at hd
      have hA' : fi.kind.isAgg = false := by simpa using hA
      match hcs : (cs.drop off).take fi.size, hd with
      | [c], hd =>
        simp only [Option.some.injEq] at hd
        subst hd
        rw [hcs] at hpart
        simp only [RL] at hpart
        obtain ⟨v, vs', e1, e2, e3⟩ := hpart
        have hv : vs[off]? = some v := by
          have : ((vs.toList.drop off).take fi.size)[0]? = some v := by rw [e1]; rfl
          have hpos : 0 < fi.size := by
            rcases Nat.eq_zero_or_pos fi.size with h0 | h0
            · rw [h0] at hcs; simp at hcs
            · exact h0
          rw [List.getElem?_take_of_lt hpos, List.getElem?_drop] at this
          rw [← Array.getElem?_toList]; simpa using this
        exact ⟨v, by simp [execOp, ho, Instr.field, hu, hf1, h2, asAgg, part, hf3, hag, hA', hf2, hv], e2⟩
  | _ => rw [hkk] at hi; simp [TK.fields] at hi

/-- The cells from an address on. -/
def addrCells (σ : St) : D → Option (List D)
  | .ro cs => some cs
  | .ref o off => match hget σ.heap o with
    | .box cs => some (cs.drop off)
    | _ => none
  | .elt o k i off => match hget σ.heap o with
    | .row k' rows => if k = k' then (rows[i]?).map (·.drop off) else none
    | _ => none
  | _ => none

theorem RC_list {w : World} {st : Nat → Prop} {ρ : Nat → Option (Option Nat)} {g : Nat} : ∀ {cs : List D} {off : Nat}, RC w st g off cs →
    ∃ vs, RL w st ρ cs vs ∧ ∀ j v, vs[j]? = some v → w.cell? ⟨g, off + j, none⟩ = some v
  | [], _, _ => ⟨[], by simp [RL], by simp⟩
  | c :: cs, off, h => by
    simp only [RC] at h
    obtain ⟨⟨v, h1, _, h2⟩, h3⟩ := h
    obtain ⟨vs, h4, h5⟩ := RC_list (ρ := ρ) h3
    refine ⟨v :: vs, by simp only [RL]; exact ⟨v, vs, rfl, R.ofNone h2, h4⟩, ?_⟩
    intro j u hj
    cases j with
    | zero => simp only [List.getElem?_cons_zero, Option.some.injEq] at hj; subst hj; exact h1
    | succ j => simp only [List.getElem?_cons_succ] at hj; have := h5 j u hj; rw [show off + (j + 1) = off + 1 + j by omega]; exact this
theorem RC_drop {w : World} {st : Nat → Prop} {g : Nat} : ∀ {cs : List D} {off : Nat} (n : Nat), RC w st g off cs → RC w st g (off + n) (cs.drop n)
  | [], _, n, _ => by simp [RC]
  | c :: cs, off, 0, h => by simpa using h
  | c :: cs, off, n + 1, h => by
    simp only [RC] at h
    have := RC_drop n h.2
    rw [show off + (n + 1) = off + 1 + n by omega]
    simpa using this
theorem RR_get {w : World} {st : Nat → Prop} {k g : Nat} : ∀ {rows : List (List D)} {off i : Nat} {r : List D}, RR w st k g off rows → rows[i]? = some r → r.length = k ∧ RC w st g (off + i * k) r
  | [], _, _, _, _, h => by simp at h
  | x :: rows, off, 0, r, hr, h => by
    simp only [RR] at hr
    simp only [List.getElem?_cons_zero, Option.some.injEq] at h
    subst h
    simpa using ⟨hr.1, hr.2.1⟩
  | x :: rows, off, i + 1, r, hr, h => by
    simp only [RR] at hr
    simp only [List.getElem?_cons_succ] at h
    have := RR_get hr.2.2 h
    rw [show off + (i + 1) * k = off + k + i * k by rw [Nat.add_mul]; omega]
    exact this
theorem RR_drop {w : World} {st : Nat → Prop} {k g : Nat} : ∀ {rows : List (List D)} {off : Nat} (n : Nat), RR w st k g off rows → RR w st k g (off + n * k) (rows.drop n)
  | [], _, n, _ => by simp [RR]
  | x :: rows, off, 0, h => by simpa using h
  | x :: rows, off, n + 1, h => by
    simp only [RR] at h
    have := RR_drop n h.2.2
    rw [show off + (n + 1) * k = off + k + n * k by rw [Nat.add_mul]; omega]
    simpa using this
theorem RR_take {w : World} {st : Nat → Prop} {k g : Nat} : ∀ {rows : List (List D)} {off : Nat} (n : Nat), RR w st k g off rows → RR w st k g off (rows.take n)
  | [], _, n, _ => by simp [RR]
  | x :: rows, off, 0, h => by simp [RR]
  | x :: rows, off, n + 1, h => by
    simp only [RR] at h
    simp only [List.take_succ_cons, RR]
    exact ⟨h.1, h.2.1, RR_take n h.2.2⟩

theorem addr_spec {w0 : World} {p : Pm} {a : Act} {w : World} {ρ : Nat → Option (Option Nat)} (h : RelAt w0 p σ a w ρ) {d : D} {x : Value} {cs : List D} (hd : addrCells σ d = some cs) (hr : R w (stab p σ.heap ρ w) ρ d x) :
    ∃ g off vs, x = .pointer (some ⟨g, off, none⟩) ∧ RL w (stab p σ.heap ρ w) ρ cs vs ∧ ∀ j v, vs[j]? = some v → w.cell? ⟨g, off + j, none⟩ = some v := by
  cases d with
  | ro cs' =>
    simp only [addrCells, Option.some.injEq] at hd
    subst hd
    simp only [R] at hr
    obtain ⟨g, off, h1, _, h3⟩ := hr
    obtain ⟨vs, h4, h5⟩ := RC_list (ρ := ρ) h3
    exact ⟨g, off, vs, h1, h4, h5⟩
  | ref o off =>
    simp only [addrCells] at hd
    split at hd
    · rename_i cs' hg
      simp only [Option.some.injEq] at hd
      subst hd
      have hb := h.objs o
      rw [hg] at hb
      simp only [RO] at hb
      obtain ⟨g, cur, e, h1, h2, h3⟩ := hb
      simp only [R] at hr
      obtain ⟨g', h4, h5⟩ := hr
      rw [h1] at h4
      simp only [Option.some.injEq] at h4
      subst h4
      refine ⟨g, off, cur.toList.drop off, h5, RL_drop off h3, fun j v hj => ?_⟩
      rw [cell_of_row w g (off + j) cur e (0, 0) h2, ← Array.getElem?_toList]
      rw [List.getElem?_drop] at hj
      exact hj
    · cases hd
  | elt o k i off =>
    simp only [addrCells] at hd
    split at hd
    · rename_i k' rows hg
      split at hd
      · rename_i hk
        subst hk
        rw [Option.map_eq_some_iff] at hd
        obtain ⟨r, h1, h2⟩ := hd
        subst h2
        have hb := h.objs o
        rw [hg] at hb
        simp only [R] at hr
        obtain ⟨g', h4, h5⟩ := hr
        simp only [RO, h4] at hb
        obtain ⟨cur, e, cap, h6, _, _, _, h7⟩ := hb
        have h8 := RR_get h7 h1
        obtain ⟨vs, h9, h10⟩ := RC_list (ρ := ρ) (RC_drop off h8.2)
        refine ⟨g', i * k + off, vs, h5, h9, fun j v hj => ?_⟩
        have := h10 j v hj
        simpa [Nat.add_assoc] using this
      · cases hd
    · cases hd
  | any | sc | agg | sl | tup | slo | fn => simp [addrCells] at hd

theorem Sound.load (t : TypeId) (x : Operand) (ti : TI) (cs : List D) (d : D) (ht : tiGet P t = some ti) (hx : addrCells σ (evl σ x) = some cs) (hl : ti.size ≤ cs.length)
    (hd : mkD ti.kind.isAgg (cs.take ti.size) = some d) : Sound P σ (.load t x) d := by
  intro w0 p a w ρ o ho h
  obtain ⟨g, off, vs, h1, h2, h3⟩ := addr_spec h hx (h.evl x)
  obtain ⟨_, hsz, _, _, hag⟩ := run_ti ht w
  have hlen := RL_length h2
  have htake := RL_take ti.size h2
  unfold mkD at hd
  by_cases hA : ti.kind.isAgg = true
  · rw [if_pos hA] at hd
    simp only [Option.some.injEq] at hd
    subst hd
    have hlt : (vs.take ti.size).length = ti.size := by rw [List.length_take]; omega
    have hrun := run_loadCells_list (P := P) w ⟨g, off, none⟩ (vs.take ti.size) (fun j v hj => by
      rw [Addr.add_lit]
      rw [List.getElem?_take] at hj
      split at hj
      · exact h3 j v hj
      · cases hj)
    rw [hlt] at hrun
    refine ⟨.agg (vs.take ti.size).toArray, ?_, ?_⟩
    · simp [execOp, ho, Instr.loadAt, h1, Instr.sureAddr, loadVar, hag, hA, hsz, hrun]
    · simp only [R]
      exact ⟨_, rfl, by simpa using htake⟩
  · rw [if_neg hA] at hd
    have hA' : ti.kind.isAgg = false := by simpa using hA
    match hcs : cs.take ti.size, hd with
    | [c], hd =>
      simp only [Option.some.injEq] at hd
      subst hd
      rw [hcs] at htake
      simp only [RL] at htake
      obtain ⟨v, vs', e1, e2, e3⟩ := htake
      have hpos : 0 < ti.size := by
        rcases Nat.eq_zero_or_pos ti.size with h0 | h0
        · rw [h0] at hcs; simp at hcs
        · exact h0
      have hv : vs[0]? = some v := by
        have : (vs.take ti.size)[0]? = some v := by rw [e1]; rfl
        rwa [List.getElem?_take_of_lt hpos] at this
      have hc := h3 0 v hv
      simp only [Nat.add_zero] at hc
      exact ⟨v, by simp [execOp, ho, Instr.loadAt, h1, Instr.sureAddr, loadVar, hag, hA', hc], e2⟩

/-- A field's address. -/
def addrPlus (n : Nat) : D → Option D
  | .ro cs => if n ≤ cs.length then some (.ro (cs.drop n)) else none
  | .ref o off => some (.ref o (off + n))
  | .elt o k i off => some (.elt o k i (off + n))
  | _ => none
theorem Sound.fieldAddr (t : TypeId) (x : Operand) (i : Nat) (ti fi : TI) (off : Nat) (ft : TypeId) (d : D) (ht : tiGet P t = some ti) (hi : ti.kind.fields[i]? = some (off, ft)) (hf : tiGet P ft = some fi)
    (hn : fi.size ≠ 0) (hd : addrPlus off (evl σ x) = some d) : Sound P σ (.fieldAddr t x i) d := by
  intro w0 p a w ρ o ho h
  have h1 := h.evl x
  obtain ⟨⟨dt, hu, hk⟩, _⟩ := run_ti ht w
  cases hkk : ti.kind with
  | struct fs =>
    rw [hkk] at hk hi
    obtain ⟨F, rfl, hF⟩ := tk_struct hk
    obtain ⟨f, hf1, hf2, hf3⟩ := field_at hF hi
    obtain ⟨_, hsz, _, _, _⟩ := run_ti hf w
    have key : ∀ g q, a.eval x = .pointer (some ⟨g, q, none⟩) → (execOp a.eval o).run P w = .ok (.value (.pointer (some ⟨g, q + off, none⟩))) w := by
      intro g q hp
      simp [execOp, ho, Instr.fieldAt, hu, hf1, hp, Instr.sureAddr, fieldPlace, hf3, hsz, hn, hf2, Addr.add_lit]
    cases hx : evl σ x with
    | ro cs =>
      rw [hx] at hd h1
      simp only [addrPlus] at hd
      split at hd
      · simp only [Option.some.injEq] at hd
        subst hd
        simp only [R] at h1 ⊢
        obtain ⟨g, q, e1, e2, e3⟩ := h1
        exact ⟨_, key g q e1, g, q + off, rfl, e2, RC_drop off e3⟩
      · cases hd
    | ref o' q =>
      rw [hx] at hd h1
      simp only [addrPlus, Option.some.injEq] at hd
      subst hd
      simp only [R] at h1 ⊢
      obtain ⟨g, e1, e2⟩ := h1
      exact ⟨_, key g q e2, g, e1, rfl⟩
    | elt o' k j q =>
      rw [hx] at hd h1
      simp only [addrPlus, Option.some.injEq] at hd
      subst hd
      simp only [R] at h1 ⊢
      obtain ⟨g, e1, e2⟩ := h1
      exact ⟨_, key g _ e2, g, e1, by rw [Nat.add_assoc]⟩
    | any | sc | agg | sl | tup | slo | fn => rw [hx] at hd; simp [addrPlus] at hd
  | _ => rw [hkk] at hi; simp [TK.fields] at hi

def TK.elem? : TK → Option TypeId
  | .slice e => some e
  | _ => none
/-- An element's address in a slice. -/
def eltAddr (k : Nat) (n : Int) : D → Option D
  | .sl k' rows => if k' = k ∧ 0 ≤ n then (rows[n.toNat]?).map .ro else none
  | .slo o k' off len => if k' = k ∧ 0 ≤ n ∧ n < len then some (.elt o k (off + n.toNat) 0) else none
  | _ => none
theorem Sound.indexAddr (t : TypeId) (x i : Operand) (ti ei : TI) (e : TypeId) (kd : IntKind) (n : Int) (d : D) (ht : tiGet P t = some ti) (hk : ti.kind.elem? = some e) (he : tiGet P e = some ei)
    (hi : evl σ i = .sc (.int kd n)) (hd : eltAddr ei.size n (evl σ x) = some d) : Sound P σ (.indexAddr t x i) d := by
  intro w0 p a w ρ o ho h
  have h1 := h.evl x
  have h2 := h.evl i
  rw [hi] at h2
  simp only [R] at h2
  obtain ⟨⟨dt, hu, hkd⟩, _⟩ := run_ti ht w
  obtain ⟨_, hsz, _⟩ := run_ti he w
  cases hkk : ti.kind with
  | slice e' =>
    rw [hkk] at hk hkd
    simp only [TK.elem?, Option.some.injEq] at hk
    subst hk
    obtain rfl := tk_slice hkd
    have key : ∀ g q len c, a.eval x = .slice (some ⟨g, q, none⟩) len c → 0 ≤ n → n < len → (execOp a.eval o).run P w = .ok (.value (.pointer (some ⟨g, q + n.toNat * ei.size, none⟩))) w := by
      intro g q len c hp hn0 hn1
      simp [execOp, ho, Instr.indexAt, hu, h2, asIntOf, hp, hn0, hn1, hsz, Addr.add_lit]
    cases hx : evl σ x with
    | sl k' rows =>
      rw [hx] at hd h1
      simp only [eltAddr] at hd
      split at hd
      · rename_i hc
        obtain ⟨rfl, hn0⟩ := hc
        rw [Option.map_eq_some_iff] at hd
        obtain ⟨r, hr1, hr2⟩ := hd
        subst hr2
        simp only [R] at h1
        obtain ⟨a', c, e1, e2, e3, e4⟩ := h1
        have hlt : n.toNat < rows.length := (List.getElem?_eq_some_iff.1 hr1).1
        rcases e4 with e4 | ⟨g, q, e5, e6, e7⟩
        · subst e4; simp at hlt
        · subst e5
          have := RR_get e7 hr1
          refine ⟨_, key g q rows.length c e1 hn0 (by omega), ?_⟩
          simp only [R]
          exact ⟨g, _, rfl, e6, this.2⟩
      · cases hd
    | slo o' k' off len =>
      rw [hx] at hd h1
      simp only [eltAddr] at hd
      split at hd
      · rename_i hc
        obtain ⟨rfl, hn0, hn1⟩ := hc
        simp only [Option.some.injEq] at hd
        subst hd
        simp only [R] at h1
        rcases h1 with ⟨_, _, hl, _⟩ | ⟨g, cap, A, e1, e2, e3, _, e4, e5⟩
        · omega
        · rw [e5 (by omega)] at e4
          refine ⟨_, key g _ len _ e4 hn0 hn1, ?_⟩
          simp only [R]
          exact ⟨g, e1, by simp only [Nat.add_mul, Nat.add_zero]⟩
      · cases hd
    | any | sc | agg | ro | ref | elt | tup | fn => rw [hx] at hd; simp [eltAddr] at hd
  | _ => rw [hkk] at hk; simp [TK.elem?] at hk
end
end Go.Avm
