/- The abstract machine, part V: nil tests; copy, clear and append into a row that has the room. -/
import Derived.Test.YtpopgpjojbngcaaAvmU
import Derived.WalkSpells
namespace Go.Avm
set_option linter.unusedVariables false
set_option linter.unusedSimpArgs false
open Go.RowKit

/-- A body's end is what some member of a family says. -/
def retX (P : Program) (fn : Func) (ids : List Nat) {τ : Type} (I : τ → Prop) (ret : τ → D) (outs : τ → List Obj) (e : Exit) (σ : St) : Prop := ∃ t, I t ∧ RetOK P fn ids (ret t) (outs t) e σ
theorem isRetX {P : Program} {fn : Func} {ids : List Nat} {τ : Type} {I : τ → Prop} {ret : τ → D} {outs : τ → List Obj} {e : Exit} {σ : St} (t : τ) (hI : I t) (h : RetOK P fn ids (ret t) (outs t) e σ) : retX P fn ids I ret outs e σ := ⟨t, hI, h⟩
theorem RelAt.heapEq {w0 : World} {p : Pm} {σ : St} {a : Act} {w : World} {ρ : Nat → Option (Option Nat)} (h : RelAt w0 p σ a w ρ) {h' : List (Nat × Obj)} (e : ∀ o, hget h' o = hget σ.heap o) : RelAt w0 p { σ with heap := h' } a w ρ := by
  have hst : ∀ g, stab p σ.heap ρ w g → stab p h' ρ w g := fun g hg => ⟨hg.1, hg.2.1, fun o ho => hg.2.2 o (by rw [← e]; exact ho)⟩
  refine ⟨h.open_, h.defers, RL.mono (fun _ _ _ => rfl) (fun _ _ hh => hh) hst h.slots, fun o => ?_, fun o o' g h1 h2 => ?_, fun o g h1 => ?_, h.below, h.pin⟩
  · show RO _ _ _ o (hget h' o)
    rw [e]; exact RO.mono (fun _ _ _ => rfl) (fun _ _ hh => hh) hst (fun _ _ => rfl) (h.objs o)
  · have h1' : hget h' o ≠ .dead := h1
    have h2' : hget h' o' ≠ .dead := h2
    rw [e] at h1' h2'
    exact h.inj o o' g h1' h2'
  · have h1' : hget h' o ≠ .dead := h1
    rw [e] at h1'
    exact h.fresh o g h1'
theorem flat_take {k : Nat} : ∀ {rows : List (List D)} (n : Nat), (∀ r ∈ rows, r.length = k) → (rows.take n).flatten = rows.flatten.take (n * k)
  | [], n, _ => by simp
  | r :: rs, 0, _ => by simp
  | r :: rs, n + 1, h => by
    have h1 : r.length = k := h r (by simp)
    rw [List.take_succ_cons, List.flatten_cons, List.flatten_cons, flat_take n (fun x hx => h x (by simp [hx])), Nat.add_mul, Nat.one_mul, List.take_append, h1, List.take_of_length_le (show r.length ≤ n * k + k by omega)]
    congr 2; omega
theorem flat_drop {k : Nat} : ∀ {rows : List (List D)} (n : Nat), (∀ r ∈ rows, r.length = k) → (rows.drop n).flatten = rows.flatten.drop (n * k)
  | [], n, _ => by simp
  | r :: rs, 0, _ => by simp
  | r :: rs, n + 1, h => by
    have h1 : r.length = k := h r (by simp)
    rw [List.drop_succ_cons, List.flatten_cons, flat_drop n (fun x hx => h x (by simp [hx])), Nat.add_mul, Nat.one_mul, List.drop_append, h1, List.drop_eq_nil_of_le (show r.length ≤ n * k + k by omega), List.nil_append]
    congr 1; omega
theorem flat_splice {k : Nat} {rows xs : List (List D)} (n : Nat) (h : ∀ r ∈ rows, r.length = k) (hx : xs.flatten.length = xs.length * k) : (splice rows n xs).flatten = splice rows.flatten (n * k) xs.flatten := by
  unfold splice
  rw [List.flatten_append, List.flatten_append, flat_take n h, flat_drop _ h, hx, Nat.add_mul]
section
variable {P : Program} {w0 : World} {p : Pm} {σ : St} {a : Act} {w : World} {ρ : Nat → Option (Option Nat)}
/-- Rows written into a row that is long enough. -/
theorem RelAt.writeRows (h : RelAt w0 p σ a w ρ) {o g k n : Nat} {rows xs : List (List D)} {cur : Array Value} {e : TypeId} {news : List Value} (hrow : hget σ.heap o = .row k rows) (hρ : ρ o = some (some g)) (hcur : w.heap[g]? = some (.cells cur e (0, 0)))
    (n1 : news.length = xs.length * k) (n2 : RL w (stab p σ.heap ρ w) (fun _ => none) xs.flatten news) (n3 : ∀ u ∈ news, u.oneCell' = true) (n4 : ∀ r ∈ xs, r.length = k) (hfit : n + xs.length ≤ rows.length) :
    n * k + news.length ≤ cur.size ∧ RelAt w0 p { σ with heap := hset σ.heap o (.row k (splice rows n xs)) } a (w.setRow g (splice cur.toList (n * k) news).toArray) ρ := by
  have hro := h.objs o
  rw [hrow] at hro
  simp only [RO, hρ] at hro
  obtain ⟨cur', e', cap, r1, r2, r3, r4, r5⟩ := hro
  rw [hcur] at r1
  simp only [Option.some.injEq, Obj.cells.injEq] at r1
  obtain ⟨rfl, rfl, _⟩ := r1
  have hle : n * k + news.length ≤ cur.size := by
    rw [n1, r2.size, ← Nat.add_mul]; exact Nat.mul_le_mul_right _ (by omega)
  refine ⟨hle, ?_⟩
  have hle' : n * k + news.length ≤ cur.toList.length := by rw [Array.length_toList]; exact hle
  have hsize : (splice cur.toList (n * k) news).toArray.size = cur.size := by rw [List.size_toArray, splice_length hle', Array.length_toList]
  refine h.upd (o := o) (g := g) (cur := cur) (cur' := (splice cur.toList (n * k) news).toArray) (e := e) (by rw [hrow]; simp) hρ hcur hsize (by simp) (fun st hst => ?_)
  have hc : ∀ b q, stab p σ.heap ρ w b → (w.setRow g (splice cur.toList (n * k) news).toArray).cell? ⟨b, q, none⟩ = w.cell? ⟨b, q, none⟩ := by
    intro b q hb
    refine World.cell?_of_block (w := w) (a := ⟨b, q, none⟩) (setRow_other w g b _ ?_)
    rintro rfl
    exact hb.2.2 o (by rw [hrow]; simp) hρ
  have hsh : ∀ b n', Sh w b n' → Sh (w.setRow g (splice cur.toList (n * k) news).toArray) b n' := by
    intro b n' hh
    by_cases e' : b = g
    · subst e'
      obtain ⟨c, e2, s1, s2⟩ := hh
      rw [hcur] at s1
      simp only [Option.some.injEq, Obj.cells.injEq] at s1
      exact ⟨_, e, setRow_heap w b cur _ e (0, 0) hcur, by rw [hsize, s1.1, s2]⟩
    · exact Sh_of_block (setRow_other w g b _ e') hh
  obtain ⟨olds, o1, o2, o3, o4, o5⟩ := RR_flat r5
  simp only [RO, hρ]
  refine ⟨_, e, cap, setRow_heap w g cur _ e (0, 0) hcur, ⟨by rw [hsize]; exact r2.size, fun v hv => ?_⟩, r3, by rw [splice_length hfit]; exact r4, ?_⟩
  · simp only [splice, List.mem_append] at hv
    rcases hv with (hv | hv) | hv
    · exact r2.one v (List.mem_of_mem_take hv)
    · exact n3 v hv
    · exact r2.one v (List.mem_of_mem_drop hv)
  · have hxl : xs.flatten.length = xs.length * k := by rw [← RL_length n2, n1]
    have holds : n * k + news.length ≤ olds.length := by rw [n1, o1, ← Nat.add_mul]; exact Nat.mul_le_mul_right _ (by omega)
    refine RR_of_flat (vs := splice olds (n * k) news) (fun r hr => ?_) ?_ (fun v hv => ?_) (fun j v hj => ?_)
    · simp only [splice, List.mem_append] at hr
      rcases hr with (hr | hr) | hr
      · exact o4 r (List.mem_of_mem_take hr)
      · exact n4 r hr
      · exact o4 r (List.mem_of_mem_drop hr)
    · rw [flat_splice n o4 hxl]
      have := RL_splice (off := n * k) (RL.mono hc hsh hst o2) (RL.mono hc hsh hst n2)
      exact this
    · simp only [splice, List.mem_append] at hv
      rcases hv with (hv | hv) | hv
      · exact o3 v (List.mem_of_mem_take hv)
      · exact n3 v hv
      · exact o3 v (List.mem_of_mem_drop hv)
    · rw [Nat.zero_add, cell_of_row _ g j _ _ (0, 0) (setRow_heap w g cur _ e (0, 0) hcur), List.getElem?_toArray, splice_get hle']
      rw [splice_get holds] at hj
      split
      · rename_i hc1
        rwa [if_pos hc1] at hj
      · rename_i hc1
        rw [if_neg hc1] at hj
        have := o5 j v hj
        rwa [Nat.zero_add, cell_of_row w g j cur e (0, 0) hcur, ← Array.getElem?_toList] at this
/-- A row that stays as it is. -/
theorem RelAt.sameRow (h : RelAt w0 p σ a w ρ) {o k : Nat} {rows rows' : List (List D)} (hrow : hget σ.heap o = .row k rows) (e : rows' = rows) : RelAt w0 p { σ with heap := hset σ.heap o (.row k rows') } a w ρ := by
  refine h.heapEq fun o' => ?_
  by_cases e' : o' = o
  · subst e'; rw [hget_hset_same (hhas_of_hget (by rw [hrow]; simp)), hrow, e]
  · rw [hget_hset_other e']
theorem run_firstCells_upto (size n m : Nat) (X : Option Addr) (c : Nat) (news : List Value) (hl : news.length = n * size) (hX : n = 0 ∨ ∃ b, X = some b ∧ ∀ j v, news[j]? = some v → w.cell? (b.add j) = some v) :
    (Builtin.firstCells size n (.slice X m c)).run P w = .ok news.toArray w := by
  have := run_firstCells_any (P := P) (w := w) size n X c news hl hX
  cases X <;> simpa [Builtin.firstCells] using this
theorem elems_take {k : Nat} {es : List (List D)} {news : List Value} (m : Nat) (h1 : news.length = es.length * k) (h2 : RL w (stab p σ.heap ρ w) (fun _ => none) es.flatten news) (h4 : ∀ r ∈ es, r.length = k) (hm : m ≤ es.length) :
    (news.take (m * k)).length = m * k ∧ RL w (stab p σ.heap ρ w) (fun _ => none) (es.take m).flatten (news.take (m * k)) := by
  refine ⟨?_, ?_⟩
  · rw [List.length_take, h1]; exact Nat.min_eq_left (Nat.mul_le_mul_right _ hm)
  · rw [flat_take m h4]; exact RL_take _ h2
theorem Steps1.copy {o : Oper} {s x : Operand} {t t' e : TypeId} {ti ei : TI} {q k off len m : Nat} {rows es : List (List D)} (ho : o.op = .call { callee := .builtin .copy, args := #[s, x], argTypes := #[t, t'] })
    (ht : tiGet P t = some ti) (hk : ti.kind.elem? = some e) (he : tiGet P e = some ei) (hks : ei.size = k) (hs : evl σ s = .slo q k off len) (hrow : hget σ.heap q = .row k rows) (hx : elemsD σ k (evl σ x) = some es) (hm : min es.length len = m) (hfit : off + m ≤ rows.length) :
    Steps1 P σ o (St.put { σ with heap := hset σ.heap q (.row k (splice rows off (es.take m))) } o.dst (.sc (.int .i64 m))) := by
  rintro w0 p a w ⟨ρ, h⟩
  have hu := slice_of_ti ht hk
  obtain ⟨_, hsz, _⟩ := run_ti he w
  obtain ⟨X, c, hxv, news, n1, n2, n3, n4, n5⟩ := elems_spec h hx (h.evl x)
  have hme : m ≤ es.length := by omega
  obtain ⟨l1, l2⟩ := elems_take (σ := σ) (w := w) m n1 n2 n4 hme
  have hcells : (Builtin.firstCells ei.size m (.slice X es.length c)).run P w = .ok (news.take (m * k)).toArray w := by
    refine run_firstCells_upto ei.size m es.length X c _ (by rw [hks]; exact l1) ?_
    rcases n5 with n5 | ⟨b, rfl, n5⟩
    · left; omega
    · right
      refine ⟨b, rfl, fun j v hj => n5 j v ?_⟩
      rw [List.getElem?_take] at hj
      split at hj
      · exact hj
      · cases hj
  have hs' := h.evl s
  rw [hs] at hs'
  simp only [R] at hs'
  have hmin : Nat.min es.length len = m := hm
  have fin : ∀ A c' w' ρ', a.eval s = .slice A len c' → ((match A with | some b => storeCells b (news.take (m * k)) | none => pure ()) : Sem Unit).run P w = .ok () w' → RelAt w0 p { σ with heap := hset σ.heap q (.row k (splice rows off (es.take m))) } a w' ρ' →
      ∃ v w', ((execOp a.eval o).run P w = .ok (.value v) w' ∨ (v = undef ∧ (execOp a.eval o).run P w = .ok .skip w')) ∧ Rel w0 p (St.put { σ with heap := hset σ.heap q (.row k (splice rows off (es.take m))) } o.dst (.sc (.int .i64 m))) (a.put o.dst v) w' := by
    intro A c' w' ρ' e1 e2 e3
    refine ⟨.int .i64 m, w', .inl ?_, ρ', e3.put o.dst (by simp [R])⟩
    cases A with
    | none =>
      simp only [Sem.run_pure, Result.ok.injEq, true_and] at e2
      subst e2
      simp [execOp, ho, resolve, invoke, builtin, Builtin.copy_, run_underlying hu, hsz, e1, hxv, Builtin.lenOf, hmin, hcells, goInt]
    | some b =>
      simp [execOp, ho, resolve, invoke, builtin, Builtin.copy_, run_underlying hu, hsz, e1, hxv, Builtin.lenOf, hmin, hcells, goInt, e2]
  rcases hs' with ⟨e1, rfl, rfl, A, e4⟩ | ⟨g, cap, A, e1, e2, e3, e4, e5, e6⟩
  · have hm0 : m = 0 := by omega
    subst hm0
    refine fin A 0 w ρ e4 ?_ (h.sameRow hrow (by simp [splice]))
    cases A <;> simp [storeCells]
  · have hro := h.objs q
    rw [hrow] at hro
    simp only [RO, e1] at hro
    obtain ⟨cur, e', cap', r1, r2, r3, r4, r5⟩ := hro
    by_cases hm0 : m = 0
    · subst hm0
      refine fin A _ w ρ e5 ?_ (h.sameRow hrow (by simp [splice]))
      cases A <;> simp [storeCells]
    · have hA := e6 (by omega)
      obtain ⟨f1, f2⟩ := h.writeRows (n := off) (xs := es.take m) (news := news.take (m * k)) hrow e1 r1 (by rw [l1, List.length_take, Nat.min_eq_left hme]) l2 (fun u hu => n3 u (List.mem_of_mem_take hu)) (fun r hr => n4 r (List.mem_of_mem_take hr)) (by rw [List.length_take, Nat.min_eq_left hme]; exact hfit)
      refine fin A _ _ ρ e5 ?_ f2
      subst hA
      have := run_storeCells_at P g (off * k) e' (news.take (m * k)) 0 cur w r1 (by simpa using f1) (fun u hu => n3 u (List.mem_of_mem_take hu))
      simpa [splice] using this
/-- append to the head of a row that has more rows: over those. -/
theorem Steps1.appPre {o : Oper} {s x : Operand} {t e : TypeId} {ti ei : TI} {q k n : Nat} {rows es : List (List D)} (ho : o.op = .call { callee := .builtin .append, args := #[s, x], argTypes := #[t, t] })
    (ht : tiGet P t = some ti) (hk : ti.kind.elem? = some e) (he : tiGet P e = some ei) (hks : ei.size = k) (hk0 : 0 < k) (hz1 : ei.zero.cells.toList.all (·.oneCell') = true) (hb0 : 0 < ei.bytes) (hs : evl σ s = .slo q k 0 n) (hrow : hget σ.heap q = .row k rows) (hx : elemsD σ k (evl σ x) = some es) (hfit : n + es.length ≤ rows.length) (hb : rows.length * ei.bytes ≤ 140737488355328) :
    Steps1 P σ o (St.put { σ with heap := hset σ.heap q (.row k (splice rows n es)) } o.dst (.slo q k 0 (n + es.length))) := by
  rintro w0 p a w ⟨ρ, h⟩
  have hu := slice_of_ti ht hk
  obtain ⟨ie, de, hie, hue, y1, y2, y3, y4⟩ := tiGet_spec he
  obtain ⟨X, c, hxv, news, n1, n2, n3, n4, n5⟩ := elems_spec h hx (h.evl x)
  have hexec : ∀ A sLen sCap v w', a.eval s = .slice A sLen sCap → (Builtin.append_ #[t, t] o.type #[.slice A sLen sCap, .slice X es.length c]).run P w = .ok v w' → (execOp a.eval o).run P w = .ok (.value v) w' := by
    intro A sLen sCap v w' h1 h2
    simp [execOp, ho, resolve, invoke, builtin, h1, hxv, h2]
  have hs' := h.evl s
  have hs'' := hs'
  rw [hs] at hs'
  simp only [R] at hs'
  rcases hs' with ⟨e1, _, rfl, A, e4⟩ | ⟨g, cap, A, e1, e2, e3, e4, e5, e6⟩
  · have hro := h.objs q
    rw [hrow] at hro
    simp only [RO, e1] at hro
    subst hro
    have he0 : es = [] := List.eq_nil_of_length_eq_zero (by simpa using hfit)
    subst he0
    have hall := run_append_all (P := P) (w := w) t o.type e ie ei.zero hu hie y3 A 0 0 [] (by simp) (Nat.le_refl _) (.inl rfl) X 0 c [] (by simp) (.inl rfl) (by simp) (by omega) (by unfold maxLen; omega) (by simp) (fun v hv => List.all_eq_true.1 hz1 v hv) (by simp)
    rcases hall with ⟨_, g2⟩ | ⟨g1, _⟩ | ⟨g1, _⟩
    · refine ⟨_, w, .inl (hexec A 0 0 _ w e4 g2), ρ, ?_⟩
      refine (h.sameRow hrow (by simp [splice])).put o.dst ?_
      simp only [R]
      exact .inl ⟨e1, trivial, rfl, A, rfl⟩
    · omega
    · omega
  · have hro := h.objs q
    rw [hrow] at hro
    simp only [RO, e1] at hro
    obtain ⟨cur, e', cap', r1, r2, r3, r4, r5⟩ := hro
    simp only [Nat.zero_add, Nat.sub_zero, Nat.zero_mul] at e3 e5 e6
    have hcapk : cap * k = cap' * k := by
      obtain ⟨c2, e2', s1, s2⟩ := e2
      rw [r1] at s1
      simp only [Option.some.injEq, Obj.cells.injEq] at s1
      rw [← s2, ← s1.1, r2.size]
    by_cases h0 : es.length = 0
    · have he0 : es = [] := List.eq_nil_of_length_eq_zero h0
      subst he0
      have hn0 : news = [] := List.eq_nil_of_length_eq_zero (by simpa using n1)
      subst hn0
      have g2 : (Builtin.append_ #[t, t] o.type #[.slice A n cap, .slice X 0 c]).run P w = .ok (.slice A n cap) w := by
        have hf := run_firstCells_any (P := P) (w := w) ie.size 0 X c [] (by simp) (.inl rfl)
        cases A <;> simp [Builtin.append_, run_underlying hu, sizeOf, typeInfo, hie, Builtin.lenOf, hf, e3, storeCells]
      refine ⟨_, w, .inl (hexec A n cap _ w e5 (by simpa using g2)), ρ, ?_⟩
      refine (h.sameRow hrow (by simp [splice])).put o.dst ?_
      rw [hs] at hs''
      rw [e5] at hs''
      exact R.mono (fun _ _ _ => rfl) (fun _ _ hh => hh) (fun b hb => ⟨hb.1, hb.2.1, fun o' ho' => hb.2.2 o' (fun hd => ho' (by
        by_cases eq : o' = q
        · subst eq; rw [hrow] at hd; cases hd
        · rw [hget_hset_other eq, hd]))⟩) hs''
    · have hcc : cap = cap' := Nat.eq_of_mul_eq_mul_right hk0 hcapk
      subst hcc
      obtain ⟨olds, o1, o2, o3, o4, o5⟩ := RR_flat r5
      have hA := e6 (by omega)
      subst hA
      have hnk : (olds.take (n * k)).length = n * k := by rw [List.length_take, o1]; exact Nat.min_eq_left (Nat.mul_le_mul_right _ (by omega))
      obtain ⟨f1, f2⟩ := h.writeRows (n := n) (xs := es) (news := news) hrow e1 r1 n1 n2 n3 n4 hfit
      have hbb : (n + es.length) * ie.bytes ≤ 140737488355328 := by
        rw [y2]; exact Nat.le_trans (Nat.mul_le_mul_right _ hfit) hb
      have h63 : n + es.length ≤ maxLen := by omega
      have hall := run_append_all (P := P) (w := w) t o.type e ie ei.zero hu hie y3 (some ⟨g, 0, none⟩) n cap (olds.take (n * k)) (by rw [y1, hks]; exact hnk) e3
        (by
          by_cases hn0 : n = 0
          · exact .inl hn0
          · refine .inr ⟨_, rfl, fun j v hj => ?_⟩
            rw [Addr.add_lit, Nat.zero_add]
            rw [List.getElem?_take] at hj
            split at hj
            · have := o5 j v hj; rwa [Nat.zero_add] at this
            · cases hj)
        X es.length c news (by rw [y1, hks]; exact n1) n5 n3 (fun _ _ => ⟨g, 0, cur, e', rfl, r1, by rw [y1, hks, Nat.zero_add]; exact f1⟩) h63 hbb (fun v hv => List.all_eq_true.1 hz1 v hv) (fun v hv => o3 v (List.mem_of_mem_take hv))
      rcases hall with ⟨g1, _⟩ | ⟨_, _, g', q', cur', e'', g3, g4, g5, g6⟩ | ⟨_, g1, _⟩
      · exact absurd g1 h0
      · simp only [Option.some.injEq, Addr.mk.injEq] at g3
        obtain ⟨rfl, rfl, _⟩ := g3
        rw [r1] at g4
        simp only [Option.some.injEq, Obj.cells.injEq] at g4
        obtain ⟨rfl, rfl, _⟩ := g4
        refine ⟨_, _, .inl (hexec _ n cap _ _ e5 g6), ρ, ?_⟩
        have hw : (cur.toList.take (0 + n * ie.size) ++ news ++ cur.toList.drop (0 + n * ie.size + news.length)) = splice cur.toList (n * k) news := by simp only [y1, hks, Nat.zero_add, splice]
        rw [hw]
        refine f2.put o.dst ?_
        simp only [R]
        have hsize : (splice cur.toList (n * k) news).toArray.size = cur.size := by
          rw [List.size_toArray, splice_length (by rw [Array.length_toList]; exact f1), Array.length_toList]
        refine .inr ⟨g, cap, some ⟨g, 0, none⟩, e1, ?_, by omega, e4, by simp, fun _ => by simp⟩
        obtain ⟨c2, e2', s1, s2⟩ := e2
        rw [r1] at s1
        simp only [Option.some.injEq, Obj.cells.injEq] at s1
        exact ⟨_, e', setRow_heap w g cur _ e' (0, 0) r1, by rw [hsize, s1.1, s2]⟩
      · omega
theorem zeroCells_flat {z : Array Value} : ∀ n, (Builtin.zeroCells z n).toList = (List.replicate n z.toList).flatten := by
  intro n
  induction n with
  | zero => simp [Builtin.zeroCells]
  | succ n ih =>
    have h1 : (Builtin.zeroCells z (n + 1)).toList = (Builtin.zeroCells z n).toList ++ z.toList := by
      simp only [Builtin.zeroCells, Array.toList_map, Array.toList_range, Nat.add_mul, Nat.one_mul, List.range_add, List.map_append, List.map_map]
      congr 1
      apply List.ext_getElem?
      intro i
      simp only [List.getElem?_map, List.getElem?_range']
      by_cases hi : i < z.size
      · rw [List.getElem?_range hi]
        simp only [Option.map_some, Function.comp_apply, Nat.mul_add_mod_self_right, Nat.mod_eq_of_lt hi]
        rw [getElem!_pos z i hi, Array.getElem?_toList, Array.getElem?_eq_getElem hi]
      · rw [List.getElem?_eq_none (by simp; omega), Array.getElem?_toList, Array.getElem?_eq_none (by omega)]
        rfl
    rw [h1, ih, List.replicate_succ', List.flatten_append]
    simp
theorem Steps1.clear {o : Oper} {s : Operand} {t e : TypeId} {ti ei : TI} {q k off len : Nat} {rows : List (List D)} (ho : o.op = .call { callee := .builtin .clear, args := #[s], argTypes := #[t] }) (hd : o.dst = none)
    (ht : tiGet P t = some ti) (hk : ti.kind.elem? = some e) (he : tiGet P e = some ei) (hks : ei.size = k) (hzs : ei.zero.cells.size = ei.size) (hz1 : ei.zero.cells.toList.all (·.oneCell') = true) (hs : evl σ s = .slo q k off len) (hrow : hget σ.heap q = .row k rows) (hfit : off + len ≤ rows.length) :
    Steps1 P σ o { σ with heap := hset σ.heap q (.row k (splice rows off (List.replicate len (ei.zero.cells.toList.map .sc)))) } := by
  rintro w0 p a w ⟨ρ, h⟩
  have hu := slice_of_ti ht hk
  obtain ⟨_, _, _, hzv, _⟩ := run_ti he w
  have hs' := h.evl s
  rw [hs] at hs'
  simp only [R] at hs'
  have hz1' : ∀ v ∈ ei.zero.cells.toList, v.oneCell' = true := fun v hv => List.all_eq_true.1 hz1 v hv
  rcases hs' with ⟨e1, rfl, rfl, A, e4⟩ | ⟨g, cap, A, e1, e2, e3, e4, e5, e6⟩
  · refine ⟨.tuple #[], w, .inl ?_, ρ, ?_⟩
    · cases A <;> simp [execOp, ho, resolve, invoke, builtin, Builtin.clear_, run_underlying hu, e4]
    · rw [hd]; exact h.sameRow hrow (by simp [splice])
  · have hro := h.objs q
    rw [hrow] at hro
    simp only [RO, e1] at hro
    obtain ⟨cur, e', cap', r1, r2, r3, r4, r5⟩ := hro
    by_cases h0 : len = 0
    · subst h0
      refine ⟨.tuple #[], w, .inl ?_, ρ, ?_⟩
      · cases A <;> simp [execOp, ho, resolve, invoke, builtin, Builtin.clear_, run_underlying hu, e5]
      · rw [hd]; exact h.sameRow hrow (by simp [splice])
    · have hA := e6 (by omega)
      subst hA
      have hl : (Builtin.zeroCells ei.zero.cells len).toList.length = len * k := by rw [Array.length_toList, size_zeroCells, hzs, hks]
      obtain ⟨f1, f2⟩ := h.writeRows (n := off) (xs := List.replicate len (ei.zero.cells.toList.map .sc)) (news := (Builtin.zeroCells ei.zero.cells len).toList) hrow e1 r1 (by rw [hl, List.length_replicate])
        (by
          rw [zeroCells_flat]
          have : (List.replicate len (ei.zero.cells.toList.map D.sc)).flatten = ((List.replicate len ei.zero.cells.toList).flatten).map D.sc := by
            rw [List.map_flatten, List.map_replicate]
          rw [this]
          exact RL_sc _)
        (zeroCells_one hz1') (fun r hr => by rw [(List.mem_replicate.1 hr).2]; simp [hzs, hks]) (by rw [List.length_replicate]; exact hfit)
      refine ⟨.tuple #[], _, .inl ?_, ρ, by rw [hd]; exact f2⟩
      have := run_storeCells_at P g (off * k) e' (Builtin.zeroCells ei.zero.cells len).toList 0 cur w r1 (by simpa using f1) (zeroCells_one hz1')
      obtain ⟨len', rfl⟩ : ∃ n, len = n + 1 := ⟨len - 1, by omega⟩
      simp only [Nat.add_zero] at this
      simp [execOp, ho, resolve, invoke, builtin, Builtin.clear_, run_underlying hu, e5, hzv, this, splice]
/-- 's == nil' | 's != nil': the answer is open where the slice is empty. -/
theorem nilTest_run {x : Operand} {t e : TypeId} {ti : TI} {n : Nat} (h : RelAt w0 p σ a w ρ) (ht : tiGet P t = some ti) (hk : ti.kind.elem? = some e) (hx : lenD (evl σ x) = some n) :
    ∃ b : Bool, (b = true → n = 0) ∧ (∀ o : Oper, o.op = .binOp .eql t x (.const (.slice none 0 0)) t → (execOp a.eval o).run P w = .ok (.value (.bool b)) w) ∧ (∀ o : Oper, o.op = .binOp .neq t x (.const (.slice none 0 0)) t → (execOp a.eval o).run P w = .ok (.value (.bool !b)) w) := by
  have hu := slice_of_ti ht hk
  have h1 := h.evl x
  have hsl : ∃ A c, a.eval x = .slice A n c ∧ (A = none → n = 0) := by
    cases hx' : evl σ x with
    | sl k rows =>
      rw [hx'] at h1 hx
      simp only [lenD, Option.some.injEq] at hx
      simp only [R] at h1
      obtain ⟨A, c, e1, _, _, e4⟩ := h1
      refine ⟨A, c, by rw [e1, hx], fun hA => ?_⟩
      rcases e4 with e4 | ⟨g, off, e4, _⟩
      · rw [← hx, e4]; rfl
      · rw [hA] at e4; cases e4
    | slo o k off len =>
      rw [hx'] at h1 hx
      simp only [lenD, Option.some.injEq] at hx
      subst hx
      simp only [R] at h1
      rcases h1 with ⟨_, _, e3, A, e4⟩ | ⟨g, cap, A, _, _, e3, _, e5, e6⟩
      · exact ⟨A, 0, by rw [e4, e3], fun _ => e3⟩
      · refine ⟨A, _, e5, fun hA => ?_⟩
        by_cases h0 : off < cap
        · rw [hA] at e6; cases e6 h0
        · omega
    | any | sc | agg | ro | ref | elt | tup | fn => rw [hx'] at hx; simp [lenD] at hx
  obtain ⟨A, c, hA, hn⟩ := hsl
  refine ⟨A.isNone, fun hb => hn (by cases A <;> simp_all), fun o ho => ?_, fun o ho => ?_⟩
  · have hg : ∀ y : Operand, eqGuard .eql t x y (.slice A n c) (.slice none 0 0) = pure () := fun y => rfl
    have := Lib.run_eql_slice_nil (P := P) w t e A n c 0 0 hu
    have he : a.eval (.const (.slice none 0 0)) = .slice none 0 0 := rfl
    simp [execOp, ho, hA, he, hg, this]
  · have hg : ∀ y : Operand, eqGuard .neq t x y (.slice A n c) (.slice none 0 0) = pure () := fun y => rfl
    have := run_neq_slice_nil_any (P := P) w t e A n c 0 0 hu
    have he : a.eval (.const (.slice none 0 0)) = .slice none 0 0 := rfl
    simp [execOp, ho, hA, he, hg, this]
end
theorem Rel.callX {P : Program} {σ : St} {w0 : World} {p : Pm} {a : Act} {w : World} {ρ : Nat → Option (Option Nat)} (hr : RelAt w0 p σ a w ρ) {f : FuncId} {ds args : List D} {vs : List Value} {xs : List Obj} {τ : Type} {I : τ → Prop} {ret : τ → D} {outs : τ → List Obj} {ins new : List Nat} {dst : Option Nat} (b : Bool)
    (hc : XCalls P f xs args I ret outs) (hargs : if b then renL ins ds = some args ∧ renOs σ (renL ins) ins = some xs else mapO (snapD σ ins 4) ds = some args ∧ renOs σ (mapO (snapD σ ins 4)) ins = some xs ∧ ∀ t, I t → Flat (ret t) (outs t)) (hvs : RL w (stab p σ.heap ρ w) ρ ds vs)
    (hn : (ins ++ new).Nodup) (hlen : ∀ t, (ins ++ new).length = (outs t).length) (hh : (ins ++ new).all (hhas σ.heap) = true) (hnew : new.all (fun o => decide (o < 1000)) = true) (hlt : ∀ t, ltD (outs t).length (ret t) = true) (hlo : ∀ t, (outs t).all (ltO (outs t).length) = true) :
    Calls P f vs.toArray w fun e w' => ∃ v, e = .returned v ∧ ∃ t, I t ∧ Rel w0 p (σ.imp_ dst ins new (ret t) (outs t)) (a.put dst v) w' := by
  have hh' : ∀ o ∈ ins ++ new, hhas σ.heap o = true := fun o ho => by simpa using List.all_eq_true.1 hh o ho
  have hnew' : ∀ o ∈ new, o < 1000 := fun o ho => by have := List.all_eq_true.1 hnew o ho; simpa using this
  have hni : ins.Nodup := (List.nodup_append.1 hn).1
  cases b
  · simp only [Bool.false_eq_true, if_false] at hargs
    obtain ⟨h1, h2, h3⟩ := hargs
    have hxl := renOs_spec h2
    have hok := insOK_of (st := stA p σ ρ ins w) hr hni h2 stA_of (fun o g ho hl e hs => hs.2.2 o ho hl e) (fun cs cs' vs hcs hvs => snapL_spec (snap_spec hr 4) hcs hvs)
    refine (hc.run w (stA p σ ρ ins w) _ vs (fun g hg => hg.2.1) hok (snapL_spec (snap_spec hr 4) h1 hvs)).mono ?_
    rintro e w' ⟨t, hI, v, rfl, ρ', ho⟩
    exact ⟨v, rfl, t, hI, hr.call hxl.1 (fun j hj hd => (renO_live (hxl.2 j hj)).1 hd) ho hn (hlen t) hh' hnew' (hlt t) (hlo t) (.inr (h3 t hI))⟩
  · simp only [if_true] at hargs
    obtain ⟨h1, h2⟩ := hargs
    have hxl := renOs_spec h2
    have hρ : ∀ o, o ∈ ins → ρIn ρ ins (ins.idxOf o) = ρ o := fun o ho => ρIn_idx ho
    have hok := insOK_of (st := stab p σ.heap ρ w) hr hni h2 (fun g hg => hg) (fun o g _ hl e hs => hs.2.2 o hl e) (fun cs cs' vs hcs hvs => RL.ren hρ hcs hvs)
    refine (hc.run w (stab p σ.heap ρ w) _ vs (fun g hg => hg.2.1) hok (RL.ren hρ h1 hvs)).mono ?_
    rintro e w' ⟨t, hI, v, rfl, ρ', ho⟩
    exact ⟨v, rfl, t, hI, hr.call hxl.1 (fun j hj hd => (renO_live (hxl.2 j hj)).1 hd) ho hn (hlen t) hh' hnew' (hlt t) (hlo t) (.inl fun g hg => hg)⟩
section
variable {P : Program} {ds : List (Option Nat)} {Q : Exit → St → Prop} {σ σ' : St} {l : List Oper} {dst : Option Nat} {ty : TypeId} {pos : String} {af : Array Edge} {g : Option (Nat × Bool)}
/-- A call of whose outcome only the family is known: the family's member is open behind it. -/
theorem TriD.callX {f : FuncId} {x : Operand} {xs : Array Operand} {ts : Array TypeId} {caps args : List D} {objs : List Obj} {τ : Type} {I : τ → Prop} {ret : τ → D} {outs : τ → List Obj} (b : Bool) (ins new : List Nat)
    (hg : aguardC ds g σ = some true) (hx : evl σ x = .fn f caps) (hc : XCalls P f objs args I ret outs)
    (hargs : if b then renL ins (xs.toList.map (evl σ) ++ caps) = some args ∧ renOs σ (renL ins) ins = some objs else mapO (snapD σ ins 4) (xs.toList.map (evl σ) ++ caps) = some args ∧ renOs σ (mapO (snapD σ ins 4)) ins = some objs ∧ ∀ t, I t → Flat (ret t) (outs t))
    (hn : (ins ++ new).Nodup) (hlen : ∀ t, (ins ++ new).length = (outs t).length) (hh : (ins ++ new).all (hhas σ.heap) = true) (hnew : new.all (fun o => decide (o < 1000)) = true) (hlt : ∀ t, ltD (outs t).length (ret t) = true) (hlo : ∀ t, (outs t).all (ltO (outs t).length) = true)
    (hnext : ∀ t, I t → TriD P ds Q l (σ.imp_ dst ins new (ret t) (outs t))) : TriD P ds Q (⟨dst, .call { callee := .value x, args := xs, argTypes := ts }, ty, pos, af, g⟩ :: l) σ := by
  intro all ha w0 p a w hr
  have hw := aguard_wanted (all := all) (o := ⟨dst, .call { callee := .value x, args := xs, argTypes := ts }, ty, pos, af, g⟩) (by rw [aguard_C ha]; exact hg) hr
  obtain ⟨ρ, hr⟩ := hr
  have hx' := hr.evl x
  rw [hx] at hx'
  simp only [R] at hx'
  obtain ⟨vs, hf, hcaps⟩ := hx'
  have hrun := run_call (P := P) (w := w) (o := ⟨dst, .call { callee := .value x, args := xs, argTypes := ts }, ty, pos, af, g⟩) rfl hf hc.call
  have hall := RL_append (RL_map_eval hr xs.toList) hcaps
  have has : (xs.map a.eval ++ vs) = (xs.toList.map a.eval ++ vs.toList).toArray := by
    apply Array.toList_inj.1; simp
  rw [has] at hrun
  exact wpList_of_call hw hrun (Rel.callX (dst := dst) hr b hc hargs hall hn hlen hh hnew hlt hlo) (fun v w' ⟨t, hI, hv⟩ => hnext t hI all ha w0 p _ _ hv)
theorem of_triX {f : FuncId} {fn : Func} {c : Code} {ins : List Obj} {args : List D} {τ : Type} {I : τ → Prop} {ret : τ → D} {outs : τ → List Obj} (ids keys : List Nat) (hf : P.funcs[f]? = some fn) (hb : fn.body = some c)
    (hcall : ∀ as w, (callFunc f as).run P w = .ok (.enter f as) w) (hids : ids.length = ins.length) (hge : ids.all (fun o => decide (1000 ≤ o)) = true) (hnd : ids.Nodup) (hla : ltL ins.length args = true) (hli : ins.all (ltO ins.length) = true)
    {s : List D} {h : List (Nat × Obj)} {n : Nat} (hn : fn.ntmps = n) (hs : nmL ids args ++ List.replicate (n - args.length) (.sc undef) = s) (hh : heapI ids ins keys = h)
    (ht : Tri P c (retX P fn ids I ret outs) { slots := s, heap := h }) : XCalls P f ins args I ret outs := by
  subst hn hs hh
  exact XCalls.of_tri ids keys hf hb hcall hids hge hnd hla hli ht
theorem TriD.norm (h : σ = σ') (hn : TriD P ds Q l σ') : TriD P ds Q l σ := by subst h; exact hn
theorem Tri.norm {c : Code} (h : σ = σ') (hn : Tri P c Q σ') : Tri P c Q σ := by subst h; exact hn
theorem TriD.nilEq {x : Operand} {t e : TypeId} {ti : TI} {n : Nat} (hg : aguardC ds g σ = some true) (ht : tiGet P t = some ti) (hk : ti.kind.elem? = some e) (hx : lenD (evl σ x) = some n)
    (hn : ∀ b : Bool, (b = true → n = 0) → TriD P ds Q l (σ.put dst (.sc (.bool b)))) : TriD P ds Q (⟨dst, .binOp .eql t x (.const (.slice none 0 0)) t, ty, pos, af, g⟩ :: l) σ := by
  intro all ha w0 p a w hr
  have hw := aguard_wanted (all := all) (o := ⟨dst, .binOp .eql t x (.const (.slice none 0 0)) t, ty, pos, af, g⟩) (by rw [aguard_C ha]; exact hg) hr
  obtain ⟨ρ, hr⟩ := hr
  obtain ⟨b, hb, h1, _⟩ := nilTest_run hr ht hk hx
  exact wpList_of_step hw (.inl (h1 _ rfl)) (hn b hb all ha w0 p _ _ ⟨ρ, hr.put dst (by simp [R])⟩)
theorem TriD.nilNe {x : Operand} {t e : TypeId} {ti : TI} {n : Nat} (hg : aguardC ds g σ = some true) (ht : tiGet P t = some ti) (hk : ti.kind.elem? = some e) (hx : lenD (evl σ x) = some n)
    (hn : ∀ b : Bool, (b = true → n = 0) → TriD P ds Q l (σ.put dst (.sc (.bool !b)))) : TriD P ds Q (⟨dst, .binOp .neq t x (.const (.slice none 0 0)) t, ty, pos, af, g⟩ :: l) σ := by
  intro all ha w0 p a w hr
  have hw := aguard_wanted (all := all) (o := ⟨dst, .binOp .neq t x (.const (.slice none 0 0)) t, ty, pos, af, g⟩) (by rw [aguard_C ha]; exact hg) hr
  obtain ⟨ρ, hr⟩ := hr
  obtain ⟨b, hb, _, h1⟩ := nilTest_run hr ht hk hx
  exact wpList_of_step hw (.inl (h1 _ rfl)) (hn b hb all ha w0 p _ _ ⟨ρ, hr.put dst (by simp [R])⟩)
theorem TriD.copy {s x : Operand} {t t' e : TypeId} {ti ei : TI} {q k off len m : Nat} {rows es : List (List D)} (hg : aguardC ds g σ = some true)
    (ht : tiGet P t = some ti) (hk : ti.kind.elem? = some e) (he : tiGet P e = some ei) (hks : ei.size = k) (hs : evl σ s = .slo q k off len) (hrow : hget σ.heap q = .row k rows) (hx : elemsD σ k (evl σ x) = some es) (hm : min es.length len = m) (hfit : off + m ≤ rows.length)
    (hn : TriD P ds Q l (St.put { σ with heap := hset σ.heap q (.row k (splice rows off (es.take m))) } dst (.sc (.int .i64 m)))) : TriD P ds Q (⟨dst, .call { callee := .builtin .copy, args := #[s, x], argTypes := #[t, t'] }, ty, pos, af, g⟩ :: l) σ :=
  fun all ha => TriL.stepW (by rw [aguard_C ha]; exact hg) (Steps1.copy rfl ht hk he hks hs hrow hx hm hfit) (hn all ha)
theorem TriD.appPre {s x : Operand} {t e : TypeId} {ti ei : TI} {q k n : Nat} {rows es : List (List D)} (hg : aguardC ds g σ = some true)
    (ht : tiGet P t = some ti) (hk : ti.kind.elem? = some e) (he : tiGet P e = some ei) (hks : ei.size = k) (hk0 : 0 < k) (hz1 : ei.zero.cells.toList.all (·.oneCell') = true) (hb0 : 0 < ei.bytes) (hs : evl σ s = .slo q k 0 n) (hrow : hget σ.heap q = .row k rows) (hx : elemsD σ k (evl σ x) = some es) (hfit : n + es.length ≤ rows.length) (hb : rows.length * ei.bytes ≤ 140737488355328)
    (hn : TriD P ds Q l (St.put { σ with heap := hset σ.heap q (.row k (splice rows n es)) } dst (.slo q k 0 (n + es.length)))) : TriD P ds Q (⟨dst, .call { callee := .builtin .append, args := #[s, x], argTypes := #[t, t] }, ty, pos, af, g⟩ :: l) σ :=
  fun all ha => TriL.stepW (by rw [aguard_C ha]; exact hg) (Steps1.appPre rfl ht hk he hks hk0 hz1 hb0 hs hrow hx hfit hb) (hn all ha)
theorem TriD.clear {s : Operand} {t e : TypeId} {ti ei : TI} {q k off len : Nat} {rows : List (List D)} (hg : aguardC ds g σ = some true)
    (ht : tiGet P t = some ti) (hk : ti.kind.elem? = some e) (he : tiGet P e = some ei) (hks : ei.size = k) (hzs : ei.zero.cells.size = ei.size) (hz1 : ei.zero.cells.toList.all (·.oneCell') = true) (hs : evl σ s = .slo q k off len) (hrow : hget σ.heap q = .row k rows) (hfit : off + len ≤ rows.length)
    (hn : TriD P ds Q l { σ with heap := hset σ.heap q (.row k (splice rows off (List.replicate len (ei.zero.cells.toList.map .sc)))) }) : TriD P ds Q (⟨none, .call { callee := .builtin .clear, args := #[s], argTypes := #[t] }, ty, pos, af, g⟩ :: l) σ :=
  fun all ha => TriL.stepW (by rw [aguard_C ha]; exact hg) (Steps1.clear rfl rfl ht hk he hks hzs hz1 hs hrow hfit) (hn all ha)
end
theorem toNat_pred (k : Nat) : ((k : Int) - 1).toNat = k - 1 := by omega
theorem toNat_succ (k : Nat) : ((k : Int) + 1).toNat = k + 1 := by omega
theorem take_lenmap {α β : Type} (f : α → β) (l : List α) : (l.map f).take l.length = l.map f := List.take_of_length_le (by rw [List.length_map]; exact Nat.le_refl _)
theorem take_len {α : Type} (l : List α) : l.take l.length = l := List.take_length
theorem take_get {α : Type} {l : List α} {k : Nat} {x : α} (h : l[k]? = some x) : l.take (k + 1) = l.take k ++ [x] := by
  rw [List.take_add_one, h]; rfl
theorem list_ext_upto {α : Type} {a b : List α} (hl : a.length = b.length) (h : ∀ j, j < a.length → a[j]? = b[j]?) : a = b := by
  apply List.ext_getElem? 
  intro j
  by_cases hj : j < a.length
  · exact h j hj
  · rw [List.getElem?_eq_none (by omega), List.getElem?_eq_none (by omega)]
attribute [go_sem] Nat.le_refl List.length_set List.map_set take_lenmap take_len toNat_pred toNat_succ
end Go.Avm
