/- The abstract machine, part Z: append of a make; objects that pass to another name; calls that are handed what their arguments name; structs compared. -/
import Derived.Test.YtpopgpjojbngcaaAvmY
import Derived.Laws.StructEq
import Derived.Lib.Overlaps
namespace Go.Avm
set_option linter.unusedVariables false
set_option linter.unusedSimpArgs false
open Go.RowKit

set_option maxRecDepth 10000 in
theorem run_append_make {P : Program} {w : World} (t t' ty e : TypeId) (k' : IntKind) (i : TypeInfo) (z : Value) (ht : P.underlying t = some (.slice e)) (ht' : P.underlying t' = some (.int k')) (hi : P.info? e = some i) (hz : i.zero = some z)
    (b : Addr) (sLen sCap : Nat) (olds : List Value) (hlo : olds.length = sLen * i.size) (holds : ∀ j v, olds[j]? = some v → w.cell? (b.add j) = some v) (kx : IntKind) (n : Nat) (hn0 : 0 < n) (hs0 : 0 < i.size)
    (hg : sCap < sLen + n) (h63 : ((sLen + n : Nat) : Int) ≤ 9223372036854775807) (hbytes : (sLen + n) * i.bytes ≤ 140737488355328) (hl48 : n * i.bytes ≤ 281474976710656) :
    (Builtin.append_ #[t, t'] ty #[.slice (some b) sLen sCap, .int kx (n : Int)]).run P w =
      .ok (.slice (some ⟨w.heap.size, 0, none⟩) (sLen + n) (grownCap w (sLen + n) sCap e))
        (w.drew.alloc (.cells (olds.toArray ++ Builtin.zeroCells z.cells n ++ Builtin.zeroCells z.cells (grownCap w (sLen + n) sCap e - (sLen + n))) e)) := by
  have hn : ¬ (sLen + n ≤ sCap) := by omega
  have h63' : ¬ (9223372036854775807 < ((sLen : Int) + (n : Int))) := by omega
  have hfit := growslice_fits (need := sLen + n) (old := sCap) (by omega) hbytes
  have h48' : ¬ (281474976710656 < Builtin.nextslicecap (sLen + n) sCap * i.bytes) := by omega
  have hfo := run_firstCells_some (P := P) w.drew i.size sLen b sLen sCap olds hlo (by simpa using holds)
  have hwr : IntKind.i64.wrap (n : Int) = (n : Int) := IntWalk.i64_in _ ⟨by omega, by omega⟩
  have hneg : ¬ ((n : Int) < 0) := by omega
  have h48 : ¬ (281474976710656 < (n : Int) * (i.bytes : Int)) := by
    have : ((n * i.bytes : Nat) : Int) ≤ ((281474976710656 : Nat) : Int) := Int.ofNat_le.2 hl48
    rw [Int.natCast_mul] at this
    omega
  have hz0 : ¬ (n * i.size = 0) := by
    have := Nat.mul_pos hn0 hs0
    omega
  have hz0' : ¬ (n = 0 ∨ i.size = 0) := by omega
  have hng : ¬ (n = 0) := by omega
  have hsg : ¬ (i.size = 0) := by omega
  simp [Builtin.append_, run_underlying ht, run_underlying ht', sizeOf, typeInfo, zeroValue, hi, hz, asInt, asIntOf, hwr, hneg, h48, hn, h63', h48', Question.forced, hfo, newRow, grownCap, hng, hsg]
  exact fun h => absurd h hz0

section
variable {P : Program} {ds : List (Option Nat)} {Q : Exit → St → Prop} {σ σ' : St} {l : List Oper} {dst : Option Nat} {ty : TypeId} {pos : String} {af : Array Edge} {g : Option (Nat × Bool)}
theorem RR_cells {w : World} {st : Nat → Prop} {k g n : Nat} {rows : List (List D)} {cur : Array Value} {e : TypeId} (hg : w.heap[g]? = some (.cells cur e (0, 0))) (h : RR w st k g 0 rows) (hn : n ≤ rows.length) (hone : ∀ v ∈ cur.toList, v.oneCell' = true) :
    (cur.toList.take (n * k)).length = n * k ∧ (∀ v ∈ cur.toList.take (n * k), v.oneCell' = true) ∧ RL w st (fun _ => none) (rows.take n).flatten (cur.toList.take (n * k)) ∧ (∀ r ∈ rows.take n, r.length = k) := by
  have h2 := RR_take n h
  obtain ⟨vs, f1, f2, f3, f4, f5⟩ := RR_flat h2
  have hl : (rows.take n).length = n := by rw [List.length_take]; omega
  rw [hl] at f1
  have e1 : cur.toList.take (n * k) = vs := by
    apply List.ext_getElem?
    intro j
    rw [List.getElem?_take]
    split
    · rename_i hj
      have hv : j < vs.length := by omega
      have := f5 j _ (List.getElem?_eq_getElem hv)
      rw [Nat.zero_add, cell_of_row w g j cur e (0, 0) hg] at this
      rw [Array.getElem?_toList, this, List.getElem?_eq_getElem hv]
    · rename_i hj
      rw [List.getElem?_eq_none (by omega)]
  rw [e1]
  exact ⟨f1, f3, f2, f4⟩
theorem RL_app2 {w : World} {st : Nat → Prop} {ρ : Nat → Option (Option Nat)} : ∀ {ds es : List D} {vs us : List Value}, RL w st ρ ds vs → RL w st ρ es us → RL w st ρ (ds ++ es) (vs ++ us)
  | [], _, _, _, h, h2 => by simp only [RL] at h; subst h; simpa using h2
  | d :: ds, es, vs, us, h, h2 => by
    simp only [RL, List.cons_append] at h ⊢
    obtain ⟨v, vs', h3, h4, h5⟩ := h
    subst h3
    exact ⟨v, vs' ++ us, rfl, h4, RL_app2 h5 h2⟩
/-- append of a make to the head of a row that is told to its capacity, beyond that: a new row. -/
theorem TriD.appMake {s x : Operand} {t t' e d : Nat} {kx k' : IntKind} {m : Int} {ti ti' ei : TI} {q k n : Nat} {rows : List (List D)} (hg : aguardC ds g σ = some true) (ht : tiGet P t = some ti) (hk : ti.kind.elem? = some e) (he : tiGet P e = some ei) (ht' : tiGet P t' = some ti') (hk' : ti'.kind = .int k') (hks : ei.size = k) (hk0 : 0 < k)
    (hzs : ei.zero.cells.size = ei.size) (hz1 : ei.zero.cells.toList.all (·.oneCell') = true) (hb0 : 0 < ei.bytes) (hh : hfree σ.heap d = true) (hs : evl σ s = .slo q k 0 n) (hrow : hget σ.heap q = .ext (rowC k rows)) (hx : evl σ x = .sc (.int kx m)) (hm : 0 < m) (hgrow : (rows.length : Int) < n + m) (hnl : n ≤ rows.length) (hr0 : 0 < rows.length)
    (hb : (n + m.toNat) * ei.bytes ≤ 140737488355328)
    (hn : TriD P ds Q l (σ.bear d (.row k (rows.take n ++ List.replicate m.toNat (ei.zero.cells.toList.map .sc))) (.slo d k 0 (n + m.toNat)))) : TriD P ds Q (⟨some d, .call { callee := .builtin .append, args := #[s, x], argTypes := #[t, t'] }, ty, pos, af, g⟩ :: l) σ := by
  intro all ha w0 p a w hr
  have hw := aguard_wanted (all := all) (o := ⟨some d, .call { callee := .builtin .append, args := #[s, x], argTypes := #[t, t'] }, ty, pos, af, g⟩) (by rw [aguard_C ha]; exact hg) hr
  obtain ⟨ρ, hr⟩ := hr
  obtain ⟨N, rfl⟩ : ∃ N : Nat, m = N := ⟨m.toNat, by omega⟩
  simp only [Int.toNat_natCast] at hn hb
  have hu := slice_of_ti ht hk
  obtain ⟨ie, de, hie, hue, y1, y2, y3, y4⟩ := tiGet_spec he
  obtain ⟨i2, d2, hi2, hu2, _, _, _, y5⟩ := tiGet_spec ht'
  have hu2' : P.underlying t' = some (.int k') := by
    rw [hk'] at y5
    cases d2 <;> simp [tkOf] at y5
    subst y5; exact hu2
  have ho := hr.objs q
  rw [hrow] at ho
  simp only [RO] at ho
  obtain ⟨gg, hρ, cur, e', e1, e2, e3, e4⟩ := ho
  have hS := hr.evl s
  rw [hs] at hS
  simp only [R] at hS
  have hX := hr.evl x
  rw [hx] at hX
  simp only [R] at hX
  rcases hS with ⟨f1, _⟩ | ⟨g', cap', A, f1, f2, f3, f4, f5, f6⟩
  · rw [hρ] at f1; simp at f1
  · rw [hρ] at f1
    simp only [Option.some.injEq] at f1
    subst f1
    obtain ⟨cur2, e6, f7, f8⟩ := f2
    rw [e1] at f7
    simp only [Option.some.injEq, Obj.cells.injEq] at f7
    obtain ⟨rfl, _⟩ := f7
    have hcc : cap' = rows.length := Nat.eq_of_mul_eq_mul_right hk0 (f8.symm.trans e2.size)
    subst hcc
    obtain ⟨c1, c2, c3, c4⟩ := RR_cells e1 e4 hnl e2.one
    have hAe := f6 (by omega)
    have hlt : n + N ≤ maxLen := by
      have : (n + N) * 1 ≤ (n + N) * ei.bytes := Nat.mul_le_mul_left _ hb0
      unfold maxLen; omega
    have hrun := run_append_make (P := P) (w := w) t t' ty e k' ie ei.zero hu hu2' hie y3 ⟨gg, 0 * k, none⟩ n (rows.length - 0) (cur.toList.take (n * k)) (by rw [y1, hks]; exact c1) (by
      intro j v hj
      rw [List.getElem?_take] at hj
      split at hj
      · rw [Addr.add_lit, show 0 * k + j = j by omega, cell_of_row w gg j cur e' (0, 0) e1]; rw [← Array.getElem?_toList]; exact hj
      · cases hj) kx N (by omega) (by omega) (by omega) (by unfold maxLen at hlt; omega) (by rw [y2]; exact hb) (by rw [y2]; exact Nat.le_trans (Nat.mul_le_mul (Nat.le_add_left N n) (Nat.le_refl ei.bytes)) (Nat.le_trans hb (by decide)))
    have hexec : ∀ v w', (Builtin.append_ #[t, t'] ty #[.slice (some ⟨gg, 0 * k, none⟩) n (rows.length - 0), .int kx (N : Int)]).run P w = .ok v w' →
        (execOp a.eval ⟨some d, .call { callee := .builtin .append, args := #[s, x], argTypes := #[t, t'] }, ty, pos, af, g⟩).run P w = .ok (.value v) w' := by
      intro v w' h
      rw [hAe] at f5
      simp only [execOp, resolve, invoke, builtin, List.map_toArray, List.map_cons, List.map_nil, f5, hX, Sem.run_bind, Sem.run_pure, Result.andThen_ok, h]
    refine wpList_of_step hw (.inl (hexec _ _ hrun)) (hn all ha w0 p _ _ ?_)
    have hge := grownCap_ge w (n + N) (rows.length - 0) e
    have hcm := grownCap_le_maxLen w (n + N) (rows.length - 0) e hlt
    generalize grownCap w (n + N) (rows.length - 0) e = cap at hge hcm ⊢
    have hzc : ∀ m, (Builtin.zeroCells ei.zero.cells m).toList = (List.replicate m ei.zero.cells.toList).flatten := zeroCells_flat
    have hsz : SzOne ((cur.toList.take (n * k)).toArray ++ Builtin.zeroCells ei.zero.cells N ++ Builtin.zeroCells ei.zero.cells (cap - (n + N))) (cap * k) := by
      refine ⟨?_, ?_⟩
      · simp only [Array.size_append, List.size_toArray, size_zeroCells, hzs, c1, hks, ← Nat.add_mul]
        congr 1; omega
      · intro v hv
        simp only [Array.toList_append, List.mem_append] at hv
        rcases hv with (hv | hv) | hv
        · exact c2 v (by simpa using hv)
        · exact zeroCells_one (fun v hv => List.all_eq_true.1 hz1 v hv) v hv
        · exact zeroCells_one (fun v hv => List.all_eq_true.1 hz1 v hv) v hv
    have hflat : ∀ st : Nat → Prop, (∀ g, stab p σ.heap ρ w g → st g) → ∀ cu, cu = (cur.toList.take (n * k)).toArray ++ Builtin.zeroCells ei.zero.cells N ++ Builtin.zeroCells ei.zero.cells (cap - (n + N)) →
        RR (w.drew.alloc (.cells cu e)) st k w.heap.size 0 (rows.take n ++ List.replicate N (ei.zero.cells.toList.map .sc)) := by
      intro st hst cu hcu
      have hc : ∀ g off, stab p σ.heap ρ w g → (w.drew.alloc (.cells cu e)).cell? ⟨g, off, none⟩ = w.cell? ⟨g, off, none⟩ := fun g off hg => World.cell?_alloc_lt w.drew _ ⟨g, off, none⟩ hg.2.1
      have hsh : ∀ g n, Sh w g n → Sh (w.drew.alloc (.cells cu e)) g n := fun g n hs => Sh_of_block (Below.heap_alloc w.drew _ g hs.lt) hs
      have hlr : (List.replicate N (ei.zero.cells.toList.map D.sc)).flatten = ((List.replicate N ei.zero.cells.toList).flatten).map D.sc := by
        rw [List.map_flatten, List.map_replicate]
      refine RR_of_flat (vs := cur.toList.take (n * k) ++ (List.replicate N ei.zero.cells.toList).flatten) (fun r hr => ?_) ?_ (fun v hv => ?_) (fun j v hj => ?_)
      · rcases List.mem_append.1 hr with h | h
        · exact c4 r h
        · obtain ⟨_, rfl⟩ := List.mem_replicate.1 h
          rw [List.length_map, Array.length_toList, hzs, hks]
      · rw [List.flatten_append, hlr]
        exact RL_app2 (RL.mono hc hsh hst c3) (RL_sc _)
      · rcases List.mem_append.1 hv with h | h
        · exact c2 v h
        · rw [← hzc] at h; exact zeroCells_one (fun v hv => List.all_eq_true.1 hz1 v hv) v h
      · rw [Nat.zero_add, World.cell?_alloc_at (w := w.drew) cu e w.heap.size j rfl, hcu]
        rw [← Array.getElem?_toList]
        simp only [Array.toList_append, hzc]
        rw [List.getElem?_append_left ?_]
        · simpa using hj
        · have := (List.getElem?_eq_some_iff.1 hj).1
          simpa using this
    have hnb := hr.drew.newBlock (ids := [d]) (o := d) (x := .row k (rows.take n ++ List.replicate N (ei.zero.cells.toList.map .sc))) (cur := (cur.toList.take (n * k)).toArray ++ Builtin.zeroCells ei.zero.cells N ++ Builtin.zeroCells ei.zero.cells (cap - (n + N))) (e := e) (by simp) hh (by simp) (fun st hst => by
      simp only [RO, updρ_same]
      exact ⟨_, e, cap, heap_alloc_new w.drew _, hsz, hcm, by rw [List.length_append, List.length_take, List.length_replicate]; omega, hflat st hst _ rfl⟩)
    refine ⟨_, hnb.put (some d) ?_⟩
    simp only [R, updρ_same]
    exact .inr ⟨w.heap.size, cap, some ⟨w.heap.size, 0, none⟩, rfl, ⟨_, e, heap_alloc_new w.drew _, hsz.size⟩, by omega, hcm, by simp, fun _ => by simp⟩
/-- The head of a row passes to another name. -/
theorem Imp.take (t d : Nat) {o k n : Nat} {rows : List (List D)} (ht : σ.slots[t]? = some (.slo o k 0 n)) (hrow : hget σ.heap o = .row k rows) (hnl : n ≤ rows.length) (hh : hfree σ.heap d = true) :
    Imp σ (St.put { σ.kills [o, d] with heap := hset (σ.kills [o, d]).heap d (.row k (rows.take n)) } (some t) (.slo d k 0 n)) := by
  rintro w0 p a w ⟨ρ, hr⟩
  have hT := hr.evl (.tmp t)
  have hev : evl σ (.tmp t) = .slo o k 0 n := by simp [evl, List.getD_eq_getElem?_getD, ht]
  rw [hev] at hT
  have ho := hr.objs o
  rw [hrow] at ho
  have hmv := hr.moved (d := d) (rows' := rows.take n) (w' := w) hrow hh (fun _ _ _ => rfl) (fun _ _ h => h) (Nat.le_refl _) rfl rfl rfl (fun st hst => by
    simp only [RO, updρ_same]
    cases hρ : ρ o with
    | none => simp only [RO, hρ] at ho
    | some z =>
      cases z with
      | none =>
        simp only [RO, hρ] at ho
        subst ho; simp
      | some gg =>
        simp only [RO, hρ] at ho
        obtain ⟨cur, e', cap, e1, e2, e3, e4, e5⟩ := ho
        exact ⟨cur, e', cap, e1, e2, e3, by rw [List.length_take]; omega, RR.mono (fun _ _ _ => rfl) (fun _ _ hh => hh) hst (fun _ => rfl) (RR_take n e5)⟩)
  have hput := hmv.put (some t) (v := a.eval (.tmp t)) (d := .slo d k 0 n) (by
    simp only [R, updρ_same] at hT ⊢
    exact hT)
  have hself : a.put (some t) (a.eval (.tmp t)) = a := by
    simp only [Act.put, Act.eval]
    congr 1
    apply Array.ext_getElem?
    intro j
    rw [Array.getElem?_setIfInBounds]
    split
    · rename_i h; subst h
      split
      · rename_i hlt; simp [hlt]
      · rename_i hlt; rw [Array.getElem?_eq_none (by omega)]
    · rfl
  rw [hself] at hput
  exact ⟨_, hput⟩
theorem RetOK.take {fn : Func} {ids : List Nat} {ret : D} {outs : List Obj} {e : Exit} (t d : Nat) {o k n : Nat} {rows : List (List D)} (ht : σ.slots[t]? = some (.slo o k 0 n)) (hrow : hget σ.heap o = .row k rows) (hnl : n ≤ rows.length) (hh : hfree σ.heap d = true)
    (he : St.put { σ.kills [o, d] with heap := hset (σ.kills [o, d]).heap d (.row k (rows.take n)) } (some t) (.slo d k 0 n) = σ') (h : RetOK P fn ids ret outs e σ') : RetOK P fn ids ret outs e σ := RetOK.imp (Imp.take t d ht hrow hnl hh) (he ▸ h)
theorem Tri.take {c : Code} (t d : Nat) {o k n : Nat} {rows : List (List D)} (ht : σ.slots[t]? = some (.slo o k 0 n)) (hrow : hget σ.heap o = .row k rows) (hnl : n ≤ rows.length) (hh : hfree σ.heap d = true)
    (he : St.put { σ.kills [o, d] with heap := hset (σ.kills [o, d]).heap d (.row k (rows.take n)) } (some t) (.slo d k 0 n) = σ') (h : Tri P c Q σ') : Tri P c Q σ := Tri.imp (Imp.take t d ht hrow hnl hh) (he ▸ h)
/-- A call that is handed the objects that its arguments name; what is new gets the name of the slot. -/
theorem TriD.callI {f : FuncId} {x : Operand} {xs : Array Operand} {ts : Array TypeId} {caps args : List D} {objs : List Obj} {ret : D} {outs : List Obj} {ins : List Nat} (new : List Nat)
    (hg : aguardC ds g σ = some true) (hx : evl σ x = .fn f caps) (hi : dedupN [] (nmsL (xs.toList.map (evl σ) ++ caps)) = ins) (hc : MCalls P f objs args ret outs)
    (hargs : renL ins (xs.toList.map (evl σ) ++ caps) = some args) (hobjs : renOs σ (renL ins) ins = some objs)
    (hn : (ins ++ new).Nodup) (hlen : (ins ++ new).length = outs.length) (hh : (ins ++ new).all (hhas σ.heap) = true) (hnew : new.all (fun o => decide (o < 1000)) = true) (hlt : ltD outs.length ret = true) (hlo : outs.all (ltO outs.length) = true)
    (he : σ.imp_ dst ins new ret outs = σ') (hnext : TriD P ds Q l σ') : TriD P ds Q (⟨dst, .call { callee := .value x, args := xs, argTypes := ts }, ty, pos, af, g⟩ :: l) σ :=
  TriD.callE ins new hg hx hc hargs hobjs hn hlen hh hnew hlt hlo he hnext
end
section
variable {P : Program} {ds : List (Option Nat)} {Q : Exit → St → Prop} {σ : St} {l : List Oper} {dst : Option Nat} {ty : TypeId} {pos : String} {af : Array Edge} {g : Option (Nat × Bool)} {x y : Operand} {lo hi : Option Operand} {t : TypeId} {xs : Array Operand} {ts : Array TypeId}
theorem isCap (h : TriD P ds Q (⟨dst, .call { callee := .builtin .cap, args := xs, argTypes := ts }, ty, pos, af, g⟩ :: l) σ) : TriD P ds Q (⟨dst, .call { callee := .builtin .cap, args := xs, argTypes := ts }, ty, pos, af, g⟩ :: l) σ := h
theorem isSlice (h : TriD P ds Q (⟨dst, .slice t x lo hi none, ty, pos, af, g⟩ :: l) σ) : TriD P ds Q (⟨dst, .slice t x lo hi none, ty, pos, af, g⟩ :: l) σ := h
theorem isSlice3 (h : TriD P ds Q (⟨dst, .slice t x lo hi (some y), ty, pos, af, g⟩ :: l) σ) : TriD P ds Q (⟨dst, .slice t x lo hi (some y), ty, pos, af, g⟩ :: l) σ := h
theorem isNextsT {P : Program} {ops : Array Oper} {ds : List (Option Nat)} {K : St → Prop} {fuel : Nat} {listed : Array Bool} {σ : St} {rs : List Nat} (h : NextsT P ops ds K fuel listed σ rs) : NextsT P ops ds K fuel listed σ rs := h
theorem isDrawnN (n : Nat) {a : Array Oper} (h : Tri P (.region n a true) Q σ) : Tri P (.region n a true) Q σ := h
end
section
variable {P : Program} {ds : List (Option Nat)} {Q : Exit → St → Prop} {σ σ' : St} {l : List Oper} {dst : Option Nat} {ty : TypeId} {pos : String} {af : Array Edge} {g : Option (Nat × Bool)}
theorem slo_addr {w0 : World} {p : Pm} {a : Act} {w : World} {ρ : Nat → Option (Option Nat)} (h : RelAt w0 p σ a w ρ) {x : Operand} {q k off len : Nat} {rows : List (List D)} (hx : evl σ x = .slo q k off len) (hq : hget σ.heap q = .row k rows) (hk : 0 < k) (hr : off < rows.length) :
    ∃ g cur e A c, ρ q = some (some g) ∧ w.heap[g]? = some (.cells cur e (0, 0)) ∧ 0 < cur.size ∧ A = (⟨g, off * k, none⟩ : Addr) ∧ a.eval x = .slice (some A) len c := by
  have ho := h.objs q
  rw [hq] at ho
  have h1 := h.evl x
  rw [hx] at h1
  simp only [R] at h1
  cases hρ : ρ q with
  | none => simp only [RO, hρ] at ho
  | some z =>
    cases z with
    | none => simp only [RO, hρ] at ho; subst ho; simp at hr
    | some gg =>
      simp only [RO, hρ] at ho
      obtain ⟨cur, e', cap, e1, e2, e3, e4, e5⟩ := ho
      rcases h1 with ⟨f1, _⟩ | ⟨g', cap', A, f1, f2, f3, f4, f5, f6⟩
      · rw [hρ] at f1; simp at f1
      · rw [hρ] at f1
        simp only [Option.some.injEq] at f1
        subst f1
        obtain ⟨cur2, e6, f7, f8⟩ := f2
        rw [e1] at f7
        simp only [Option.some.injEq, Obj.cells.injEq] at f7
        obtain ⟨rfl, _⟩ := f7
        have hcc : cap' = cap := Nat.eq_of_mul_eq_mul_right hk (f8.symm.trans e2.size)
        subst hcc
        have hpos : 0 < cur.size := by rw [e2.size]; exact Nat.mul_pos (by omega) hk
        exact ⟨gg, cur, e', _, _, rfl, e1, hpos, rfl, by rw [f5, f6 (by omega)]⟩
/-- slices.overlaps of two rows of one's own. -/
theorem TriD.overlaps {x y : Operand} {ts : Array TypeId} {f : FuncId} {fn : Func} {t e tR : TypeId} {ti ei : TI} {q q' k off off' len len' : Nat} {rows rows' : List (List D)} (hg : aguardC ds g σ = some true) (hf : P.funcs[f]? = some fn) (hname : (fn.name == "runtime.NumGoroutine") = false) (hb : fn.body.isNone = true) (hn : Extern.findNext fn = none)
    (he : Extern.find fn = some (Extern.SlicesOverlaps.overlaps #[t, t] #[tR])) (ht : tiGet P t = some ti) (hk : ti.kind.elem? = some e) (het : tiGet P e = some ei) (hx : evl σ x = .slo q k off len) (hk0 : 0 < k) (hy : evl σ y = .slo q' k off' len') (hne : q ≠ q') (hq : hget σ.heap q = .row k rows) (hq' : hget σ.heap q' = .row k rows') (h1 : off < rows.length) (h2 : off' < rows'.length)
    (hnext : TriD P ds Q l (σ.put dst (.sc (.bool false)))) : TriD P ds Q (⟨dst, .call { callee := .value (.func f), args := #[x, y], argTypes := ts }, ty, pos, af, g⟩ :: l) σ := by
  intro all ha w0 p a w hr
  have hw := aguard_wanted (all := all) (o := ⟨dst, .call { callee := .value (.func f), args := #[x, y], argTypes := ts }, ty, pos, af, g⟩) (by rw [aguard_C ha]; exact hg) hr
  obtain ⟨ρ, hr⟩ := hr
  obtain ⟨b1, c1, e1, A1, k1, r1, r2, r3, r4, r5⟩ := slo_addr hr hx hq hk0 h1
  obtain ⟨b2, c2, e2, A2, k2, s1, s2, s3, s4, s5⟩ := slo_addr hr hy hq' hk0 h2
  subst r4 s4
  have hbb : b1 ≠ b2 := fun e => hne (hr.inj q q' b1 (by rw [hq]; simp) (by rw [hq']; simp) r1 (by rw [s1, e]))
  have hu := slice_of_ti ht hk
  have hsz : ∀ w, (sizeOf e).run P w = .ok ei.size w := fun w => (run_ti het w).2.1
  have hov := Lib.run_overlaps_apart (P := P) w t tR e hu ei.size hsz ⟨b1, off * k, none⟩ ⟨b2, off' * k, none⟩ len k1 len' k2 hbb e1 e2 c1.size c2.size (by simp [World.shape?, r2]) (by simp [World.shape?, s2]) (by omega) (by simp [World.frozen?, r2]) (by simp [World.frozen?, r2])
  have hexec : (execOp a.eval ⟨dst, .call { callee := .value (.func f), args := #[x, y], argTypes := ts }, ty, pos, af, g⟩).run P w = .ok (.value (.bool false)) w := by
    have hev : a.eval (.func f) = .func (.func f) #[] #[] := rfl
    have h0 : (execOp a.eval ⟨dst, .call { callee := .value (.func f), args := #[x, y], argTypes := ts }, ty, pos, af, g⟩).run P w = (callFunc f #[a.eval x, a.eval y]).run P w := by
      simp [execOp, resolve, invoke, hev, Deferred.ofValue]
    rw [h0, run_callFunc_extern hf hname hb hn he, r5, s5, hov]
    rfl
  exact wpList_of_step hw (.inl hexec) (hnext all ha w0 p _ _ ⟨ρ, hr.put dst (by simp [R])⟩)
end
theorem del_rows {α : Type} (rows : List α) {i j : Nat} (hij : i ≤ j) (hj : j ≤ rows.length) (W Z V : List α) : List.take (i + (rows.length - j)) (List.take (i + (rows.length - j)) (List.take i rows ++ List.drop j rows ++ W) ++ Z ++ V) = List.take i rows ++ List.drop j rows := by
  have h1 : i + (rows.length - j) = (List.take i rows ++ List.drop j rows).length := by simp; omega
  rw [h1, List.take_left, List.append_assoc, List.take_left]
theorem ins_rowsA {α : Type} (rows xs Z R : List α) {i K : Nat} (hi : i ≤ rows.length) (hR : R.length = rows.length + xs.length - i) (hK : K = rows.length + xs.length) :
    List.take (i + xs.length) (List.take i (List.take i (rows ++ Z) ++ R) ++ xs ++ List.drop (i + xs.length) (List.take i (rows ++ Z) ++ R)) ++ List.take (rows.length - i) (List.take (rows.length - i) (List.drop i (rows ++ Z))) ++
      List.drop K (List.take i (List.take i (rows ++ Z) ++ R) ++ xs ++ List.drop (i + xs.length) (List.take i (rows ++ Z) ++ R)) = List.take i rows ++ xs ++ List.drop i rows := by
  have h1 : List.take i (rows ++ Z) = List.take i rows := List.take_append_of_le_length hi
  have h2 : (List.take i rows).length = i := by rw [List.length_take]; omega
  have h3 : List.take i (List.take i rows ++ R) = List.take i rows := List.take_left' h2
  have h4 : List.drop i (rows ++ Z) = List.drop i rows ++ Z := List.drop_append_of_le_length hi
  have h5 : (List.drop i rows).length = rows.length - i := List.length_drop
  have h6 : List.take (rows.length - i) (List.drop i rows ++ Z) = List.drop i rows := List.take_left' h5
  have h7 : List.take (rows.length - i) (List.drop i rows) = List.drop i rows := List.take_of_length_le (by omega)
  rw [h1, h3, h4, h6, h7]
  have h8 : (List.take i rows ++ xs).length = i + xs.length := by rw [List.length_append, h2]
  rw [List.take_left' h8, List.drop_of_length_le (i := K) (by rw [List.length_append, h8, List.length_drop, List.length_append, h2, hR]; omega), List.append_nil]
theorem ins_rowsB {α : Type} (rows xs Z : List α) {i : Nat} (hi : i ≤ rows.length) (hz : xs.length ≤ Z.length) :
    List.take (rows.length + xs.length) (List.take i (List.take (i + xs.length) (rows ++ Z) ++ List.take (rows.length + xs.length - (i + xs.length)) (List.take (rows.length + xs.length - i) (List.drop i (rows ++ Z))) ++ List.drop (i + xs.length + (rows.length + xs.length - (i + xs.length))) (rows ++ Z)) ++ xs ++
      List.drop (i + xs.length) (List.take (i + xs.length) (rows ++ Z) ++ List.take (rows.length + xs.length - (i + xs.length)) (List.take (rows.length + xs.length - i) (List.drop i (rows ++ Z))) ++ List.drop (i + xs.length + (rows.length + xs.length - (i + xs.length))) (rows ++ Z))) = List.take i rows ++ xs ++ List.drop i rows := by
  have h1 : List.take i (rows ++ Z) = List.take i rows := List.take_append_of_le_length hi
  have h2 : (List.take i rows).length = i := by rw [List.length_take]; omega
  have h4 : List.drop i (rows ++ Z) = List.drop i rows ++ Z := List.drop_append_of_le_length hi
  have h5 : (List.drop i rows).length = rows.length - i := List.length_drop
  have h9 : (List.take (i + xs.length) (rows ++ Z)).length = i + xs.length := by rw [List.length_take, List.length_append]; omega
  have hT : List.take (rows.length + xs.length - (i + xs.length)) (List.take (rows.length + xs.length - i) (List.drop i (rows ++ Z))) = List.drop i rows := by
    rw [List.take_take, h4, show min (rows.length + xs.length - (i + xs.length)) (rows.length + xs.length - i) = rows.length - i by omega]
    exact List.take_left' h5
  rw [hT, List.append_assoc (List.take (i + xs.length) (rows ++ Z)), List.take_append_of_le_length (l₁ := List.take (i + xs.length) (rows ++ Z)) (by omega), List.take_take, Nat.min_eq_left (by omega), h1, List.drop_left' h9, ← List.append_assoc]
  exact List.take_left' (by simp only [List.length_append, h2, h5]; omega)
/-! Structs compared. -/
section
variable {P : Program}
theorem pureRun_program : pureRun P program = some P := rfl
theorem pureRun_equalIn_struct {d : Nat} {t : TypeId} {fs : Array Field} {xs ys : Array Value} (ht : P.underlying t = some (.struct fs)) (hp : P.stoodInHeld t = false) :
    pureRun P (Op.equalIn (d + 1) t (.agg xs) (.agg ys)) = pureRun P (Op.eqFields d xs ys fs.toList) := by
  simp only [Op.equalIn, pureRun_bind, pureRun_underlying ht, pureRun_program, Option.bind_some, hp, Bool.false_eq_true, if_false]
  rw [← Array.forIn_toList]
  generalize fs.toList = l
  clear ht
  induction l with
  | nil => simp [Op.eqFields, pureRun_pure]
  | cons f l ih =>
    rw [List.forIn_cons]
    simp only [Op.eqFields, pureRun_bind]
    by_cases hf : f.name ≠ "_"
    · rcases h1 : pureRun P (part f.type xs f.offset) with _ | a
      · simp [hf, pureRun_bind, h1]
      · rcases h2 : pureRun P (part f.type ys f.offset) with _ | b
        · simp [hf, pureRun_bind, h1, h2]
        · rcases h3 : pureRun P (Op.equalIn d f.type a b) with _ | r
          · simp [hf, pureRun_bind, h1, h2, h3]
          · cases r
            · simp [hf, pureRun_bind, h1, h2, h3, pureRun_pure]
            · simp only [hf, ne_eq, not_false_eq_true, if_true, pureRun_bind, h1, h2, h3, Option.bind_some, Bool.not_true, Bool.false_eq_true, if_false, pureRun_pure]
              simpa [pureRun_bind] using ih
    · simp only [hf, if_false, pureRun_pure, Option.bind_some]
      simpa [pureRun_bind] using ih
theorem pureRun_equalIn_int {d : Nat} {t : TypeId} {k k' : IntKind} {a b : Int} (h : P.underlying t = some (.int k')) : pureRun P (Op.equalIn (d + 1) t (.int k a) (.int k b)) = some (a == b) := by
  simp [Op.equalIn, pureRun_bind, pureRun_underlying h, pureRun_pure]
theorem pureRun_equalIn_bool {d : Nat} {t : TypeId} {a b : Bool} (h : P.underlying t = some .bool) : pureRun P (Op.equalIn (d + 1) t (.bool a) (.bool b)) = some (a == b) := by
  simp [Op.equalIn, pureRun_bind, pureRun_underlying h, pureRun_pure]
theorem pureRun_equalIn_string {d : Nat} {t : TypeId} {a b : ByteArray} (h : P.underlying t = some .string) : pureRun P (Op.equalIn (d + 1) t (.string a) (.string b)) = some (a.toList == b.toList) := by
  simp [Op.equalIn, pureRun_bind, pureRun_underlying h, pureRun_pure, beq_toListBytes]
theorem pureRun_part {t : TypeId} {d : TypeDesc} {vs : Array Value} {off : Nat} {v : Value} (h : P.underlying t = some d) (ha : (match d with | .struct _ | .array _ _ => true | _ => false) = false) (hv : vs[off]? = some v) : pureRun P (part t vs off) = some v := by
  unfold part
  simp only [isAgg, pureRun_bind, pureRun_underlying h, Option.bind_some]
  cases d <;> simp_all [pureRun_pure]
theorem binV_agg {t : TypeId} {fs : Array Field} {x y : Operand} {xs ys : Array Value} {b : Bool} (ht : P.underlying t = some (.struct fs)) (hp : P.stoodInHeld t = false) (hm : P.eqGuardType P.depth t = false) (h : pureRun P (Op.eqFields 9999 xs ys fs.toList) = some b) :
    binV P .eql t x y (.agg xs) (.agg ys) = some (.bool b) ∧ binV P .neq t x y (.agg xs) (.agg ys) = some (.bool !b) := by
  have hg : ∀ op, pureRun P (eqGuard op t x y (.agg xs) (.agg ys)) = some () := by
    intro op
    cases op <;> simp [eqGuard, pureRun_bind, pureRun_program, hm, pureRun_pure]
  have he : pureRun P (Op.equal t (.agg xs) (.agg ys)) = some b := by
    show pureRun P (Op.equalIn (9999 + 1) t (.agg xs) (.agg ys)) = _
    rw [pureRun_equalIn_struct ht hp, h]
  have h1 : Go.binOp .eql t (.agg xs) (.agg ys) = (do let r ← Op.equal t (.agg xs) (.agg ys); pure (.bool r)) := rfl
  have h2 : Go.binOp .neq t (.agg xs) (.agg ys) = (do let r ← Op.equal t (.agg xs) (.agg ys); pure (.bool !r)) := rfl
  constructor
  · show pureRun P (do eqGuard .eql t x y (.agg xs) (.agg ys); Go.binOp .eql t (.agg xs) (.agg ys)) = _
    rw [pureRun_bind, hg, Option.bind_some, h1, pureRun_bind, he]; rfl
  · show pureRun P (do eqGuard .neq t x y (.agg xs) (.agg ys); Go.binOp .neq t (.agg xs) (.agg ys)) = _
    rw [pureRun_bind, hg, Option.bind_some, h2, pureRun_bind, he]; rfl
theorem eqFields_cons {d : Nat} {xs ys : Array Value} {f : Field} {fs : List Field} {a b : Value} {r : Bool} (hn : f.name ≠ "_") (ha : pureRun P (part f.type xs f.offset) = some a) (hb : pureRun P (part f.type ys f.offset) = some b) (he : pureRun P (Op.equalIn d f.type a b) = some r)
    {s : Bool} (h : pureRun P (Op.eqFields d xs ys fs) = some s) : pureRun P (Op.eqFields d xs ys (f :: fs)) = some (r && s) := by
  simp only [Op.eqFields, hn, ne_eq, not_false_eq_true, if_true, pureRun_bind, ha, hb, he, Option.bind_some]
  cases r
  · simp [pureRun_pure]
  · simpa using h
theorem eqFields_nil {d : Nat} {xs ys : Array Value} : pureRun P (Op.eqFields d xs ys []) = some true := rfl
end
attribute [go_sem] Nat.sub_zero hfOp Option.isNone_none Option.isNone_some
end Go.Avm
