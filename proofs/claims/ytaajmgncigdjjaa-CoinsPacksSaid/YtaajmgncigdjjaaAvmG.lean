/- The abstract machine, part G: calls in a list of operations; from a body to a contract; states that say less. -/
import Derived.Test.YtaajmgncigdjjaaAvmF
namespace Go.Avm
open Go.RowKit

def mapO {α β : Type} (f : α → Option β) : List α → Option (List β)
  | [] => some []
  | x :: xs => (f x).bind fun y => (mapO f xs).map fun ys => y :: ys

/-- What reads so now, by value. -/
def snapD (σ : St) : Nat → D → Option D
  | 0, _ => none
  | n + 1, d => match d with
    | .sc v => some (.sc v)
    | .sl k rows => some (.sl k rows)
    | .ro cs => some (.ro cs)
    | .agg cs => (mapO (snapD σ n) cs).map .agg
    | .tup cs => (mapO (snapD σ n) cs).map .tup
    | .fn f cs => (mapO (snapD σ n) cs).map (.fn f)
    | .ref o off => match hget σ.heap o with
      | .box cs => if (cs.drop off).all oneD then (mapO (snapD σ n) (cs.drop off)).map .ro else none
      | _ => none
    | .elt o k i off => match hget σ.heap o with
      | .row k' rows => if k = k' then (rows[i]?).map (fun r => .ro (r.drop off)) else none
      | _ => none
    | .slo o k off len => match hget σ.heap o with
      | .row k' rows => if k = k' ∧ off + len ≤ rows.length then some (.sl k ((rows.drop off).take len)) else none
      | _ => none
    | .any => none

section
variable {w0 : World} {p : Nat → Prop} {σ : St} {a : Act} {w : World} {ρ : Nat → Option (Option Nat)}
def stA (p : Nat → Prop) (w : World) (g : Nat) : Prop := p g ∧ g < w.heap.size
theorem snapL_spec {n : Nat} (ih : ∀ d d' v, snapD σ n d = some d' → R w (stab p σ.heap ρ w) ρ d v → R w (stA p w) (fun _ => none) d' v) : ∀ {ds ds' : List D} {vs : List Value}, mapO (snapD σ n) ds = some ds' →
    RL w (stab p σ.heap ρ w) ρ ds vs → RL w (stA p w) (fun _ => none) ds' vs
  | [], _, _, h, hr => by
    simp only [mapO, Option.some.injEq] at h
    subst h
    simpa [RL] using hr
  | d :: ds, _, _, h, hr => by
    simp only [mapO, Option.bind_eq_some_iff, Option.map_eq_some_iff] at h
    obtain ⟨d', h1, ds', h2, rfl⟩ := h
    simp only [RL] at hr ⊢
    obtain ⟨v, vs', h3, h4, h5⟩ := hr
    exact ⟨v, vs', h3, ih d d' v h1 h4, snapL_spec ih h2 h5⟩
theorem RC_of_list {st : Nat → Prop} {g : Nat} : ∀ {cs : List D} {vs : List Value} {off : Nat}, RL w st (fun _ => none) cs vs → (∀ v ∈ vs, v.oneCell' = true) → (∀ j v, vs[j]? = some v → w.cell? ⟨g, off + j, none⟩ = some v) → RC w st g off cs
  | [], _, _, _, _, _ => by simp [RC]
  | c :: cs, _, off, h, h1, h2 => by
    simp only [RL] at h
    obtain ⟨v, vs', rfl, h3, h4⟩ := h
    simp only [RC]
    refine ⟨⟨v, by simpa using h2 0 v (by simp), h1 v (by simp), h3⟩, RC_of_list h4 (fun u hu => h1 u (by simp [hu])) (fun j u hj => ?_)⟩
    have := h2 (j + 1) u (by simpa using hj)
    rwa [show off + 1 + j = off + (j + 1) by omega]
theorem stA_of (g : Nat) (h : stab p σ.heap ρ w g) : stA p w g := ⟨h.1, h.2.1⟩
theorem snap_spec (h : RelAt w0 p σ a w ρ) : ∀ n d d' v, snapD σ n d = some d' → R w (stab p σ.heap ρ w) ρ d v → R w (stA p w) (fun _ => none) d' v := by
  intro n
  induction n with
  | zero => intro d d' v hd; simp [snapD] at hd
  | succ n ih =>
    intro d d' v hd hr
    have live : ∀ o g, hget σ.heap o ≠ .dead → ρ o = some (some g) → stA p w g := fun o g h1 h2 => ⟨h.open_ g (h.fresh o g h1 h2), (h.objs o).lt h1 h2⟩
    cases d with
    | any => simp [snapD] at hd
    | sc u => simp only [snapD, Option.some.injEq] at hd; subst hd; simpa [R] using hr
    | sl k rows =>
      simp only [snapD, Option.some.injEq] at hd
      subst hd
      have := R.mono (ρ := ρ) (st' := stA p w) (fun _ _ _ => rfl) (fun _ _ hh => hh) stA_of hr
      simpa [R] using this
    | ro cs =>
      simp only [snapD, Option.some.injEq] at hd
      subst hd
      have := R.mono (ρ := ρ) (st' := stA p w) (fun _ _ _ => rfl) (fun _ _ hh => hh) stA_of hr
      simpa [R] using this
    | agg cs =>
      simp only [snapD, Option.map_eq_some_iff] at hd
      obtain ⟨cs', h1, rfl⟩ := hd
      simp only [R] at hr ⊢
      obtain ⟨vs, h2, h3⟩ := hr
      exact ⟨vs, h2, snapL_spec ih h1 h3⟩
    | tup cs =>
      simp only [snapD, Option.map_eq_some_iff] at hd
      obtain ⟨cs', h1, rfl⟩ := hd
      simp only [R] at hr ⊢
      obtain ⟨vs, h2, h3⟩ := hr
      exact ⟨vs, h2, snapL_spec ih h1 h3⟩
    | fn f cs =>
      simp only [snapD, Option.map_eq_some_iff] at hd
      obtain ⟨cs', h1, rfl⟩ := hd
      simp only [R] at hr ⊢
      obtain ⟨vs, h2, h3⟩ := hr
      exact ⟨vs, h2, snapL_spec ih h1 h3⟩
    | ref o off =>
      simp only [snapD] at hd
      split at hd
      · rename_i cs hg
        split at hd
        · rename_i hone
          simp only [Option.map_eq_some_iff] at hd
          obtain ⟨cs', h1, rfl⟩ := hd
          have hb := h.objs o
          rw [hg] at hb
          simp only [RO] at hb
          obtain ⟨g, cur, e, h2, h3, h4⟩ := hb
          simp only [R] at hr ⊢
          obtain ⟨g', h5, h6⟩ := hr
          rw [h2] at h5
          simp only [Option.some.injEq] at h5
          subst h5
          have h7 := RL_drop off h4
          refine ⟨g, off, h6, live o g (by rw [hg]; simp) h2, RC_of_list (snapL_spec ih h1 h7) (RL_one hone h7) (fun j u hj => ?_)⟩
          rw [cell_of_row w g (off + j) cur e (0, 0) h3, ← Array.getElem?_toList]
          rw [List.getElem?_drop] at hj
          exact hj
        · cases hd
      · cases hd
    | elt o k i off =>
      simp only [snapD] at hd
      split at hd
      · rename_i k' rows hg
        split at hd
        · rename_i hk
          subst hk
          rw [Option.map_eq_some_iff] at hd
          obtain ⟨r, h1, rfl⟩ := hd
          have hb := h.objs o
          rw [hg] at hb
          simp only [R] at hr ⊢
          obtain ⟨g, h2, h3⟩ := hr
          simp only [RO, h2] at hb
          obtain ⟨cur, e, cap, _, _, _, _, h7⟩ := hb
          have h8 := RC_drop off (RR_get h7 h1).2
          refine ⟨g, i * k + off, h3, live o g (by rw [hg]; simp) h2, ?_⟩
          rw [Nat.zero_add] at h8
          exact RC.mono (fun _ _ _ => rfl) (fun _ _ hh => hh) stA_of (fun _ => rfl) h8
        · cases hd
      · cases hd
    | slo o k off len =>
      simp only [snapD] at hd
      split at hd
      · rename_i k' rows hg
        split at hd
        · rename_i hk
          obtain ⟨rfl, hle⟩ := hk
          simp only [Option.some.injEq] at hd
          subst hd
          have hb := h.objs o
          rw [hg] at hb
          have hl : ((rows.drop off).take len).length = len := by rw [List.length_take, List.length_drop]; omega
          simp only [R] at hr ⊢
          rcases hr with ⟨e1, rfl, rfl, A, e4⟩ | ⟨g, cap, A, e1, e2, e3, e4, e5, e6⟩
          · exact ⟨A, 0, by rw [hl]; exact e4, by rw [hl]; omega, by unfold maxLen; omega, .inl (by simp)⟩
          · refine ⟨A, cap - off, by rw [hl]; exact e5, by rw [hl]; omega, by omega, ?_⟩
            by_cases hz : len = 0
            · left; simp [hz]
            · right
              simp only [RO, e1] at hb
              obtain ⟨cur, e, cap', _, _, _, _, h7⟩ := hb
              refine ⟨g, off * k, e6 (by omega), live o g (by rw [hg]; simp) e1, ?_⟩
              have := RR_take len (RR_drop off h7)
              rw [Nat.zero_add] at this
              exact RR.mono (fun _ _ _ => rfl) (fun _ _ hh => hh) stA_of (fun _ => rfl) this
        · cases hd
      · cases hd
end

section
variable {P : Program} {all : Array Oper} {Q : Exit → St → Prop} {σ σ' : St} {o : Oper} {rest : List Oper}

theorem RL_map_eval {w0 : World} {p : Nat → Prop} {a : Act} {w : World} {ρ : Nat → Option (Option Nat)} (h : RelAt w0 p σ a w ρ) : ∀ l : List Operand, RL w (stab p σ.heap ρ w) ρ (l.map (evl σ)) (l.map a.eval)
  | [] => by simp [RL]
  | x :: l => by simp only [List.map_cons, RL]; exact ⟨_, _, rfl, h.evl x, RL_map_eval h l⟩

theorem wpList_of_call {f : FuncId} {as : Array Value} {a : Act} {w : World} {Q' : Exit → Act → World → Prop} {R' : Value → World → Prop} (hw : Region.wanted o (yielded all a.tmps) = true)
    (h : (execOp a.eval o).run P w = .ok (.enter f as) w) (hc : Calls P f as w fun e w' => ∃ v, e = .returned v ∧ R' v w') (hn : ∀ v w', R' v w' → wpList P all Q' rest (a.put o.dst v) w') : wpList P all Q' (o :: rest) a w := by
  unfold wpList
  rw [if_pos hw]
  left
  unfold Oper.wp
  rw [h, Oper.upon_enter]
  refine hc.mono ?_
  rintro e w' ⟨v, rfl, hr⟩
  exact hn v w' hr

theorem run_call {a : Act} {w : World} {f : FuncId} {x : Operand} {xs : Array Operand} {ts : Array TypeId} {vs : Array Value} (ho : o.op = .call { callee := .value x, args := xs, argTypes := ts }) (hx : a.eval x = .func (.func f) #[] vs)
    (hc : ∀ as w, (callFunc f as).run P w = .ok (.enter f as) w) : (execOp a.eval o).run P w = .ok (.enter f (xs.map a.eval ++ vs)) w := by
  simp [execOp, ho, resolve, hx, Deferred.ofValue, invoke, hc]

/-- A call whose arguments are plain data. -/
theorem TriL.callG {f : FuncId} {x : Operand} {xs : Array Operand} {ts : Array TypeId} {caps args : List D} {ret : D} {objs : List (Nat × List (List D))} (ids : List Nat)
    (hw : ∀ w0 p a w, Rel w0 p σ a w → Region.wanted o (yielded all a.tmps) = true)
    (ho : o.op = .call { callee := .value x, args := xs, argTypes := ts }) (hx : evl σ x = .fn f caps) (hc : ACalls P f args ret objs)
    (hargs : (pureL (xs.toList.map (evl σ) ++ caps) = true ∧ xs.toList.map (evl σ) ++ caps = args) ∨ (mapO (snapD σ 4) (xs.toList.map (evl σ) ++ caps) = some args ∧ Flat ret objs))
    (hn : ids.Nodup) (hlen : ids.length = objs.length) (hh : ids.all (hhas σ.heap) = true) (hlt : ltD objs.length ret = true)
    (hnext : TriL P all Q rest (σ.imp_ o.dst ids ret objs)) : TriL P all Q (o :: rest) σ := by
  rintro w0 p a w ⟨ρ, hr⟩
  have hx' := hr.evl x
  rw [hx] at hx'
  simp only [R] at hx'
  obtain ⟨vs, hf, hcaps⟩ := hx'
  have hrun := run_call (P := P) (w := w) ho hf hc.1
  have hall := RL_append (RL_map_eval hr xs.toList) hcaps
  have has : (xs.map a.eval ++ vs) = (xs.toList.map a.eval ++ vs.toList).toArray := by
    apply Array.toList_inj.1; simp
  rw [has] at hrun
  have hh' : ∀ o ∈ ids, hhas σ.heap o = true := fun o ho => by simpa using List.all_eq_true.1 hh o ho
  rcases hargs with ⟨hp, rfl⟩ | ⟨hs, hflat⟩
  · refine wpList_of_call (hw w0 p a w ⟨ρ, hr⟩) hrun (hc.2 w (stab p σ.heap ρ w) _ (fun g hg => hg.2.1) (pureL_spec hp hall)) (fun v w' hv => hnext w0 p _ _ ?_)
    exact hr.call hv hn hlen hh' hlt (.inl fun g hg => hg)
  · refine wpList_of_call (hw w0 p a w ⟨ρ, hr⟩) hrun (hc.2 w (stA p w) _ (fun g hg => hg.2) (snapL_spec (snap_spec hr 4) hs hall)) (fun v w' hv => hnext w0 p _ _ ?_)
    exact hr.call hv hn hlen hh' hlt (.inr hflat)
theorem TriL.call {f : FuncId} {x : Operand} {xs : Array Operand} {ts : Array TypeId} {caps args : List D} {ret : D} {objs : List (Nat × List (List D))} (ids : List Nat)
    (hg : o.guard = none) (ho : o.op = .call { callee := .value x, args := xs, argTypes := ts }) (hx : evl σ x = .fn f caps) (hc : ACalls P f args ret objs)
    (hargs : (pureL (xs.toList.map (evl σ) ++ caps) = true ∧ xs.toList.map (evl σ) ++ caps = args) ∨ (mapO (snapD σ 4) (xs.toList.map (evl σ) ++ caps) = some args ∧ Flat ret objs))
    (hn : ids.Nodup) (hlen : ids.length = objs.length) (hh : ids.all (hhas σ.heap) = true) (hlt : ltD objs.length ret = true)
    (hnext : TriL P all Q rest (σ.imp_ o.dst ids ret objs)) : TriL P all Q (o :: rest) σ :=
  TriL.callG ids (fun _ _ _ _ _ => by simp [Region.wanted, hg]) ho hx hc hargs hn hlen hh hlt hnext
theorem TriL.callIf {j t : Nat} {want : Bool} {f : FuncId} {x : Operand} {xs : Array Operand} {ts : Array TypeId} {caps args : List D} {ret : D} {objs : List (Nat × List (List D))} (ids : List Nat)
    (hg : o.guard = some (j, want)) (hj : (all[j]?).bind (·.dst) = some t) (hb : σ.slots.getD t .any = .sc (.bool want))
    (ho : o.op = .call { callee := .value x, args := xs, argTypes := ts }) (hx : evl σ x = .fn f caps) (hc : ACalls P f args ret objs)
    (hargs : (pureL (xs.toList.map (evl σ) ++ caps) = true ∧ xs.toList.map (evl σ) ++ caps = args) ∨ (mapO (snapD σ 4) (xs.toList.map (evl σ) ++ caps) = some args ∧ Flat ret objs))
    (hn : ids.Nodup) (hlen : ids.length = objs.length) (hh : ids.all (hhas σ.heap) = true) (hlt : ltD objs.length ret = true)
    (hnext : TriL P all Q rest (σ.imp_ o.dst ids ret objs)) : TriL P all Q (o :: rest) σ :=
  TriL.callG ids (fun w0 p a w hr => by simp [Region.wanted, hg, yielded_of hr hj hb]) ho hx hc hargs hn hlen hh hlt hnext
end

/-! From a body to a contract. -/
def heap0 (keys : List Nat) : List (Nat × Obj) := keys.map fun k => (k, .dead)
theorem hget_heap0 (keys : List Nat) (o : Nat) : hget (heap0 keys) o = .dead := by
  induction keys with
  | nil => rfl
  | cons k ks ih => simp only [heap0, List.map_cons, hget]; split <;> first | rfl | exact ih

mutual
/-- The names of a result told by their places in a list. -/
def renD (ids : List Nat) : D → Option D
  | .ref o off => if o ∈ ids then some (.ref (ids.idxOf o) off) else none
  | .elt o k i off => if o ∈ ids then some (.elt (ids.idxOf o) k i off) else none
  | .slo o k off len => if o ∈ ids then some (.slo (ids.idxOf o) k off len) else none
  | .agg cs => (renL ids cs).map .agg
  | .tup cs => (renL ids cs).map .tup
  | .fn f cs => (renL ids cs).map (.fn f)
  | .any => some .any
  | .sc v => some (.sc v)
  | .sl k rows => some (.sl k rows)
  | .ro cs => some (.ro cs)
def renL (ids : List Nat) : List D → Option (List D)
  | [] => some []
  | d :: ds => (renD ids d).bind fun x => (renL ids ds).map fun xs => x :: xs
end
mutual
theorem R.ren {w : World} {st : Nat → Prop} {ρ ρ' : Nat → Option (Option Nat)} {ids : List Nat} (h : ∀ o, o ∈ ids → ρ' (ids.idxOf o) = ρ o) : ∀ {d d' : D} {v : Value}, renD ids d = some d' → R w st ρ d v → R w st ρ' d' v
  | .any, _, _, hd, _ => by simp only [renD, Option.some.injEq] at hd; subst hd; simp [R]
  | .sc _, _, _, hd, hr | .sl _ _, _, _, hd, hr | .ro _, _, _, hd, hr => by simp only [renD, Option.some.injEq] at hd; subst hd; simpa [R] using hr
  | .agg _, _, _, hd, hr | .tup _, _, _, hd, hr | .fn _ _, _, _, hd, hr => by
    simp only [renD, Option.map_eq_some_iff] at hd
    obtain ⟨cs', h1, rfl⟩ := hd
    simp only [R] at hr ⊢
    obtain ⟨vs, h2, h3⟩ := hr
    exact ⟨vs, h2, RL.ren h h1 h3⟩
  | .ref o _, _, _, hd, hr | .elt o _ _ _, _, _, hd, hr | .slo o _ _ _, _, _, hd, hr => by
    simp only [renD] at hd
    split at hd
    · rename_i hm
      simp only [Option.some.injEq] at hd
      subst hd
      simp only [R] at hr ⊢
      rw [h o hm]; exact hr
    · cases hd
theorem RL.ren {w : World} {st : Nat → Prop} {ρ ρ' : Nat → Option (Option Nat)} {ids : List Nat} (h : ∀ o, o ∈ ids → ρ' (ids.idxOf o) = ρ o) : ∀ {ds ds' : List D} {vs : List Value}, renL ids ds = some ds' → RL w st ρ ds vs → RL w st ρ' ds' vs
  | [], _, _, hd, hr => by simp only [renL, Option.some.injEq] at hd; subst hd; simpa [RL] using hr
  | d :: ds, _, _, hd, hr => by
    simp only [renL, Option.bind_eq_some_iff, Option.map_eq_some_iff] at hd
    obtain ⟨d', h1, ds', h2, rfl⟩ := hd
    simp only [RL] at hr ⊢
    obtain ⟨v, vs', h3, h4, h5⟩ := hr
    exact ⟨v, vs', h3, R.ren h h1 h4, RL.ren h h2 h5⟩
end

/-- What is handed back, off the slots that hold the results. -/
def retD (σ : St) : List ResultVar → Option D
  | [.tmp t] => some (σ.slots.getD t .any)
  | [.cell _ _] => none
  | rs => (mapO (fun r => match r with | .tmp t => some (σ.slots.getD t .any) | .cell _ _ => none) rs).map .tup
/-- The rows that are handed back. -/
def rowsOf (h : List (Nat × Obj)) : List Nat → Option (List (Nat × List (List D)))
  | [] => some []
  | o :: os => match hget h o with
    | .row k rows => (rowsOf h os).map fun xs => (k, rows) :: xs
    | _ => none
/-- A body's end is what a contract says. -/
def RetOK (fn : Func) (ret : D) (objs : List (Nat × List (List D))) (e : Exit) (σ : St) : Prop :=
  (e = .normal ∨ e = .ret) ∧ ∃ ids d, ids.Nodup ∧ retD σ fn.results.toList = some d ∧ renD ids d = some ret ∧ rowsOf σ.heap ids = some objs

theorem rowsOf_spec {h : List (Nat × Obj)} : ∀ {ids : List Nat} {objs : List (Nat × List (List D))}, rowsOf h ids = some objs → ids.length = objs.length ∧ ∀ j k rows, objs[j]? = some (k, rows) → hget h (ids.getD j 0) = .row k rows
  | [], objs, hh => by simp only [rowsOf, Option.some.injEq] at hh; subst hh; simp
  | o :: os, objs, hh => by
    simp only [rowsOf] at hh
    split at hh
    · rename_i k rows hg
      simp only [Option.map_eq_some_iff] at hh
      obtain ⟨xs, h1, rfl⟩ := hh
      obtain ⟨h2, h3⟩ := rowsOf_spec h1
      refine ⟨by simp [h2], fun j k' rows' hj => ?_⟩
      cases j with
      | zero => simp only [List.getElem?_cons_zero, Option.some.injEq, Prod.mk.injEq] at hj; obtain ⟨rfl, rfl⟩ := hj; simpa using hg
      | succ j => simp only [List.getElem?_cons_succ] at hj; simpa using h3 j k' rows' hj
    · cases hh

/-- One result, off the frame. -/
def resOf (tmps : Array Value) : ResultVar → Sem Value
  | .tmp t => pure (tmps.getD t undef)
  | .cell a t => do loadVar t (← asAddr (tmps.getD a undef))
theorem results_eq (fn : Func) (tmps : Array Value) : results fn tmps = (do let vs ← fn.results.mapM (resOf tmps); pure (if h : vs.size = 1 then vs[0] else .tuple vs)) := by
  unfold results
  congr 1
theorem run_mapM_results {P : Program} {w : World} {st : Nat → Prop} {ρ : Nat → Option (Option Nat)} {σ : St} {tmps : Array Value} (hs : RL w st ρ σ.slots tmps.toList) : ∀ {rs : List ResultVar} {ds : List D},
    mapO (fun r => match r with | .tmp t => some (σ.slots.getD t .any) | .cell _ _ => none) rs = some ds →
    ∃ vs : List Value, (rs.mapM (resOf tmps) : Sem (List Value)).run P w = .ok vs w ∧ RL w st ρ ds vs
  | [], ds, h => by
    simp only [mapO, Option.some.injEq] at h
    subst h
    exact ⟨[], by simp, by simp [RL]⟩
  | r :: rs, ds, h => by
    cases r with
    | cell a t => simp [mapO] at h
    | tmp t =>
      simp only [mapO, Option.bind_eq_some_iff, Option.some.injEq, Option.map_eq_some_iff] at h
      obtain ⟨d, h1, ds', h2, rfl⟩ := h
      obtain ⟨vs, h3, h4⟩ := run_mapM_results (P := P) hs h2
      refine ⟨tmps.getD t undef :: vs, by simp only [List.mapM_cons, resOf, Sem.run_bind, Sem.run_pure, Result.andThen_ok, h3], ?_⟩
      simp only [RL]
      refine ⟨_, _, rfl, ?_, h4⟩
      rw [← h1]
      cases hd : σ.slots[t]? with
      | none => simp [List.getD, hd, R]
      | some d' =>
        obtain ⟨v, h5, h6⟩ := RL_get hs hd
        rw [Array.getElem?_toList] at h5
        have hv : tmps.getD t undef = v := by simp [Array.getD_eq_getD_getElem?, h5]
        simp only [List.getD, hd, Option.getD_some, hv]
        exact h6

theorem ret_spec {P : Program} {fn : Func} {w : World} {st : Nat → Prop} {ρ : Nat → Option (Option Nat)} {σ : St} {tmps : Array Value} (hs : RL w st ρ σ.slots tmps.toList) {d : D} (h : retD σ fn.results.toList = some d) :
    ∃ v, (results fn tmps).run P w = .ok v w ∧ R w st ρ d v := by
  have hm : ∀ ds, mapO (fun r => match r with | .tmp t => some (σ.slots.getD t .any) | .cell _ _ => none) fn.results.toList = some ds → ∃ vs : List Value, RL w st ρ ds vs ∧ (results fn tmps).run P w = .ok (if h : vs.toArray.size = 1 then vs.toArray[0] else .tuple vs.toArray) w := by
    intro ds hds
    obtain ⟨vs, h1, h2⟩ := run_mapM_results (P := P) hs hds
    refine ⟨vs, h2, ?_⟩
    rw [results_eq, ← Array.toArray_toList (xs := fn.results), List.mapM_toArray]
    simp only [Sem.run_bind, Sem.run_map, h1, Result.andThen_ok, Sem.run_pure]
  match hrs : fn.results.toList, h, hm with
  | [.tmp t], h, hm =>
    simp only [retD, Option.some.injEq] at h
    obtain ⟨vs, h1, h2⟩ := hm [σ.slots.getD t .any] (by simp [mapO])
    simp only [RL] at h1
    obtain ⟨v, vs', rfl, h3, rfl⟩ := h1
    exact ⟨v, by simpa using h2, by rw [← h]; exact h3⟩
  | [.cell _ _], h, _ => simp [retD] at h
  | [], h, hm =>
    simp only [retD, mapO, Option.map_some, Option.some.injEq] at h
    obtain ⟨vs, h1, h2⟩ := hm [] rfl
    simp only [RL] at h1
    subst h1
    exact ⟨.tuple #[], by simpa using h2, by rw [← h]; simp only [R]; exact ⟨#[], rfl, by simp [RL]⟩⟩
  | r1 :: r2 :: rs, h, hm =>
    simp only [retD, Option.map_eq_some_iff] at h
    obtain ⟨ds, h1, rfl⟩ := h
    obtain ⟨vs, h2, h3⟩ := hm ds h1
    have hl := RL_length h2
    have hl2 : ∀ (l : List ResultVar) (xs : List D), mapO (fun r => match r with | .tmp t => some (σ.slots.getD t .any) | .cell _ _ => none) l = some xs → xs.length = l.length := by
      intro l
      induction l with
      | nil => intro xs hx; simp only [mapO, Option.some.injEq] at hx; simp [← hx]
      | cons y l ih =>
        intro xs hx
        simp only [mapO, Option.bind_eq_some_iff, Option.map_eq_some_iff] at hx
        obtain ⟨_, _, ys, h5, rfl⟩ := hx
        simp [ih _ h5]
    have := hl2 _ _ h1
    rw [dif_neg (by simp only [List.size_toArray]; simp only [List.length_cons] at this; omega)] at h3
    exact ⟨_, h3, by simp only [R]; exact ⟨vs.toArray, rfl, by simpa using h2⟩⟩

theorem ACalls.of_tri {P : Program} {f : FuncId} {fn : Func} {c : Code} {args : List D} {ret : D} {objs : List (Nat × List (List D))} (keys : List Nat) (hf : P.funcs[f]? = some fn) (hb : fn.body = some c)
    (hcall : ∀ as w, (callFunc f as).run P w = .ok (.enter f as) w)
    (h : Tri P c (RetOK fn ret objs) { slots := args ++ List.replicate (fn.ntmps - args.length) (.sc undef), heap := heap0 keys }) : ACalls P f args ret objs := by
  refine ⟨hcall, fun w st vs hst hvs => calls_of_wp hf hb ?_⟩
  have hlen := RL_length hvs
  have hrel : Rel w (fun g => g < w.heap.size → st g) { slots := args ++ List.replicate (fn.ntmps - args.length) (.sc undef), heap := heap0 keys } { tmps := vs.toArray ++ Array.replicate (fn.ntmps - vs.toArray.size) undef, defers := [] } w := by
    refine ⟨fun _ => none, ⟨fun g hg hlt => by omega, rfl, ?_, fun o => ?_, fun o o' g ho => ?_, fun o g ho => ?_, Below.refl _ _⟩⟩
    · have e : (vs.toArray ++ Array.replicate (fn.ntmps - vs.toArray.size) undef).toList = vs ++ List.replicate (fn.ntmps - args.length) undef := by simp [hlen]
      rw [e]
      refine RL_append (RL.mono (fun _ _ _ => rfl) (fun _ _ hh => hh) (fun g hg => ⟨fun _ => hg, hst g hg, fun o ho => by simp only [hget_heap0] at ho; exact absurd rfl ho⟩) (RL.ofNone hvs)) ?_
      · have := RL_sc (w := w) (st := stab (fun g => g < w.heap.size → st g) (heap0 keys) (fun _ => none) w) (ρ := fun _ => none) (List.replicate (fn.ntmps - args.length) undef)
        simpa using this
    · show RO _ _ _ o (hget (heap0 keys) o)
      rw [hget_heap0]; simp [RO]
    · simp only [hget_heap0] at ho; exact absurd rfl ho
    · simp only [hget_heap0] at ho; exact absurd rfl ho
  refine Code.wp_mono ?_ (h w _ _ w hrel)
  rintro e a' w' ⟨σ', ⟨he, ids, d, hn, hd, hren, hrows⟩, ρ, hr⟩
  obtain ⟨v, hv, hRv⟩ := ret_spec (P := P) hr.slots hd
  obtain ⟨hl, hg⟩ := rowsOf_spec hrows
  have hout : ∃ v', Ending.returned v = .returned v' ∧ Outs w w' st ret objs v' := by
    refine ⟨v, rfl, hr.below, fun j => ρ (ids.getD j 0), ?_, ?_, ?_, ?_⟩
    · have hmono : ∀ g, stab (fun g => g < w.heap.size → st g) σ'.heap ρ w' g → stO w w' st (fun j => ρ (ids.getD j 0)) objs.length g := by
        intro g hs
        by_cases hlt : g < w.heap.size
        · exact .inl (hs.1 hlt)
        · refine .inr ⟨by omega, hs.2.1, fun j hj e => ?_⟩
          have := hg j objs[j].1 objs[j].2 (List.getElem?_eq_getElem hj)
          exact hs.2.2 (ids.getD j 0) (by rw [this]; simp) e
      exact R.mono (fun _ _ _ => rfl) (fun _ _ hh => hh) hmono (R.ren (fun o ho => by rw [(getD_idx ho).2]) hren hRv)
    · intro j k rows hj
      have hmono : ∀ g, stab (fun g => g < w.heap.size → st g) σ'.heap ρ w' g → stO w w' st (fun j => ρ (ids.getD j 0)) objs.length g := by
        intro g hs
        by_cases hlt : g < w.heap.size
        · exact .inl (hs.1 hlt)
        · refine .inr ⟨by omega, hs.2.1, fun j hj e => ?_⟩
          have := hg j objs[j].1 objs[j].2 (List.getElem?_eq_getElem hj)
          exact hs.2.2 (ids.getD j 0) (by rw [this]; simp) e
      have hro := hr.objs (ids.getD j 0)
      rw [hg j k rows hj] at hro
      have hro' := RO.mono (fun _ _ _ => rfl) (fun _ _ hh => hh) hmono (fun _ _ => rfl) hro
      simp only [RO] at hro' ⊢
      exact hro'
    · intro j g hj e
      have := hg j objs[j].1 objs[j].2 (List.getElem?_eq_getElem hj)
      exact hr.fresh (ids.getD j 0) g (by rw [this]; simp) e
    · intro j j' g hj hj' e e'
      have h1 := hg j objs[j].1 objs[j].2 (List.getElem?_eq_getElem hj)
      have h2 := hg j' objs[j'].1 objs[j'].2 (List.getElem?_eq_getElem hj')
      have heq := hr.inj _ _ g (by rw [h1]; simp) (by rw [h2]; simp) e e'
      have e1 := idx_getD hn (j := j) (by omega)
      have e2 := idx_getD hn (j := j') (by omega)
      rw [← e1, ← e2, heq]
  rcases he with rfl | rfl
  · exact ⟨hr.defers, v, hv, hout⟩
  · exact ⟨hr.defers, v, hv, hout⟩
end Go.Avm
