/- The abstract machine, part G: calls in a list of operations; from a body to a contract; states that say less. -/
import Derived.Test.YtpopgpjojbngcaaAvmF
namespace Go.Avm
set_option linter.unusedVariables false
set_option linter.unusedSimpArgs false
open Go.RowKit

def mapO {α β : Type} (f : α → Option β) : List α → Option (List β)
  | [] => some []
  | x :: xs => (f x).bind fun y => (mapO f xs).map fun ys => y :: ys

/-- What reads so now, by value; the objects ids by their places. -/
def snapD (σ : St) (ids : List Nat) : Nat → D → Option D
  | 0, _ => none
  | n + 1, d => match d with
    | .sc v => some (.sc v)
    | .sl k rows => some (.sl k rows)
    | .ro cs => some (.ro cs)
    | .agg cs => (mapO (snapD σ ids n) cs).map .agg
    | .tup cs => (mapO (snapD σ ids n) cs).map .tup
    | .fn f cs => (mapO (snapD σ ids n) cs).map (.fn f)
    | .ref o off => if o ∈ ids then some (.ref (ids.idxOf o) off) else match hget σ.heap o with
      | .box cs => if (cs.drop off).all oneD then (mapO (snapD σ ids n) (cs.drop off)).bind fun l => if pureL l then some (.ro l) else none else none
      | _ => none
    | .elt o k i off => if o ∈ ids then some (.elt (ids.idxOf o) k i off) else match hget σ.heap o with
      | .row k' rows => if k = k' then (rows[i]?).map (fun r => .ro (r.drop off)) else none
      | _ => none
    | .slo o k off len => if o ∈ ids then some (.slo (ids.idxOf o) k off len) else match hget σ.heap o with
      | .row k' rows => if k = k' ∧ off + len ≤ rows.length then some (.sl k ((rows.drop off).take len)) else none
      | _ => none
    | .any => none

section
variable {w0 : World} {p : Pm} {σ : St} {a : Act} {w : World} {ρ : Nat → Option (Option Nat)}
def stA (p : Pm) (σ : St) (ρ : Nat → Option (Option Nat)) (ids : List Nat) (w : World) (g : Nat) : Prop := p.rd g ∧ g < w.heap.size ∧ ∀ o, o ∈ ids → hget σ.heap o ≠ .dead → ρ o ≠ some (some g)
theorem snapL_spec {ids : List Nat} {n : Nat} (ih : ∀ d d' v, snapD σ ids n d = some d' → R w (stab p σ.heap ρ w) ρ d v → R w (stA p σ ρ ids w) (ρIn ρ ids) d' v) : ∀ {ds ds' : List D} {vs : List Value}, mapO (snapD σ ids n) ds = some ds' →
    RL w (stab p σ.heap ρ w) ρ ds vs → RL w (stA p σ ρ ids w) (ρIn ρ ids) ds' vs
  | [], _, _, h, hr => by
    simp only [mapO, Option.some.injEq] at h
    subst h
    simpa [RL] using hr
  | d :: ds, _, _, h, hr => by
    simp only [mapO, Option.bind_eq_some_iff, Option.map_eq_some_iff] at h
    obtain ⟨d', h1, ds', h2, rfl⟩ := h
    simp only [RL] at hr ⊢
    obtain ⟨v, vs', h3, h4, h5⟩ := hr
    exact ⟨v, vs', h3, ih d d' v h1 h4, snapL_spec ih h2 h5⟩
theorem RC_of_list {st : Nat → Prop} {g : Nat} : ∀ {cs : List D} {vs : List Value} {off : Nat}, RL w st (fun _ => none) cs vs → (∀ v ∈ vs, v.oneCell' = true) → (∀ j v, vs[j]? = some v → w.cell? ⟨g, off + j, none⟩ = some v) → RC w st g off cs
  | [], _, _, _, _, _ => by simp [RC]
  | c :: cs, _, off, h, h1, h2 => by
    simp only [RL] at h
    obtain ⟨v, vs', rfl, h3, h4⟩ := h
    simp only [RC]
    refine ⟨⟨v, by simpa using h2 0 v (by simp), h1 v (by simp), h3⟩, RC_of_list h4 (fun u hu => h1 u (by simp [hu])) (fun j u hj => ?_)⟩
    have := h2 (j + 1) u (by simpa using hj)
    rwa [show off + 1 + j = off + (j + 1) by omega]
theorem stA_of {ids : List Nat} (g : Nat) (h : stab p σ.heap ρ w g) : stA p σ ρ ids w g := ⟨h.1, h.2.1, fun o _ hl => h.2.2 o hl⟩
theorem ρIn_idx {ids : List Nat} {o : Nat} (h : o ∈ ids) : ρIn ρ ids (ids.idxOf o) = ρ o := by
  obtain ⟨h1, h2⟩ := getD_idx h
  simp only [ρIn, h1, if_true, h2]
theorem snap_spec (h : RelAt w0 p σ a w ρ) {ids : List Nat} : ∀ n d d' v, snapD σ ids n d = some d' → R w (stab p σ.heap ρ w) ρ d v → R w (stA p σ ρ ids w) (ρIn ρ ids) d' v := by
  intro n
  induction n with
  | zero => intro d d' v hd; simp [snapD] at hd
  | succ n ih =>
    intro d d' v hd hr
    have live : ∀ o g, o ∉ ids → hget σ.heap o ≠ .dead → ρ o = some (some g) → stA p σ ρ ids w g := fun o g hn h1 h2 => ⟨h.open_ g (h.fresh o g h1 h2), (h.objs o).lt h1 h2, fun o' ho' hl' e => hn (h.inj o' o g hl' h1 e h2 ▸ ho')⟩
    cases d with
    | any => simp [snapD] at hd
    | sc u => simp only [snapD, Option.some.injEq] at hd; subst hd; simpa [R] using hr
    | sl k rows =>
      simp only [snapD, Option.some.injEq] at hd
      subst hd
      have := R.mono (ρ := ρ) (st' := stA p σ ρ ids w) (fun _ _ _ => rfl) (fun _ _ hh => hh) stA_of hr
      simpa [R] using this
    | ro cs =>
      simp only [snapD, Option.some.injEq] at hd
      subst hd
      have := R.mono (ρ := ρ) (st' := stA p σ ρ ids w) (fun _ _ _ => rfl) (fun _ _ hh => hh) stA_of hr
      simpa [R] using this
    | agg cs =>
      simp only [snapD, Option.map_eq_some_iff] at hd
      obtain ⟨cs', h1, rfl⟩ := hd
      simp only [R] at hr ⊢
      obtain ⟨vs, h2, h3⟩ := hr
      exact ⟨vs, h2, snapL_spec ih h1 h3⟩
    | tup cs =>
      simp only [snapD, Option.map_eq_some_iff] at hd
      obtain ⟨cs', h1, rfl⟩ := hd
      simp only [R] at hr ⊢
      obtain ⟨vs, h2, h3⟩ := hr
      exact ⟨vs, h2, snapL_spec ih h1 h3⟩
    | fn f cs =>
      simp only [snapD, Option.map_eq_some_iff] at hd
      obtain ⟨cs', h1, rfl⟩ := hd
      simp only [R] at hr ⊢
      obtain ⟨vs, h2, h3⟩ := hr
      exact ⟨vs, h2, snapL_spec ih h1 h3⟩
    | ref o off =>
      simp only [snapD] at hd
      split at hd
      · rename_i hm
        simp only [Option.some.injEq] at hd
        subst hd
        simp only [R] at hr ⊢
        rw [ρIn_idx hm]; exact hr
      rename_i hni
      split at hd
      · rename_i cs hg
        split at hd
        · rename_i hone
          simp only [Option.bind_eq_some_iff] at hd
          obtain ⟨cs', h1, hd⟩ := hd
          split at hd
          case isFalse => cases hd
          rename_i hpu
          simp only [Option.some.injEq] at hd
          subst hd
          have hb := h.objs o
          rw [hg] at hb
          simp only [RO] at hb
          obtain ⟨g, cur, e, h2, h3, h4⟩ := hb
          simp only [R] at hr ⊢
          obtain ⟨g', h5, h6⟩ := hr
          rw [h2] at h5
          simp only [Option.some.injEq] at h5
          subst h5
          have h7 := RL_drop off h4
          refine ⟨g, off, h6, live o g hni (by rw [hg]; simp) h2, RC_of_list (pureL_spec hpu (snapL_spec ih h1 h7)) (RL_one hone h7) (fun j u hj => ?_)⟩
          rw [cell_of_row w g (off + j) cur e (0, 0) h3, ← Array.getElem?_toList]
          rw [List.getElem?_drop] at hj
          exact hj
        · cases hd
      · cases hd
    | elt o k i off =>
      simp only [snapD] at hd
      split at hd
      · rename_i hm
        simp only [Option.some.injEq] at hd
        subst hd
        simp only [R] at hr ⊢
        rw [ρIn_idx hm]; exact hr
      rename_i hni
      split at hd
      · rename_i k' rows hg
        split at hd
        · rename_i hk
          subst hk
          rw [Option.map_eq_some_iff] at hd
          obtain ⟨r, h1, rfl⟩ := hd
          have hb := h.objs o
          rw [hg] at hb
          simp only [R] at hr ⊢
          obtain ⟨g, h2, h3⟩ := hr
          simp only [RO, h2] at hb
          obtain ⟨cur, e, cap, _, _, _, _, h7⟩ := hb
          have h8 := RC_drop off (RR_get h7 h1).2
          refine ⟨g, i * k + off, h3, live o g hni (by rw [hg]; simp) h2, ?_⟩
          rw [Nat.zero_add] at h8
          exact RC.mono (fun _ _ _ => rfl) (fun _ _ hh => hh) stA_of (fun _ => rfl) h8
        · cases hd
      · cases hd
    | slo o k off len =>
      simp only [snapD] at hd
      split at hd
      · rename_i hm
        simp only [Option.some.injEq] at hd
        subst hd
        simp only [R] at hr ⊢
        rw [ρIn_idx hm]; exact hr
      rename_i hni
      split at hd
      · rename_i k' rows hg
        split at hd
        · rename_i hk
          obtain ⟨rfl, hle⟩ := hk
          simp only [Option.some.injEq] at hd
          subst hd
          have hb := h.objs o
          rw [hg] at hb
          have hl : ((rows.drop off).take len).length = len := by rw [List.length_take, List.length_drop]; omega
          simp only [R] at hr ⊢
          rcases hr with ⟨e1, rfl, rfl, A, e4⟩ | ⟨g, cap, A, e1, e2, e3, e4, e5, e6⟩
          · exact ⟨A, 0, by rw [hl]; exact e4, by rw [hl]; omega, by unfold maxLen; omega, .inl (by simp)⟩
          · refine ⟨A, cap - off, by rw [hl]; exact e5, by rw [hl]; omega, by omega, ?_⟩
            by_cases hz : len = 0
            · left; simp [hz]
            · right
              simp only [RO, e1] at hb
              obtain ⟨cur, e, cap', _, _, _, _, h7⟩ := hb
              refine ⟨g, off * k, e6 (by omega), live o g hni (by rw [hg]; simp) e1, ?_⟩
              have := RR_take len (RR_drop off h7)
              rw [Nat.zero_add] at this
              exact RR.mono (fun _ _ _ => rfl) (fun _ _ hh => hh) stA_of (fun _ => rfl) this
        · cases hd
      · cases hd
end

section
variable {P : Program} {all : Array Oper} {Q : Exit → St → Prop} {σ σ' : St} {o : Oper} {rest : List Oper}

theorem RL_map_eval {w0 : World} {p : Pm} {a : Act} {w : World} {ρ : Nat → Option (Option Nat)} (h : RelAt w0 p σ a w ρ) : ∀ l : List Operand, RL w (stab p σ.heap ρ w) ρ (l.map (evl σ)) (l.map a.eval)
  | [] => by simp [RL]
  | x :: l => by simp only [List.map_cons, RL]; exact ⟨_, _, rfl, h.evl x, RL_map_eval h l⟩

theorem wpList_of_call {f : FuncId} {as : Array Value} {a : Act} {w : World} {Q' : Exit → Act → World → Prop} {R' : Value → World → Prop} (hw : Region.wanted o (yielded all a.tmps) = true)
    (h : (execOp a.eval o).run P w = .ok (.enter f as) w) (hc : Calls P f as w fun e w' => ∃ v, e = .returned v ∧ R' v w') (hn : ∀ v w', R' v w' → wpList P all Q' rest (a.put o.dst v) w') : wpList P all Q' (o :: rest) a w := by
  unfold wpList
  rw [if_pos hw]
  left
  unfold Oper.wp
  rw [h, Oper.upon_enter]
  refine hc.mono ?_
  rintro e w' ⟨v, rfl, hr⟩
  exact hn v w' hr

theorem run_call {a : Act} {w : World} {f : FuncId} {x : Operand} {xs : Array Operand} {ts : Array TypeId} {vs : Array Value} (ho : o.op = .call { callee := .value x, args := xs, argTypes := ts }) (hx : a.eval x = .func (.func f) #[] vs)
    (hc : ∀ as w, (callFunc f as).run P w = .ok (.enter f as) w) : (execOp a.eval o).run P w = .ok (.enter f (xs.map a.eval ++ vs)) w := by
  simp [execOp, ho, resolve, hx, Deferred.ofValue, invoke, hc]

end
mutual
/-- The names of a result told by their places in a list. -/
def renD (ids : List Nat) : D → Option D
  | .ref o off => if o ∈ ids then some (.ref (ids.idxOf o) off) else none
  | .elt o k i off => if o ∈ ids then some (.elt (ids.idxOf o) k i off) else none
  | .slo o k off len => if o ∈ ids then some (.slo (ids.idxOf o) k off len) else none
  | .agg cs => (renL ids cs).map .agg
  | .tup cs => (renL ids cs).map .tup
  | .fn f cs => (renL ids cs).map (.fn f)
  | .any => some .any
  | .sc v => some (.sc v)
  | .sl k rows => some (.sl k rows)
  | .ro cs => some (.ro cs)
def renL (ids : List Nat) : List D → Option (List D)
  | [] => some []
  | d :: ds => (renD ids d).bind fun x => (renL ids ds).map fun xs => x :: xs
end
mutual
theorem R.ren {w : World} {st : Nat → Prop} {ρ ρ' : Nat → Option (Option Nat)} {ids : List Nat} (h : ∀ o, o ∈ ids → ρ' (ids.idxOf o) = ρ o) : ∀ {d d' : D} {v : Value}, renD ids d = some d' → R w st ρ d v → R w st ρ' d' v
  | .any, _, _, hd, _ => by simp only [renD, Option.some.injEq] at hd; subst hd; simp [R]
  | .sc _, _, _, hd, hr | .sl _ _, _, _, hd, hr | .ro _, _, _, hd, hr => by simp only [renD, Option.some.injEq] at hd; subst hd; simpa [R] using hr
  | .agg _, _, _, hd, hr | .tup _, _, _, hd, hr | .fn _ _, _, _, hd, hr => by
    simp only [renD, Option.map_eq_some_iff] at hd
    obtain ⟨cs', h1, rfl⟩ := hd
    simp only [R] at hr ⊢
    obtain ⟨vs, h2, h3⟩ := hr
    exact ⟨vs, h2, RL.ren h h1 h3⟩
  | .ref o _, _, _, hd, hr | .elt o _ _ _, _, _, hd, hr | .slo o _ _ _, _, _, hd, hr => by
    simp only [renD] at hd
    split at hd
    · rename_i hm
      simp only [Option.some.injEq] at hd
      subst hd
      simp only [R] at hr ⊢
      rw [h o hm]; exact hr
    · cases hd
theorem RL.ren {w : World} {st : Nat → Prop} {ρ ρ' : Nat → Option (Option Nat)} {ids : List Nat} (h : ∀ o, o ∈ ids → ρ' (ids.idxOf o) = ρ o) : ∀ {ds ds' : List D} {vs : List Value}, renL ids ds = some ds' → RL w st ρ ds vs → RL w st ρ' ds' vs
  | [], _, _, hd, hr => by simp only [renL, Option.some.injEq] at hd; subst hd; simpa [RL] using hr
  | d :: ds, _, _, hd, hr => by
    simp only [renL, Option.bind_eq_some_iff, Option.map_eq_some_iff] at hd
    obtain ⟨d', h1, ds', h2, rfl⟩ := hd
    simp only [RL] at hr ⊢
    obtain ⟨v, vs', h3, h4, h5⟩ := hr
    exact ⟨v, vs', h3, R.ren h h1 h4, RL.ren h h2 h5⟩
end

section
variable {P : Program} {all : Array Oper} {Q : Exit → St → Prop} {σ σ' : St} {o : Oper} {rest : List Oper}
/-- An object, its names told by their places. -/
def renO (f : List D → Option (List D)) : Obj → Option Obj
  | .box cs => (f cs).map .box
  | x => some x
def renOs (σ : St) (f : List D → Option (List D)) : List Nat → Option (List Obj)
  | [] => some []
  | o :: os => (renO f (hget σ.heap o)).bind fun x => (renOs σ f os).map fun xs => x :: xs
theorem renOs_spec {f : List D → Option (List D)} : ∀ {ids : List Nat} {xs : List Obj}, renOs σ f ids = some xs → xs.length = ids.length ∧ ∀ j, j < ids.length → renO f (hget σ.heap (ids.getD j 0)) = some (xs.getD j .dead)
  | [], xs, h => by simp only [renOs, Option.some.injEq] at h; subst h; simp
  | o :: os, xs, h => by
    simp only [renOs, Option.bind_eq_some_iff, Option.map_eq_some_iff] at h
    obtain ⟨x, h1, ys, h2, rfl⟩ := h
    obtain ⟨h3, h4⟩ := renOs_spec h2
    refine ⟨by simp [h3], fun j hj => ?_⟩
    cases j with
    | zero => simpa using h1
    | succ j => simpa using h4 j (by simpa using hj)
theorem renO_live {f : List D → Option (List D)} {x y : Obj} (h : renO f x = some y) : y ≠ .dead ↔ x ≠ .dead := by
  cases x <;> simp [renO] at h
  · subst h; simp
  · subst h; simp
  · obtain ⟨l, _, rfl⟩ := h; simp
  · subst h; simp
theorem insOK_of {w0 : World} {p : Pm} {a : Act} {w : World} {ρ : Nat → Option (Option Nat)} {ids : List Nat} {xs : List Obj} {f : List D → Option (List D)} {st : Nat → Prop} (hr : RelAt w0 p σ a w ρ) (hn : ids.Nodup) (hx : renOs σ f ids = some xs)
    (hmono : ∀ g, stab p σ.heap ρ w g → st g) (hout : ∀ o g, o ∈ ids → hget σ.heap o ≠ .dead → ρ o = some (some g) → ¬ st g)
    (hf : ∀ cs cs' vs, f cs = some cs' → RL w (stab p σ.heap ρ w) ρ cs vs → RL w st (ρIn ρ ids) cs' vs) : InsOK w st (ρIn ρ ids) xs := by
  obtain ⟨hl, hg⟩ := renOs_spec hx
  have hlt : ∀ j, xs.getD j .dead ≠ .dead → j < ids.length := by
    intro j h
    by_cases hj : j < ids.length
    · exact hj
    · exfalso; apply h; simp [List.getD, List.getElem?_eq_none (show xs.length ≤ j by omega)]
  have hmem : ∀ j, j < ids.length → ids.getD j 0 ∈ ids := by
    intro j hj
    simp only [List.getD, List.getElem?_eq_getElem hj, Option.getD_some]; exact List.getElem_mem hj
  refine ⟨fun j => ?_, fun j j' g h1 h2 e1 e2 => ?_, fun j g h1 e1 => ?_⟩
  · by_cases hd : xs.getD j .dead = .dead
    · rw [hd]; simp [RO]
    · have hj := hlt j hd
      have h1 := hg j hj
      have h2 := hr.objs (ids.getD j 0)
      have hρ : ρIn ρ ids j = ρ (ids.getD j 0) := by simp only [ρIn, hj, if_true]
      cases hx : hget σ.heap (ids.getD j 0) with
      | dead => rw [hx] at h1; simp only [renO, Option.some.injEq] at h1; exact absurd h1.symm hd
      | row k rows =>
        rw [hx] at h1 h2
        simp only [renO, Option.some.injEq] at h1
        rw [← h1]
        simp only [RO, hρ] at h2 ⊢
        split at h2
        · exact h2
        · exact h2
        · obtain ⟨cur, e, cap, r1, r2, r3, r4, r5⟩ := h2
          exact ⟨cur, e, cap, r1, r2, r3, r4, RR.mono (fun _ _ _ => rfl) (fun _ _ hh => hh) hmono (fun _ => rfl) r5⟩
      | box cs =>
        rw [hx] at h1 h2
        simp only [renO, Option.map_eq_some_iff] at h1
        obtain ⟨l, h3, h4⟩ := h1
        rw [← h4]
        simp only [RO, hρ] at h2 ⊢
        obtain ⟨g, cur, e, r1, r2, r3⟩ := h2
        exact ⟨g, cur, e, r1, r2, hf _ _ _ h3 r3⟩
      | ext e =>
        rw [hx] at h1 h2
        simp only [renO, Option.some.injEq] at h1
        rw [← h1]
        simp only [RO, hρ] at h2 ⊢
        obtain ⟨g, r1, r2⟩ := h2
        exact ⟨g, r1, e.mono (fun _ _ _ => rfl) (fun _ _ hh => hh) hmono rfl r2⟩
  · have j1 := hlt j h1
    have j2 := hlt j' h2
    simp only [ρIn, j1, j2, if_true] at e1 e2
    have := hr.inj _ _ g ((renO_live (hg j j1)).1 h1) ((renO_live (hg j' j2)).1 h2) e1 e2
    rw [← idx_getD hn j1, ← idx_getD hn j2, this]
  · have j1 := hlt j h1
    simp only [ρIn, j1, if_true] at e1
    exact hout _ g (hmem j j1) ((renO_live (hg j j1)).1 h1) e1

/-- A call: the objects ins go in; the names new are for what comes out besides. Its arguments are plain data and those objects, or are read off by value. -/
def ArgsOK (σ : St) (ins : List Nat) (ds args : List D) (xs : List Obj) (ret : D) (outs : List Obj) : Prop :=
  (∃ ds' ys, renL ins ds = some ds' ∧ LeL ds' args ∧ renOs σ (renL ins) ins = some ys ∧ LeOs ys xs) ∨ (∃ ds' ys, mapO (snapD σ ins 4) ds = some ds' ∧ LeL ds' args ∧ renOs σ (mapO (snapD σ ins 4)) ins = some ys ∧ LeOs ys xs ∧ Flat ret outs)
theorem InsOK.le {w : World} {st : Nat → Prop} {ρ : Nat → Option (Option Nat)} {ys xs : List Obj} (h : InsOK w st ρ ys) (hl : LeOs ys xs) : InsOK w st ρ xs :=
  ⟨fun j => RO.le (hl.get j) (h.objs j), fun j j' g h1 h2 => h.inj j j' g ((hl.get j).live h1) ((hl.get j').live h2), fun j g h1 => h.out j g ((hl.get j).live h1)⟩
theorem Rel.call {w0 : World} {p : Pm} {a : Act} {w : World} {ρ : Nat → Option (Option Nat)} (hr : RelAt w0 p σ a w ρ) {f : FuncId} {ds args : List D} {vs : List Value} {xs : List Obj} {ret : D} {outs : List Obj} {ins new : List Nat} {dst : Option Nat}
    (hc : MCalls P f xs args ret outs) (hargs : ArgsOK σ ins ds args xs ret outs) (hvs : RL w (stab p σ.heap ρ w) ρ ds vs)
    (hn : (ins ++ new).Nodup) (hlen : (ins ++ new).length = outs.length) (hh : (ins ++ new).all (hhas σ.heap) = true) (hnew : new.all (fun o => decide (o < 1000)) = true) (hlt : ltD outs.length ret = true) (hlo : outs.all (ltO outs.length) = true) :
    Calls P f vs.toArray w fun e w' => ∃ v, e = .returned v ∧ Rel w0 p (σ.imp_ dst ins new ret outs) (a.put dst v) w' := by
  have hh' : ∀ o ∈ ins ++ new, hhas σ.heap o = true := fun o ho => by simpa using List.all_eq_true.1 hh o ho
  have hnew' : ∀ o ∈ new, o < 1000 := fun o ho => by have := List.all_eq_true.1 hnew o ho; simpa using this
  have hni : ins.Nodup := (List.nodup_append.1 hn).1
  rcases hargs with ⟨ds', ys, h1, hle, h2, hlo'⟩ | ⟨ds', ys, h1, hle, h2, hlo', h3⟩
  · have hxl := renOs_spec h2
    have hρ : ∀ o, o ∈ ins → ρIn ρ ins (ins.idxOf o) = ρ o := fun o ho => ρIn_idx ho
    have hok := insOK_of (st := stab p σ.heap ρ w) hr hni h2 (fun g hg => hg) (fun o g _ hl e hs => hs.2.2 o hl e) (fun cs cs' vs hcs hvs => RL.ren hρ hcs hvs)
    refine (hc.run w (stab p σ.heap ρ w) _ vs (fun g hg => hg.2.1) (hok.le hlo') (RL.le hle (RL.ren hρ h1 hvs))).mono ?_
    rintro e w' ⟨v, rfl, ρ', ho⟩
    exact ⟨v, rfl, hr.call (by rw [LeOs.length hlo']; exact hxl.1) (fun j hj hd => (renO_live (hxl.2 j hj)).1 ((hlo'.get j).live hd)) ho hn hlen hh' hnew' hlt hlo (.inl fun g hg => hg)⟩
  · have hxl := renOs_spec h2
    have hok := insOK_of (st := stA p σ ρ ins w) hr hni h2 stA_of (fun o g ho hl e hs => hs.2.2 o ho hl e) (fun cs cs' vs hcs hvs => snapL_spec (snap_spec hr 4) hcs hvs)
    refine (hc.run w (stA p σ ρ ins w) _ vs (fun g hg => hg.2.1) (hok.le hlo') (RL.le hle (snapL_spec (snap_spec hr 4) h1 hvs))).mono ?_
    rintro e w' ⟨v, rfl, ρ', ho⟩
    exact ⟨v, rfl, hr.call (by rw [LeOs.length hlo']; exact hxl.1) (fun j hj hd => (renO_live (hxl.2 j hj)).1 ((hlo'.get j).live hd)) ho hn hlen hh' hnew' hlt hlo (.inr h3)⟩
theorem TriL.callG {f : FuncId} {x : Operand} {xs : Array Operand} {ts : Array TypeId} {caps args : List D} {objs : List Obj} {ret : D} {outs : List Obj} (ins new : List Nat)
    (hw : ∀ w0 p a w, Rel w0 p σ a w → Region.wanted o (yielded all a.tmps) = true)
    (ho : o.op = .call { callee := .value x, args := xs, argTypes := ts }) (hx : evl σ x = .fn f caps) (hc : MCalls P f objs args ret outs)
    (hargs : ArgsOK σ ins (xs.toList.map (evl σ) ++ caps) args objs ret outs)
    (hn : (ins ++ new).Nodup) (hlen : (ins ++ new).length = outs.length) (hh : (ins ++ new).all (hhas σ.heap) = true) (hnew : new.all (fun o => decide (o < 1000)) = true) (hlt : ltD outs.length ret = true) (hlo : outs.all (ltO outs.length) = true)
    (hnext : TriL P all Q rest (σ.imp_ o.dst ins new ret outs)) : TriL P all Q (o :: rest) σ := by
  rintro w0 p a w ⟨ρ, hr⟩
  have hx' := hr.evl x
  rw [hx] at hx'
  simp only [R] at hx'
  obtain ⟨vs, hf, hcaps⟩ := hx'
  have hrun := run_call (P := P) (w := w) ho hf hc.call
  have hall := RL_append (RL_map_eval hr xs.toList) hcaps
  have has : (xs.map a.eval ++ vs) = (xs.toList.map a.eval ++ vs.toList).toArray := by
    apply Array.toList_inj.1; simp
  rw [has] at hrun
  exact wpList_of_call (hw w0 p a w ⟨ρ, hr⟩) hrun (Rel.call (dst := o.dst) hr hc hargs hall hn hlen hh hnew hlt hlo) (fun v w' hv => hnext w0 p _ _ hv)
theorem TriL.call {f : FuncId} {x : Operand} {xs : Array Operand} {ts : Array TypeId} {caps args : List D} {objs : List Obj} {ret : D} {outs : List Obj} (ins new : List Nat)
    (hg : aguard all σ o = some true)
    (ho : o.op = .call { callee := .value x, args := xs, argTypes := ts }) (hx : evl σ x = .fn f caps) (hc : MCalls P f objs args ret outs)
    (hargs : ArgsOK σ ins (xs.toList.map (evl σ) ++ caps) args objs ret outs)
    (hn : (ins ++ new).Nodup) (hlen : (ins ++ new).length = outs.length) (hh : (ins ++ new).all (hhas σ.heap) = true) (hnew : new.all (fun o => decide (o < 1000)) = true) (hlt : ltD outs.length ret = true) (hlo : outs.all (ltO outs.length) = true)
    (hnext : TriL P all Q rest (σ.imp_ o.dst ins new ret outs)) : TriL P all Q (o :: rest) σ :=
  TriL.callG ins new (fun w0 p a w hr => aguard_wanted hg hr) ho hx hc hargs hn hlen hh hnew hlt hlo hnext
end

/-! From a body to a contract. -/
def heap0 (keys : List Nat) : List (Nat × Obj) := keys.map fun k => (k, .dead)
theorem hget_heap0 (keys : List Nat) (o : Nat) : hget (heap0 keys) o = .dead := by
  induction keys with
  | nil => rfl
  | cons k ks ih => simp only [heap0, List.map_cons, hget]; split <;> first | rfl | exact ih
/-- The objects handed in, by their names in the body. -/
def heapI (ids : List Nat) (ins : List Obj) (keys : List Nat) : List (Nat × Obj) := List.zip ids (ins.map (nmO ids)) ++ heap0 keys
theorem hget_heapI {keys : List Nat} {f : Obj → Obj} : ∀ {ids : List Nat} {ins : List Obj} (o : Nat), ids.length = ins.length → f .dead = .dead → hget (List.zip ids (ins.map f) ++ heap0 keys) o = if o ∈ ids then f (ins.getD (ids.idxOf o) .dead) else .dead
  | [], [], o, _, _ => by simp [hget_heap0]
  | i :: ids, x :: ins, o, hl, hf => by
    simp only [List.map_cons, List.zip_cons_cons, List.cons_append, hget, List.mem_cons]
    by_cases e : i = o
    · subst e; simp
    · rw [if_neg e, hget_heapI o (by simpa using hl) hf]
      by_cases hm : o ∈ ids
      · have e2 : (i == o) = false := by simpa using e
        simp [hm, List.idxOf_cons, Ne.symm e, e2]
      · simp [hm, Ne.symm e]
/-- A result, off the slot that holds it or its address. -/
def resD (P : Program) (σ : St) : ResultVar → Option D
  | .tmp t => some (σ.slots.getD t .any)
  | .cell a t => (tiGet P t).bind fun ti => (addrCells σ (σ.slots.getD a .any)).bind fun cs => if ti.size ≤ cs.length then mkD ti.kind.isAgg (cs.take ti.size) else none
/-- What is handed back. -/
def retD (P : Program) (σ : St) : List ResultVar → Option D
  | [r] => resD P σ r
  | rs => (mapO (resD P σ) rs).map .tup
/-- The objects behind a body. -/
def outsOf (ids : List Nat) (h : List (Nat × Obj)) : List Nat → Option (List Obj)
  | [] => some []
  | o :: os => (renO (renL ids) (hget h o)).bind fun x => (outsOf ids h os).map fun xs => x :: xs
/-- A body's end is what a contract says. -/
def RetOK (P : Program) (fn : Func) (ins : List Nat) (ret : D) (outs : List Obj) (e : Exit) (σ0 : St) : Prop := ∃ σ : St, (∀ w0 p a w, Rel w0 p σ0 a w → Rel w0 p σ a w) ∧
  (e = .normal ∨ e = .ret) ∧ ∃ new d, (ins ++ new).Nodup ∧ retD P σ fn.results.toList = some d ∧ (∃ d', renD (ins ++ new) d = some d' ∧ LeD d' ret) ∧ ∃ xs, outsOf (ins ++ new) σ.heap (ins ++ new) = some xs ∧ LeOs xs outs
theorem outsOf_spec {ids : List Nat} {h : List (Nat × Obj)} : ∀ {l : List Nat} {outs : List Obj}, outsOf ids h l = some outs → l.length = outs.length ∧ ∀ j, j < outs.length → renO (renL ids) (hget h (l.getD j 0)) = some (outs.getD j .dead)
  | [], outs, hh => by simp only [outsOf, Option.some.injEq] at hh; subst hh; simp
  | o :: os, outs, hh => by
    simp only [outsOf, Option.bind_eq_some_iff, Option.map_eq_some_iff] at hh
    obtain ⟨x, h1, xs, h2, rfl⟩ := hh
    obtain ⟨h3, h4⟩ := outsOf_spec h2
    refine ⟨by simp [h3], fun j hj => ?_⟩
    cases j with
    | zero => simpa using h1
    | succ j => simpa using h4 j (by simpa using hj)

/-- One result, off the frame. -/
def resOf (tmps : Array Value) : ResultVar → Sem Value
  | .tmp t => pure (tmps.getD t undef)
  | .cell a t => do loadVar t (← asAddr (tmps.getD a undef))
theorem results_eq (fn : Func) (tmps : Array Value) : results fn tmps = (do let vs ← fn.results.mapM (resOf tmps); pure (if h : vs.size = 1 then vs[0] else .tuple vs)) := by
  unfold results
  congr 1
theorem res_spec {P : Program} {w0 : World} {p : Pm} {σ : St} {a : Act} {w : World} {ρ : Nat → Option (Option Nat)} (h : RelAt w0 p σ a w ρ) {r : ResultVar} {d : D} (hd : resD P σ r = some d) :
    ∃ v, (resOf a.tmps r).run P w = .ok v w ∧ R w (stab p σ.heap ρ w) ρ d v := by
  have slot : ∀ t, R w (stab p σ.heap ρ w) ρ (σ.slots.getD t .any) (a.tmps.getD t undef) := fun t => h.evl (.tmp t)
  cases r with
  | tmp t =>
    simp only [resD, Option.some.injEq] at hd
    subst hd
    exact ⟨_, by simp [resOf], slot t⟩
  | cell b t =>
    simp only [resD, Option.bind_eq_some_iff] at hd
    obtain ⟨ti, ht, cs, hx, hd⟩ := hd
    split at hd
    case isFalse => cases hd
    rename_i hl
    obtain ⟨g, off, vs, h1, h2, h3⟩ := addr_spec h hx (slot b)
    obtain ⟨_, hsz, _, _, hag⟩ := run_ti ht w
    have hlen := RL_length h2
    have htake := RL_take ti.size h2
    unfold mkD at hd
    by_cases hA : ti.kind.isAgg = true
    · rw [if_pos hA] at hd
      simp only [Option.some.injEq] at hd
      subst hd
      have hlt : (vs.take ti.size).length = ti.size := by rw [List.length_take]; omega
      have hrun := run_loadCells_list (P := P) w ⟨g, off, none⟩ (vs.take ti.size) (fun j v hj => by
        rw [Addr.add_lit]
        rw [List.getElem?_take] at hj
        split at hj
        · exact h3 j v hj
        · cases hj)
      rw [hlt] at hrun
      refine ⟨.agg (vs.take ti.size).toArray, ?_, ?_⟩
      · simp [resOf, h1, asAddr, loadVar, hag, hA, hsz, hrun]
      · simp only [R]
        exact ⟨_, rfl, by simpa using htake⟩
    · rw [if_neg hA] at hd
      have hA' : ti.kind.isAgg = false := by simpa using hA
      match hcs : cs.take ti.size, hd with
      | [c], hd =>
        simp only [Option.some.injEq] at hd
        subst hd
        rw [hcs] at htake
        simp only [RL] at htake
        obtain ⟨v, vs', e1, e2, e3⟩ := htake
        have hpos : 0 < ti.size := by
          rcases Nat.eq_zero_or_pos ti.size with h0 | h0
          · rw [h0] at hcs; simp at hcs
          · exact h0
        have hv : vs[0]? = some v := by
          have : (vs.take ti.size)[0]? = some v := by rw [e1]; rfl
          rwa [List.getElem?_take_of_lt hpos] at this
        have hc := h3 0 v hv
        simp only [Nat.add_zero] at hc
        exact ⟨v, by simp [resOf, h1, asAddr, loadVar, hag, hA', hc], e2⟩
theorem run_mapM_results {P : Program} {w0 : World} {p : Pm} {σ : St} {a : Act} {w : World} {ρ : Nat → Option (Option Nat)} (h : RelAt w0 p σ a w ρ) : ∀ {rs : List ResultVar} {ds : List D},
    mapO (resD P σ) rs = some ds → ∃ vs : List Value, (rs.mapM (resOf a.tmps) : Sem (List Value)).run P w = .ok vs w ∧ RL w (stab p σ.heap ρ w) ρ ds vs
  | [], ds, hd => by
    simp only [mapO, Option.some.injEq] at hd
    subst hd
    exact ⟨[], by simp, by simp [RL]⟩
  | r :: rs, ds, hd => by
    simp only [mapO, Option.bind_eq_some_iff, Option.map_eq_some_iff] at hd
    obtain ⟨d, h1, ds', h2, rfl⟩ := hd
    obtain ⟨v, h3, h4⟩ := res_spec h h1
    obtain ⟨vs, h5, h6⟩ := run_mapM_results h h2
    refine ⟨v :: vs, by simp only [List.mapM_cons, h3, Sem.run_bind, Sem.run_pure, Result.andThen_ok, h5], ?_⟩
    simp only [RL]
    exact ⟨_, _, rfl, h4, h6⟩
theorem ret_spec {P : Program} {fn : Func} {w0 : World} {p : Pm} {σ : St} {a : Act} {w : World} {ρ : Nat → Option (Option Nat)} (h : RelAt w0 p σ a w ρ) {d : D} (hd : retD P σ fn.results.toList = some d) :
    ∃ v, (results fn a.tmps).run P w = .ok v w ∧ R w (stab p σ.heap ρ w) ρ d v := by
  have hm : ∀ ds, mapO (resD P σ) fn.results.toList = some ds → ∃ vs : List Value, RL w (stab p σ.heap ρ w) ρ ds vs ∧ (results fn a.tmps).run P w = .ok (if h : vs.toArray.size = 1 then vs.toArray[0] else .tuple vs.toArray) w := by
    intro ds hds
    obtain ⟨vs, h1, h2⟩ := run_mapM_results (P := P) h hds
    refine ⟨vs, h2, ?_⟩
    rw [results_eq, ← Array.toArray_toList (xs := fn.results), List.mapM_toArray]
    simp only [Sem.run_bind, Sem.run_map, h1, Result.andThen_ok, Sem.run_pure]
  match hrs : fn.results.toList, hd, hm with
  | [r], hd, hm =>
    simp only [retD] at hd
    obtain ⟨vs, h1, h2⟩ := hm [d] (by simp [mapO, hd])
    simp only [RL] at h1
    obtain ⟨v, vs', rfl, h3, rfl⟩ := h1
    exact ⟨v, by simpa using h2, h3⟩
  | [], hd, hm =>
    simp only [retD, mapO, Option.map_some, Option.some.injEq] at hd
    obtain ⟨vs, h1, h2⟩ := hm [] rfl
    simp only [RL] at h1
    subst h1
    exact ⟨.tuple #[], by simpa using h2, by rw [← hd]; simp only [R]; exact ⟨#[], rfl, by simp [RL]⟩⟩
  | r1 :: r2 :: rs, hd, hm =>
    simp only [retD, Option.map_eq_some_iff] at hd
    obtain ⟨ds, h1, rfl⟩ := hd
    obtain ⟨vs, h2, h3⟩ := hm ds h1
    have hl := RL_length h2
    have hl2 : ∀ (l : List ResultVar) (xs : List D), mapO (resD P σ) l = some xs → xs.length = l.length := by
      intro l
      induction l with
      | nil => intro xs hx; simp only [mapO, Option.some.injEq] at hx; simp [← hx]
      | cons y l ih =>
        intro xs hx
        simp only [mapO, Option.bind_eq_some_iff, Option.map_eq_some_iff] at hx
        obtain ⟨_, _, ys, h5, rfl⟩ := hx
        simp [ih _ h5]
    have := hl2 _ _ h1
    rw [dif_neg (by simp only [List.size_toArray]; simp only [List.length_cons] at this; omega)] at h3
    exact ⟨_, h3, by simp only [R]; exact ⟨vs.toArray, rfl, by simpa using h2⟩⟩

theorem RO.ren {w : World} {st : Nat → Prop} {ρ ρ' : Nat → Option (Option Nat)} {ids : List Nat} {o j : Nat} {x y : Obj} (h : ∀ o, o ∈ ids → ρ' (ids.idxOf o) = ρ o) (hj : ρ' j = ρ o) (hx : renO (renL ids) x = some y) (hr : RO w st ρ o x) : RO w st ρ' j y := by
  cases x with
  | dead => simp only [renO, Option.some.injEq] at hx; subst hx; simp [RO]
  | row k rows => simp only [renO, Option.some.injEq] at hx; subst hx; simp only [RO, hj] at hr ⊢; exact hr
  | box cs =>
    simp only [renO, Option.map_eq_some_iff] at hx
    obtain ⟨l, h1, rfl⟩ := hx
    simp only [RO, hj] at hr ⊢
    obtain ⟨g, cur, e, r1, r2, r3⟩ := hr
    exact ⟨g, cur, e, r1, r2, RL.ren h h1 r3⟩
  | ext e => simp only [renO, Option.some.injEq] at hx; subst hx; simp only [RO, hj] at hr ⊢; exact hr
/-- A function by value, of whose outcome only the family is known. -/
theorem XCalls.of_tri {P : Program} {f : FuncId} {fn : Func} {c : Code} {ins : List Obj} {args : List D} {τ : Type} {I : τ → Prop} {ret : τ → D} {outs : τ → List Obj} (ids keys : List Nat) (hf : P.funcs[f]? = some fn) (hb : fn.body = some c)
    (hcall : ∀ as w, (callFunc f as).run P w = .ok (.enter f as) w) (hids : ids.length = ins.length) (hge : ids.all (fun o => decide (1000 ≤ o)) = true) (hnd : ids.Nodup) (hla : ltL ins.length args = true) (hli : ins.all (ltO ins.length) = true)
    (h : Tri P c (fun e σ => ∃ t, I t ∧ RetOK P fn ids (ret t) (outs t) e σ) { slots := nmL ids args ++ List.replicate (fn.ntmps - args.length) (.sc undef), heap := heapI ids ins keys }) : XCalls P f ins args I ret outs := by
  refine ⟨hcall, fun w st ρ0 vs hst hin hvs => calls_of_wp hf hb ?_⟩
  have hlen := RL_length hvs
  let ρ1 : Nat → Option (Option Nat) := fun o => if o ∈ ids then ρ0 (ids.idxOf o) else none
  have hρ1 : ∀ j, j < ins.length → ρ1 (ids.getD j 0) = ρ0 j := by
    intro j hj
    have hj' : j < ids.length := by omega
    have hm : ids.getD j 0 ∈ ids := by simp only [List.getD, List.getElem?_eq_getElem hj', Option.getD_some]; exact List.getElem_mem hj'
    simp only [ρ1, hm, if_true, idx_getD hnd hj']
  have hhg : ∀ o, hget (heapI ids ins keys) o = if o ∈ ids then nmO ids (ins.getD (ids.idxOf o) .dead) else .dead := fun o => hget_heapI o hids rfl
  have hlive : ∀ o, hget (heapI ids ins keys) o ≠ .dead → o ∈ ids ∧ ins.getD (ids.idxOf o) .dead ≠ .dead := by
    intro o ho
    rw [hhg] at ho
    by_cases hm : o ∈ ids
    · rw [if_pos hm] at ho; exact ⟨hm, fun e => ho (by rw [e]; rfl)⟩
    · rw [if_neg hm] at ho; exact absurd rfl ho
  have hstab : ∀ g, st g → stab ⟨fun g => g < w.heap.size → st g ∨ ownI ins ρ0 g, ownI ins ρ0, ρ1⟩ (heapI ids ins keys) ρ1 w g := by
    intro g hg
    refine ⟨fun _ => .inl hg, hst g hg, fun o ho e => ?_⟩
    obtain ⟨hm, hd⟩ := hlive o ho
    simp only [ρ1, hm, if_true] at e
    exact hin.out _ g hd e hg
  have hrel : Rel w ⟨fun g => g < w.heap.size → st g ∨ ownI ins ρ0 g, ownI ins ρ0, ρ1⟩ { slots := nmL ids args ++ List.replicate (fn.ntmps - args.length) (.sc undef), heap := heapI ids ins keys } { tmps := vs.toArray ++ Array.replicate (fn.ntmps - vs.toArray.size) undef, defers := [] } w := by
    refine ⟨ρ1, ⟨fun g hg => ?_, rfl, ?_, fun o => ?_, fun o o' g ho ho' e e' => ?_, fun o g ho e => ?_, BelowO.refl _ _, fun _ _ => rfl⟩⟩
    · rcases hg with hg | hg
      · intro hlt; omega
      · exact fun _ => .inr hg
    · have e : (vs.toArray ++ Array.replicate (fn.ntmps - vs.toArray.size) undef).toList = vs ++ List.replicate (fn.ntmps - args.length) undef := by simp [hlen]
      rw [e]
      refine RL_append (RL.mono (fun _ _ _ => rfl) (fun _ _ hh => hh) hstab (RL.nm hρ1 hla hvs)) ?_
      · have := RL_sc (w := w) (st := stab ⟨fun g => g < w.heap.size → st g ∨ ownI ins ρ0 g, ownI ins ρ0, ρ1⟩ (heapI ids ins keys) ρ1 w) (ρ := ρ1) (List.replicate (fn.ntmps - args.length) undef)
        simpa using this
    · show RO _ _ _ o (hget (heapI ids ins keys) o)
      rw [hhg]
      by_cases hm : o ∈ ids
      · rw [if_pos hm]
        obtain ⟨h1, h2⟩ := getD_idx hm
        have hli' : ltO ins.length (ins.getD (ids.idxOf o) .dead) = true := by
          have hj : ids.idxOf o < ins.length := by omega
          have := List.all_eq_true.1 hli (ins.getD (ids.idxOf o) .dead) (by simp only [List.getD, List.getElem?_eq_getElem hj, Option.getD_some]; exact List.getElem_mem hj)
          simpa using this
        have h3 := RO.nm (n := ins.length) hρ1 (show ids.idxOf o < ins.length by omega) hli' (hin.objs (ids.idxOf o))
        rw [h2] at h3
        exact RO.mono (fun _ _ _ => rfl) (fun _ _ hh => hh) hstab (fun _ _ => rfl) h3
      · rw [if_neg hm]; simp [RO]
    · obtain ⟨hm, hd⟩ := hlive o ho
      obtain ⟨hm', hd'⟩ := hlive o' ho'
      simp only [ρ1, hm, hm', if_true] at e e'
      have := hin.inj _ _ g hd hd' e e'
      rw [← (getD_idx hm).2, ← (getD_idx hm').2, this]
    · obtain ⟨hm, hd⟩ := hlive o ho
      simp only [ρ1, hm, if_true] at e
      exact .inr ⟨_, hd, e⟩
  refine Code.wp_mono ?_ (h w _ _ w hrel)
  rintro e a' w' ⟨σ1, ⟨t, hIt, σ', himp, he, new, d, hn, hd, ⟨d', hren, hled⟩, xs, hrows, hleo⟩, hr1⟩
  have hr' := himp _ _ _ _ hr1
  obtain ⟨ρ, hr⟩ := hr'
  have hkeep : ∀ j, j < ins.length → ρ (ids.getD j 0) = ρ0 j := by
    intro j hj
    have hj' : j < ids.length := by omega
    have hm : ids.getD j 0 ∈ ids := by simp only [List.getD, List.getElem?_eq_getElem hj', Option.getD_some]; exact List.getElem_mem hj'
    have h1 : 1000 ≤ ids.getD j 0 := by have := List.all_eq_true.1 hge _ hm; simpa using this
    rw [hr.pin _ h1]
    exact hρ1 j hj
  obtain ⟨v, hv, hRv⟩ := ret_spec (P := P) hr hd
  obtain ⟨hl, hg⟩ := outsOf_spec hrows
  have hlx := LeOs.length hleo
  have hρ2 : ∀ o, o ∈ ids ++ new → ρ ((ids ++ new).getD ((ids ++ new).idxOf o) 0) = ρ o := fun o ho => by rw [(getD_idx ho).2]
  have hlv : ∀ j, (outs t).getD j .dead ≠ .dead → j < (outs t).length ∧ hget σ'.heap ((ids ++ new).getD j 0) ≠ .dead := by
    intro j h
    have hj : j < (outs t).length := by
      by_cases hj : j < (outs t).length
      · exact hj
      · exfalso; apply h; simp [List.getD, List.getElem?_eq_none (Nat.le_of_not_lt hj)]
    exact ⟨hj, (renO_live (hg j (by omega))).1 ((hleo.get j).live h)⟩
  have hmono : ∀ g, stab ⟨fun g => g < w.heap.size → st g ∨ ownI ins ρ0 g, ownI ins ρ0, ρ1⟩ σ'.heap ρ w' g → stO w w' st (ownI ins ρ0) (fun j => ρ ((ids ++ new).getD j 0)) (outs t) g := by
    intro g hs
    refine ⟨?_, fun j hj e => hs.2.2 _ (hlv j hj).2 e⟩
    by_cases hlt : g < w.heap.size
    · rcases hs.1 hlt with h1 | h1
      · exact .inl h1
      · exact .inr (.inl h1)
    · exact .inr (.inr ⟨by omega, hs.2.1⟩)
  have hout : ∃ t, I t ∧ ∃ v', Ending.returned v = .returned v' ∧ ∃ ρ', OutsAt w w' st ρ0 ρ' ins (ret t) (outs t) v' := by
    refine ⟨t, hIt, v, rfl, fun j => ρ ((ids ++ new).getD j 0), hr.below, fun j hj => ?_, ?_, fun j => ?_, fun j g hj e => ?_, fun j j' g hj hj' e e' => ?_⟩
    · have : (ids ++ new).getD j 0 = ids.getD j 0 := by simp [List.getD, List.getElem?_append_left (show j < ids.length by omega)]
      rw [this]; exact hkeep j hj
    · exact R.mono (fun _ _ _ => rfl) (fun _ _ hh => hh) hmono (R.le hled (R.ren hρ2 hren hRv))
    · by_cases hj : j < (outs t).length
      · exact RO.mono (fun _ _ _ => rfl) (fun _ _ hh => hh) hmono (fun _ _ => rfl) (RO.le (hleo.get j) (RO.ren (o := (ids ++ new).getD j 0) hρ2 rfl (hg j (by omega)) (hr.objs _)))
      · simp [List.getD, List.getElem?_eq_none (Nat.le_of_not_lt hj), RO]
    · exact hr.fresh _ g (hlv j hj).2 e
    · have heq := hr.inj _ _ g (hlv j hj).2 (hlv j' hj').2 e e'
      have e1 := idx_getD hn (j := j) (by have := (hlv j hj).1; omega)
      have e2 := idx_getD hn (j := j') (by have := (hlv j' hj').1; omega)
      rw [← e1, ← e2, heq]
  rcases he with rfl | rfl
  · exact ⟨hr.defers, v, hv, hout⟩
  · exact ⟨hr.defers, v, hv, hout⟩
theorem MCalls.of_tri {P : Program} {f : FuncId} {fn : Func} {c : Code} {ins : List Obj} {args : List D} {ret : D} {outs : List Obj} (ids keys : List Nat) (hf : P.funcs[f]? = some fn) (hb : fn.body = some c)
    (hcall : ∀ as w, (callFunc f as).run P w = .ok (.enter f as) w) (hids : ids.length = ins.length) (hge : ids.all (fun o => decide (1000 ≤ o)) = true) (hnd : ids.Nodup) (hla : ltL ins.length args = true) (hli : ins.all (ltO ins.length) = true)
    (h : Tri P c (RetOK P fn ids ret outs) { slots := nmL ids args ++ List.replicate (fn.ntmps - args.length) (.sc undef), heap := heapI ids ins keys }) : MCalls P f ins args ret outs := by
  have hx := XCalls.of_tri (I := fun _ : Unit => True) (ret := fun _ => ret) (outs := fun _ => outs) ids keys hf hb hcall hids hge hnd hla hli (Tri.mono h fun e σ hq => ⟨(), trivial, hq⟩)
  refine ⟨hx.call, fun w st ρ vs h1 h2 h3 => (hx.run w st ρ vs h1 h2 h3).mono ?_⟩
  rintro e w' ⟨_, _, v, rfl, ho⟩
  exact ⟨v, rfl, ho⟩
end Go.Avm
