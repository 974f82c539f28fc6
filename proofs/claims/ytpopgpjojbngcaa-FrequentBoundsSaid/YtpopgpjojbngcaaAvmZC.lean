/- The abstract machine, part ZC: a box by value from some point on; drawn regions in which loads from blocks that stay are taken first. -/
import Derived.Test.YtpopgpjojbngcaaAvmZB
namespace Go.Avm
set_option linter.unusedVariables false
set_option linter.unusedSimpArgs false
open Go.RowKit
mutual
/-- A box by value from now on. -/
def bxD (o : Nat) (bs : List D) : D → D
  | .ref o' off => if o' = o then .ro (bs.drop off) else .ref o' off
  | .elt o' k' i off => if o' = o then .any else .elt o' k' i off
  | .slo o' k' off len => if o' = o then .any else .slo o' k' off len
  | .agg cs => .agg (bxL o bs cs)
  | .tup cs => .tup (bxL o bs cs)
  | .fn f cs => .fn f (bxL o bs cs)
  | .any => .any
  | .sc v => .sc v
  | .sl k rows => .sl k rows
  | .ro cs => .ro cs
def bxL (o : Nat) (bs : List D) : List D → List D
  | [] => []
  | d :: ds => bxD o bs d :: bxL o bs ds
end
def Obj.bx (o : Nat) (bs : List D) : Obj → Obj
  | .box cs => .box (bxL o bs cs)
  | x => x
def hbx (o : Nat) (bs : List D) : List (Nat × Obj) → List (Nat × Obj)
  | [] => []
  | (q, x) :: h => (q, x.bx o bs) :: hbx o bs h
def St.bx (σ : St) (o : Nat) (bs : List D) : St := { slots := bxL o bs σ.slots, heap := hset (hbx o bs σ.heap) o .dead }
theorem hget_hbx {o : Nat} {bs : List D} : ∀ {h : List (Nat × Obj)} {o' : Nat}, hget (hbx o bs h) o' = (hget h o').bx o bs
  | [], _ => by simp [hbx, hget, Obj.bx]
  | (q, x) :: h, o' => by
    by_cases e : q = o'
    · simp [hbx, hget, e]
    · simp [hbx, hget, e, hget_hbx]
theorem hhas_hbx {o : Nat} {bs : List D} : ∀ {h : List (Nat × Obj)} {o' : Nat}, hhas (hbx o bs h) o' = hhas h o'
  | [], _ => by simp [hbx, hhas]
  | (q, x) :: h, o' => by simp [hbx, hhas, hhas_hbx]
section
variable {w : World} {st : Nat → Prop} {ρ : Nat → Option (Option Nat)} {o : Nat} {bs : List D}
mutual
theorem R.bx (hr : ∀ g, ρ o = some (some g) → st g ∧ ∀ off, RC w st g off (bs.drop off)) : ∀ {d : D} {v : Value}, R w st ρ d v → R w st ρ (bxD o bs d) v
  | .any, _, _ => by simp [bxD, R]
  | .sc _, _, hd => by simpa [bxD, R] using hd
  | .sl _ _, _, hd => by simpa [bxD, R] using hd
  | .ro _, _, hd => by simpa [bxD, R] using hd
  | .agg _, _, hd | .tup _, _, hd | .fn _ _, _, hd => by
    simp only [bxD, R] at hd ⊢
    obtain ⟨vs, h1, h2⟩ := hd
    exact ⟨vs, h1, RL.bx hr h2⟩
  | .ref o' off, _, hd => by
    by_cases e : o' = o
    · subst e
      simp only [bxD, if_true, R] at hd ⊢
      obtain ⟨g, h1, h2⟩ := hd
      exact ⟨g, off, h2, (hr g h1).1, (hr g h1).2 off⟩
    · simp only [bxD, if_neg e]; exact hd
  | .elt o' _ _ _, _, hd => by
    by_cases e : o' = o
    · simp [bxD, e, R]
    · simp only [bxD, if_neg e]; exact hd
  | .slo o' _ _ _, _, hd => by
    by_cases e : o' = o
    · simp [bxD, e, R]
    · simp only [bxD, if_neg e]; exact hd
theorem RL.bx (hr : ∀ g, ρ o = some (some g) → st g ∧ ∀ off, RC w st g off (bs.drop off)) : ∀ {ds : List D} {vs : List Value}, RL w st ρ ds vs → RL w st ρ (bxL o bs ds) vs
  | [], _, hd => by simpa [bxL, RL] using hd
  | _ :: _, _, hd => by
    simp only [bxL, RL] at hd ⊢
    obtain ⟨v, vs', h1, h2, h3⟩ := hd
    exact ⟨v, vs', h1, R.bx hr h2, RL.bx hr h3⟩
end
end
theorem RC_of_RL' {w : World} {st : Nat → Prop} {ρ : Nat → Option (Option Nat)} {g : Nat} : ∀ {cs : List D} {vs : List Value} {off : Nat}, pureL cs = true → RL w st ρ cs vs → (∀ j v, vs[j]? = some v → w.cell? ⟨g, off + j, none⟩ = some v ∧ v.oneCell' = true) → RC w st g off cs
  | [], _, _, _, _, _ => by simp [RC]
  | c :: cs, vs, off, hc, h, hv => by
    simp only [pureL, Bool.and_eq_true] at hc
    simp only [RL] at h
    obtain ⟨v, vs', rfl, h2, h3⟩ := h
    have h0 := hv 0 v rfl
    simp only [RC]
    refine ⟨⟨v, h0.1, h0.2, pureD_spec hc.1 h2⟩, RC_of_RL' hc.2 h3 fun j u hj => ?_⟩
    have := hv (j + 1) u (by simpa using hj)
    rw [show off + 1 + j = off + (j + 1) by omega]; exact this
def bxOk : List D → Bool
  | [] => true
  | d :: ds => pureD d && oneD d && bxOk ds
theorem bxOk_spec : ∀ {cs : List D}, bxOk cs = true → pureL cs = true ∧ cs.all oneD = true
  | [], _ => ⟨rfl, rfl⟩
  | d :: ds, h => by
    simp only [bxOk, Bool.and_eq_true] at h
    have := bxOk_spec h.2
    simp only [pureL, List.all_cons, Bool.and_eq_true]
    exact ⟨⟨h.1.1, this.1⟩, h.1.2, this.2⟩
theorem Imp.freezeB (σ : St) (o : Nat) (bs : List D) (hg : hget σ.heap o = .box bs) (hok : bxOk bs = true) : Imp σ (σ.bx o bs) := by
  rintro w0 p a w ⟨ρ, h⟩
  obtain ⟨hcls, hone⟩ := bxOk_spec hok
  have hh : hhas σ.heap o = true := hhas_of_hget (by rw [hg]; simp)
  have hget' : ∀ o', hget (σ.bx o bs).heap o' = if o' = o then .dead else (hget σ.heap o').bx o bs := by
    intro o'
    unfold St.bx
    by_cases e : o' = o
    · subst e; rw [if_pos rfl]; exact hget_hset_same (by rw [hhas_hbx]; exact hh)
    · rw [if_neg e, hget_hset_other e, hget_hbx]
  have hfd : ∀ x : Obj, x.bx o bs ≠ .dead ↔ x ≠ .dead := by intro x; cases x <;> simp [Obj.bx]
  have live : ∀ o', hget (σ.bx o bs).heap o' ≠ .dead → o' ≠ o ∧ hget σ.heap o' ≠ .dead := by
    intro o' ho'
    rw [hget'] at ho'
    by_cases e : o' = o
    · simp [e] at ho'
    · rw [if_neg e, hfd] at ho'; exact ⟨e, ho'⟩
  have hst : ∀ g, stab p σ.heap ρ w g → stab p (σ.bx o bs).heap ρ w g := fun g hs => ⟨hs.1, hs.2.1, fun o' ho' => hs.2.2 o' (live o' ho').2⟩
  have hro := h.objs o
  rw [hg] at hro
  simp only [RO] at hro
  obtain ⟨g0, cur, e', r1, r2, r3⟩ := hro
  have hr : ∀ g, ρ o = some (some g) → stab p (σ.bx o bs).heap ρ w g ∧ ∀ off, RC w (stab p (σ.bx o bs).heap ρ w) g off (bs.drop off) := by
    intro g e
    have hlt := (h.objs o).lt (by rw [hg]; simp) e
    rw [r1] at e
    simp only [Option.some.injEq] at e
    subst e
    have hone' := RL_one hone r3
    have hrc : RC w (stab p (σ.bx o bs).heap ρ w) g0 0 bs := by
      refine RC_of_RL' hcls (RL.mono (fun _ _ _ => rfl) (fun _ _ hs => hs) hst r3) fun j v hj => ⟨?_, hone' v (List.mem_of_getElem? hj)⟩
      rw [Nat.zero_add, cell_of_row w g0 j cur e' (0, 0) r2, ← Array.getElem?_toList]; exact hj
    refine ⟨⟨h.open_ g0 (h.fresh o g0 (by rw [hg]; simp) r1), hlt, fun o' ho' e2 => ?_⟩, fun off => ?_⟩
    · obtain ⟨n1, l1⟩ := live o' ho'
      exact n1 (h.inj o' o g0 l1 (by rw [hg]; simp) e2 r1)
    · have := RC_drop off hrc
      rw [Nat.zero_add] at this
      exact this
  refine ⟨ρ, h.open_, h.defers, RL.bx hr (RL.mono (fun _ _ _ => rfl) (fun _ _ hs => hs) hst h.slots), fun o' => ?_, fun o1 o2 g h1 h2 => h.inj o1 o2 g (live o1 h1).2 (live o2 h2).2, fun o1 g h1 => h.fresh o1 g (live o1 h1).2, h.below, h.pin⟩
  rw [hget']
  by_cases e : o' = o
  · simp [e, RO]
  · rw [if_neg e]
    have h1 := RO.mono (fun _ _ _ => rfl) (fun _ _ hs => hs) hst (fun _ _ => rfl) (h.objs o')
    cases hx : hget σ.heap o' with
    | dead => simp [RO, Obj.bx]
    | row k' rows' => rw [hx] at h1; exact h1
    | box cs =>
      rw [hx] at h1
      simp only [RO, Obj.bx] at h1 ⊢
      obtain ⟨g, cur, e', r1, r2, r3⟩ := h1
      exact ⟨g, cur, e', r1, r2, RL.bx hr r3⟩
    | ext e' => rw [hx] at h1; exact h1
section
variable {P : Program} {ds : List (Option Nat)} {Q : Exit → St → Prop} {σ σ' : St} {l : List Oper}
theorem TriD.bx (o : Nat) {bs : List D} (hg : hget σ.heap o = .box bs) (hok : bxOk bs = true) (he : σ.bx o bs = σ') (hn : TriD P ds Q l σ') : TriD P ds Q l σ :=
  fun all ha w0 p a w hr => hn all ha w0 p a w (by subst he; exact Imp.freezeB σ o bs hg hok w0 p a w hr)
theorem Tri.bx {c : Code} (o : Nat) {bs : List D} (hg : hget σ.heap o = .box bs) (hok : bxOk bs = true) (he : σ.bx o bs = σ') (hn : Tri P c Q σ') : Tri P c Q σ := by subst he; exact Tri.imp (Imp.freezeB σ o bs hg hok) hn
end
attribute [go_sem] bxD bxL Obj.bx hbx St.bx bxOk

/-! Drawn regions: the orders, with what lasts beside. -/
section
variable {P : Program} {ops : Array Oper} {Q Q' : Exit → Act → World → Prop} {G G' : World → Prop}
def wpAnyG (P : Program) (ops : Array Oper) (G : World → Prop) (Q : Exit → Act → World → Prop) : Nat → Array Bool → Act → World → Prop
  | 0, listed, a, w => Region.ready .any ops listed = [] ∧ Q .normal a w
  | fuel + 1, listed, a, w => (Region.ready .any ops listed = [] → Q .normal a w) ∧
    ∀ i ∈ Region.ready .any ops listed, wpOp P ops Q i (fun a' w' => G w' ∧ wpAnyG P ops G Q fuel (listed.setIfInBounds i true) a' w') a w
theorem wpAnyG_drop : ∀ (fuel : Nat) (listed : Array Bool) (a : Act) (w : World), wpAnyG P ops G Q fuel listed a w → wpAny P .any ops Q fuel listed a w
  | 0, _, _, _, h => h
  | fuel + 1, listed, a, w, h => ⟨h.1, fun i hi => wpOp_mono (fun a' w' h' => wpAnyG_drop fuel _ a' w' h'.2) (h.2 i hi)⟩
theorem wpOp_monoQ {i : Nat} {a : Act} {w : World} {K : Act → World → Prop} (hq : ∀ e a w, Q e a w → Q' e a w) (h : wpOp P ops Q i K a w) : wpOp P ops Q' i K a w := by
  unfold wpOp at h ⊢
  split
  · rename_i h0; simpa [h0] using h
  · rename_i o ho
    simp only [ho] at h
    split
    · rename_i hw
      rw [if_pos hw] at h
      exact h.imp (fun h2 => Oper.wp_monoQ_ hq h2) (fun h2 => ⟨h2.1, by obtain ⟨a, w, h3⟩ := h2.2; exact ⟨a, w, hq _ _ _ h3⟩⟩)
    · rename_i hw
      rw [if_neg hw] at h
      exact h
theorem wpAnyG_mono (hg : ∀ w, G w → G' w) (hq : ∀ e a w, Q e a w → Q' e a w) : ∀ (fuel : Nat) (listed : Array Bool) (a : Act) (w : World), wpAnyG P ops G Q fuel listed a w → wpAnyG P ops G' Q' fuel listed a w
  | 0, _, _, _, h => ⟨h.1, hq _ _ _ h.2⟩
  | fuel + 1, listed, a, w, h => ⟨fun h0 => hq _ _ _ (h.1 h0), fun i hi => wpOp_monoQ hq (wpOp_mono (fun a' w' h' => ⟨hg _ h'.1, wpAnyG_mono hg hq fuel _ a' w' h'.2⟩) (h.2 i hi))⟩
/-- In each world that G lets, the operation yields v. -/
def YieldsG (P : Program) (ops : Array Oper) (G : World → Prop) (o : Oper) (v : Value) (a : Act) : Prop :=
  (Region.wanted o (yielded ops a.tmps) = true ∧ ∀ w, G w → (execOp a.eval o).run P w = .ok (.value v) w) ∨ (Region.wanted o (yielded ops a.tmps) = false ∧ v = undef)
theorem YieldsG.wpOp {i : Nat} {o : Oper} {v : Value} {a : Act} (hi : ops[i]? = some o) (hy : YieldsG P ops G o v a) {K : Act → World → Prop} {w : World} (hG : G w) (h : K (a.put o.dst v) w) : wpOp P ops Q i K a w := by
  unfold Go.wpOp
  simp only [hi]
  rcases hy with ⟨h1, h2⟩ | ⟨h1, h2⟩
  · rw [if_pos h1]
    left
    unfold Oper.wp
    rw [h2 w hG]
    exact h
  · rw [if_neg (by rw [h1]; simp), ← h2]; exact h
/-- Another operation, the value of the first one not yet put. -/
theorem wpOp_unput {j : Nat} {oj : Oper} {d : Option Tmp} {v : Value} {K : Act → World → Prop} {a : Act} {w : World} (Y : Act → Prop) (hj : ops[j]? = some oj) (hl : ∀ x, d = some x → x ∉ oj.looksAt ops) (hd : ∀ x, d = some x → oj.dst ≠ some x)
    (hsj : ∀ cs b, oj.op ≠ .select cs b) (hQ : ∀ c a w, ¬ Q (.panic c) a w) (hY : ∀ u, Y (a.put oj.dst u)) (hYd : ∀ dd u, Y (({ a with defers := dd :: a.defers } : Act).put oj.dst u))
    (h : wpOp P ops Q j K (a.put d v) w) : wpOp P ops Q j (fun a' w' => Y a' ∧ K (a'.put d v) w') a w := by
  have hcomm : ∀ (b : Act) (u : Value), (b.put oj.dst u).put d v = (b.put d v).put oj.dst u := by
    intro b u
    cases hdd : d with
    | none => rfl
    | some x =>
      cases hoo : oj.dst with
      | none => rfl
      | some y =>
        have hne : y ≠ x := fun e => hd x hdd (by rw [hoo, e])
        simp only [Act.put]
        rw [Array.setIfInBounds_comm _ _ hne]
  have hex := execOp_put (ops := ops) oj hsj a d v hl
  unfold wpOp at h ⊢
  simp only [hj, wanted_put oj a d v hl] at h ⊢
  split at h
  · rename_i hw
    rw [if_pos hw]
    refine h.imp (fun h => ?_) (fun h => ⟨by unfold Oper.asks at *; rw [hex] at h; exact h.1, h.2⟩)
    unfold Oper.wp at h ⊢
    rw [hex] at h
    revert h
    generalize (execOp a.eval oj).run P w = r
    intro h
    cases r with
    | halt x w' => cases x <;> simp only [Oper.upon] at h ⊢ <;> first | exact h | exact absurd h (hQ _ _ _)
    | ok n w' =>
      cases n <;> simp only [Oper.upon] at h ⊢
      case value u => exact ⟨hY u, by rw [hcomm]; exact h⟩
      case skip => exact ⟨hY _, by rw [hcomm]; exact h⟩
      case defer dd => exact ⟨hYd dd _, by rw [hcomm, ← Act.put_defers]; exact h⟩
      case enter f args =>
        refine Calls.mono h fun e w'' he => ?_
        cases e with
        | returned u => exact ⟨hY u, by rw [hcomm]; exact he⟩
        | panicked c => exact absurd he (hQ _ _ _)
        | outgrown => exact he
      case row row args => exact Rows.mono h fun u w'' he => ⟨hY u, by rw [hcomm]; exact he⟩
  · rename_i hw
    rw [if_neg hw]
    exact ⟨hY _, by rw [hcomm]; exact h⟩
theorem wpAnyG_first {i : Nat} {oi : Oper} {v : Value} (hi : ops[i]? = some oi) (hsel : Region.noSelect ops = true) (hQ : ∀ c a w, ¬ Q (.panic c) a w) :
    ∀ (fuel : Nat) (listed : Array Bool) (a : Act) (w : World), (∀ j oj, ops[j]? = some oj → j ≠ i → listed.getD j true = false → (∀ e ∈ oj.after, Region.binds .any e = true → e.on ≠ i) → oi.apart ops oj = true) →
      i ∈ Region.ready .any ops listed → YieldsG P ops G oi v a → G w → wpAnyG P ops G Q fuel (listed.setIfInBounds i true) (a.put oi.dst v) w → wpAnyG P ops G Q (fuel + 1) listed a w
  | 0, listed, a, w, _, hr, hy, hG, H => by
    refine ⟨fun h => (by rw [h] at hr; cases hr), fun j hj => ?_⟩
    by_cases hji : j = i
    · subst hji; exact hy.wpOp hi hG ⟨hG, H⟩
    · have := ready_mono hj hji
      rw [H.1] at this
      cases this
  | fuel + 1, listed, a, w, hfree, hr, hy, hG, H => by
    refine ⟨fun h => (by rw [h] at hr; cases hr), fun j hj => ?_⟩
    by_cases hji : j = i
    · subst hji; exact hy.wpOp hi hG ⟨hG, H⟩
    have h1 := H.2 j (ready_mono hj hji)
    obtain ⟨hun, oj, hoj, hall⟩ := mem_ready.1 hj
    have hni : listed.getD i false = false := by
      have h0 := (mem_ready.1 hr).1
      rcases Nat.lt_or_ge i listed.size with h' | h'
      · simp [h'] at h0 ⊢; exact h0
      · simp [Array.getElem?_eq_none h']
    have hap := hfree j oj hoj hji hun fun e he hb heq => by
      have h2 := hall e he hb
      rw [heq, hni] at h2
      cases h2
    obtain ⟨a1, a2, a3⟩ := Oper.apart_spec hap
    have hsi := fun cs b => Region.noSelect_spec hsel i oi cs b hi
    have hsj := fun cs b => Region.noSelect_spec hsel j oj cs b hoj
    have hkeep : ∀ (b : Act), YieldsG P ops G oi v b → ∀ u, YieldsG P ops G oi v (b.put oj.dst u) := fun b hb u => by
      unfold YieldsG at hb ⊢
      rw [execOp_put oi hsi b oj.dst u a3, wanted_put oi b oj.dst u a3]; exact hb
    have h2 := wpOp_unput (fun b => YieldsG P ops G oi v b) hoj a1 (fun x hx e => a2 x hx e) hsj hQ (hkeep a hy) (fun dd u => hkeep { a with defers := dd :: a.defers } hy u) h1
    refine wpOp_mono (fun a' w' h3 => ⟨h3.2.1, ?_⟩) h2
    refine wpAnyG_first hi hsel hQ fuel (listed.setIfInBounds j true) a' w' (fun k ok hk hki hu hno => hfree k ok hk hki ?_ hno) (ready_mono hr (Ne.symm hji)) h3.1 h3.2.1 ?_
    · by_cases hjk : j = k
      · subst hjk; exact hun
      · rw [getD_set_ne true hjk] at hu; exact hu
    · rw [Array.setIfInBounds_comm _ _ hji]; exact h3.2.2
end
theorem RelAt.rebase {w0 : World} {p : Pm} {σ : St} {a : Act} {w : World} {ρ : Nat → Option (Option Nat)} (h : RelAt w0 p σ a w ρ) : RelAt w { p with own := fun g => ∃ o, hget σ.heap o ≠ .dead ∧ ρ o = some (some g) } σ a w ρ where
  open_ := fun g hg => by
    rcases hg with hg | ⟨o, h1, h2⟩
    · exact h.open_ g (.inl (Nat.le_trans h.below.size hg))
    · exact h.open_ g (h.fresh o g h1 h2)
  defers := h.defers
  slots := h.slots
  objs := h.objs
  inj := h.inj
  fresh := fun o g h1 h2 => .inr ⟨o, h1, h2⟩
  below := BelowO.refl _ _
  pin := h.pin
theorem RelAt.unbase {w0 : World} {p : Pm} {σ σ' : St} {a a' : Act} {w w' : World} {ρ : Nat → Option (Option Nat)} (h : RelAt w0 p σ a w ρ) (h' : Rel w { p with own := fun g => ∃ o, hget σ.heap o ≠ .dead ∧ ρ o = some (some g) } σ' a' w') : Rel w0 p σ' a' w' := by
  obtain ⟨ρ', r⟩ := h'
  refine ⟨ρ', h.open_, r.defers, r.slots, r.objs, r.inj, fun o g h1 h2 => ?_, h.below.trans r.below fun g hg ⟨o, h1, h2⟩ => ?_, r.pin⟩
  · rcases r.fresh o g h1 h2 with h3 | ⟨o', h3, h4⟩
    · exact .inl (Nat.le_trans h.below.size h3)
    · exact h.fresh o' g h3 h4
  · rcases h.fresh o g h1 h2 with h3 | h3
    · omega
    · exact h3
section
variable {P : Program} {σ : St}
/-- A load from a block that stays: the same value in each world in which the block is the same. -/
theorem load_ro {t : TypeId} {x : Operand} {cs : List D} {d : D} (hx : evl σ x = .ro cs) (h : aval P σ (.load t x) = some d) {w0 : World} {p : Pm} {a : Act} {w : World} {ρ : Nat → Option (Option Nat)} {o : Oper} (ho : o.op = .load t x) (hr : RelAt w0 p σ a w ρ) :
    ∃ g v, stab p σ.heap ρ w g ∧ R w (stab p σ.heap ρ w) ρ d v ∧ ∀ w', (∀ off, w'.cell? ⟨g, off, none⟩ = w.cell? ⟨g, off, none⟩) → (execOp a.eval o).run P w' = .ok (.value v) w' := by
  simp only [aval, Option.bind_eq_some_iff] at h
  obtain ⟨ti, ht, cs', hcs, h⟩ := h
  rw [hx] at hcs
  simp only [addrCells, Option.some.injEq] at hcs
  subst hcs
  split at h
  · rename_i hl
    have hX := hr.evl x
    rw [hx] at hX
    simp only [R] at hX
    obtain ⟨g, off, h1, h4, h5⟩ := hX
    obtain ⟨vs, h2, h3⟩ := RC_list (ρ := ρ) h5
    have hlen := RL_length h2
    have htake := RL_take ti.size h2
    refine ⟨g, ?_⟩
    unfold mkD at h
    by_cases hA : ti.kind.isAgg = true
    · rw [if_pos hA] at h
      simp only [Option.some.injEq] at h
      subst h
      have hlt : (vs.take ti.size).length = ti.size := by rw [List.length_take]; omega
      refine ⟨.agg (vs.take ti.size).toArray, h4, ?_, fun w' hw' => ?_⟩
      · simp only [R]
        exact ⟨_, rfl, by simpa using htake⟩
      · obtain ⟨_, hsz, _, _, hag⟩ := run_ti ht w'
        have hrun := run_loadCells_list (P := P) w' ⟨g, off, none⟩ (vs.take ti.size) (fun j v hj => by
          rw [Addr.add_lit]
          rw [List.getElem?_take] at hj
          split at hj
          · rw [hw']; exact h3 j v hj
          · cases hj)
        rw [hlt] at hrun
        simp [execOp, ho, Instr.loadAt, h1, Instr.sureAddr, loadVar, hag, hA, hsz, hrun]
    · rw [if_neg hA] at h
      have hA' : ti.kind.isAgg = false := by simpa using hA
      match hcs : cs.take ti.size, h with
      | [c], hd =>
        simp only [Option.some.injEq] at hd
        subst hd
        rw [hcs] at htake
        simp only [RL] at htake
        obtain ⟨v, vs', e1, e2, e3⟩ := htake
        have hpos : 0 < ti.size := by
          rcases Nat.eq_zero_or_pos ti.size with h0 | h0
          · rw [h0] at hcs; simp at hcs
          · exact h0
        have hv : vs[0]? = some v := by
          have : (vs.take ti.size)[0]? = some v := by rw [e1]; rfl
          rwa [List.getElem?_take_of_lt hpos] at this
        have hc := h3 0 v hv
        simp only [Nat.add_zero] at hc
        refine ⟨v, h4, e2, fun w' hw' => ?_⟩
        obtain ⟨_, hsz, _, _, hag⟩ := run_ti ht w'
        have hc' : w'.cell? ⟨g, off, none⟩ = some v := by rw [hw']; exact hc
        simp [execOp, ho, Instr.loadAt, h1, Instr.sureAddr, loadVar, hag, hA', hc']
  · cases h
end
theorem Rel.below_ {w0 : World} {p : Pm} {σ : St} {a : Act} {w : World} (h : Rel w0 p σ a w) : BelowO p.own w0 w := by obtain ⟨_, h⟩ := h; exact h.below
def AnyG (P : Program) (ops : Array Oper) (K : St → Prop) (fuel : Nat) (listed : Array Bool) (σ : St) : Prop :=
  ∀ w0 p a w, Rel w0 p σ a w → wpAnyG P ops (fun w' => BelowO p.own w0 w') (fun e a' w' => e = .normal ∧ ∃ σ', K σ' ∧ Rel w0 p σ' a' w') fuel listed a w
section
variable {P : Program} {σ σ' : St} {ops : Array Oper} {K : St → Prop} {fuel : Nat} {listed : Array Bool} {ds : List (Option Nat)}
theorem AnyG.done (hr : Region.ready .any ops listed = []) (h : K σ) : AnyG P ops K fuel listed σ := by
  intro w0 p a w hrel
  cases fuel with
  | zero => exact ⟨hr, rfl, σ, h, hrel⟩
  | succ n => exact ⟨fun _ => ⟨rfl, σ, h, hrel⟩, fun i hi => by rw [hr] at hi; cases hi⟩
theorem AnyG.first (i : Nat) {dst : Option Nat} {op : Op} {ty : TypeId} {pos : String} {af : Array Edge} {g : Option (Nat × Bool)} (hi : ops[i]? = some ⟨dst, op, ty, pos, af, g⟩) (hd : ops.toList.map (·.dst) = ds) (ht : takeB ops listed i = true) (hop : hfOp P σ op = true) (h : astepC P ds dst op g σ = some σ')
    (hn : AnyG P ops K fuel (listed.setIfInBounds i true) σ') : AnyG P ops K (fuel + 1) listed σ := by
  simp only [takeB, Bool.and_eq_true] at ht
  obtain ⟨⟨t1, t2⟩, t3⟩ := ht
  rintro w0 p a w hrel
  have hrel0 := hrel
  simp only [astepC, Option.bind_eq_some_iff] at h
  obtain ⟨b, hb, h⟩ := h
  rw [← aguard_C hd ⟨dst, op, ty, pos, af, g⟩ σ] at hb
  have hw := aguard_wanted hb hrel
  obtain ⟨ρ, hr⟩ := hrel
  have hQ : ∀ (c : _) (a' : Act) (w' : World), ¬ (Exit.panic c = Exit.normal ∧ ∃ σ', K σ' ∧ Rel w0 p σ' a' w') := fun c a' w' h => by cases h.1
  cases b
  · simp only [Bool.false_eq_true, if_false, Option.some.injEq] at h
    subst h
    exact wpAnyG_first hi t1 hQ fuel listed a w (Region.free_spec hi t2) (by simpa using t3) (.inr ⟨hw, rfl⟩) hr.below (hn w0 p _ w ⟨ρ, hr.put dst (by simp [R])⟩)
  · simp only [if_true, Option.map_eq_some_iff] at h
    obtain ⟨d, hd', rfl⟩ := h
    obtain ⟨v, hv, hR⟩ := aval_sound hd' w0 p a w ρ ⟨dst, op, ty, pos, af, g⟩ rfl hr
    have hno := (aval_noH hop hd' (o := ⟨dst, op, ty, pos, af, g⟩) rfl hr) w _ _ hv
    exact wpAnyG_first hi t1 hQ fuel listed a w (Region.free_spec hi t2) (by simpa using t3) (.inl ⟨hw, fun w' _ => hno.2 w'⟩) hr.below (hn w0 p _ w ⟨ρ, hr.put dst hR⟩)
def isRo : D → Bool
  | .ro _ => true
  | _ => false
/-- A load from a block that stays is taken first. -/
theorem AnyG.ro (i : Nat) {dst : Option Nat} {t : TypeId} {x : Operand} {ty : TypeId} {pos : String} {af : Array Edge} {g : Option (Nat × Bool)} (hi : ops[i]? = some ⟨dst, .load t x, ty, pos, af, g⟩) (hd : ops.toList.map (·.dst) = ds) (ht : takeB ops listed i = true) (hx : isRo (evl σ x) = true ∨ aguardC ds g σ = some false) (h : astepC P ds dst (.load t x) g σ = some σ')
    (hn : AnyG P ops K fuel (listed.setIfInBounds i true) σ') : AnyG P ops K (fuel + 1) listed σ := by
  simp only [takeB, Bool.and_eq_true] at ht
  obtain ⟨⟨t1, t2⟩, t3⟩ := ht
  rintro w0 p a w hrel
  have hrel0 := hrel
  simp only [astepC, Option.bind_eq_some_iff] at h
  obtain ⟨b, hbC, h⟩ := h
  have hb := hbC
  rw [← aguard_C hd ⟨dst, .load t x, ty, pos, af, g⟩ σ] at hb
  have hw := aguard_wanted hb hrel
  obtain ⟨ρ, hr⟩ := hrel
  cases b
  · simp only [Bool.false_eq_true, if_false, Option.some.injEq] at h
    subst h
    exact wpAnyG_first hi t1 (fun c a' w' h => by cases h.1) fuel listed a w (Region.free_spec hi t2) (by simpa using t3) (.inr ⟨hw, rfl⟩) hr.below (hn w0 p _ w ⟨ρ, hr.put dst (by simp [R])⟩)
  · simp only [if_true, Option.map_eq_some_iff] at h
    obtain ⟨d, hd', rfl⟩ := h
    have hx' : isRo (evl σ x) = true := by
      rcases hx with hx | hx
      · exact hx
      · rw [hbC] at hx; cases hx
    obtain ⟨cs, hcs⟩ : ∃ cs, evl σ x = .ro cs := by
      cases hh : evl σ x <;> rw [hh] at hx' <;> simp [isRo] at hx'
      exact ⟨_, rfl⟩
    obtain ⟨gg, v, s1, s2, s3⟩ := load_ro hcs hd' (o := ⟨dst, .load t x, ty, pos, af, g⟩) rfl hr
    have hput := hr.put dst s2
    have hb1 := hr.rebase
    have H := hn w _ _ w ⟨ρ, hb1.put dst s2⟩
    have hG : ∀ w', BelowO (fun g => ∃ o, hget σ.heap o ≠ .dead ∧ ρ o = some (some g)) w w' → BelowO p.own w0 w' := fun w' hb' => hr.below.trans hb' fun g hg ⟨o, h1, h2⟩ => by
      rcases hr.fresh o g h1 h2 with h3 | h3
      · omega
      · exact h3
    refine wpAnyG_mono hG ?_ _ _ _ _ (wpAnyG_first (G := fun w' => BelowO (fun g => ∃ o, hget σ.heap o ≠ .dead ∧ ρ o = some (some g)) w w') (v := v) hi t1 (fun c a' w' h => by cases h.1) fuel listed a w (Region.free_spec hi t2) (by simpa using t3) (.inl ⟨hw, fun w' hb' => s3 w' fun off => World.cell?_of_block (w := w) (a := ⟨gg, off, none⟩) (hb'.block gg s1.2.1 fun ⟨o, h1, h2⟩ => s1.2.2 o h1 h2)⟩) (BelowO.refl _ _) H)
    · rintro e a' w' ⟨h0, σ', h1, h2⟩
      exact ⟨h0, σ', h1, hr.unbase h2⟩
def NextG (P : Program) (ops : Array Oper) (ds : List (Option Nat)) (K : St → Prop) (fuel : Nat) (listed : Array Bool) (σ : St) (i : Nat) : Prop :=
  ∃ o, ops[i]? = some o ∧ TriD P ds (fun e σ' => e = .normal ∧ AnyG P ops K fuel (listed.setIfInBounds i true) σ') [o] σ
def NextsG (P : Program) (ops : Array Oper) (ds : List (Option Nat)) (K : St → Prop) (fuel : Nat) (listed : Array Bool) (σ : St) : List Nat → Prop
  | [] => True
  | i :: l => NextG P ops ds K fuel listed σ i ∧ NextsG P ops ds K fuel listed σ l
theorem NextsG.all : ∀ {l : List Nat}, NextsG P ops ds K fuel listed σ l → ∀ i ∈ l, NextG P ops ds K fuel listed σ i
  | _ :: l, h, i, hi => by
    rcases List.mem_cons.1 hi with rfl | hi
    · exact h.1
    · exact h.2.all i hi
theorem AnyG.all (rs : List Nat) (hr : Region.ready .any ops listed = rs) (hne : rs ≠ []) (hd : ops.toList.map (·.dst) = ds) (h : NextsG P ops ds K fuel listed σ rs) : AnyG P ops K (fuel + 1) listed σ := by
  intro w0 p a w hrel
  refine ⟨fun h0 => absurd (hr ▸ h0) hne, fun i hi => ?_⟩
  rw [hr] at hi
  obtain ⟨o, ho, ht⟩ := h.all i hi
  have hl := ht ops hd w0 p a w hrel
  unfold wpOp
  simp only [ho]
  simp only [wpList] at hl
  split
  · rename_i hw
    rw [if_pos hw] at hl
    rcases hl with hl | ⟨h1, h2⟩
    · left
      unfold Oper.wp at hl ⊢
      generalize (execOp a.eval o).run P w = r at *
      cases r with
      | ok n w' =>
        cases n <;> simp only [Oper.upon] at hl ⊢ <;> first
          | (obtain ⟨σ', ⟨_, h3⟩, h4⟩ := hl; exact ⟨h4.below_, h3 _ _ _ _ h4⟩)
          | exact Calls.mono hl (fun e w'' he => by
              cases e with
              | returned v => obtain ⟨σ', ⟨_, h3⟩, h4⟩ := he; exact ⟨h4.below_, h3 _ _ _ _ h4⟩
              | panicked c => obtain ⟨σ', ⟨h3, _⟩, _⟩ := he; cases h3
              | outgrown => obtain ⟨_, _, σ', ⟨h3, _⟩, _⟩ := he; cases h3)
          | exact Rows.mono hl (fun v w'' he => by obtain ⟨σ', ⟨_, h3⟩, h4⟩ := he; exact ⟨h4.below_, h3 _ _ _ _ h4⟩)
          | exact hl
      | halt x w' => cases x <;> simp only [Oper.upon] at hl ⊢ <;> first | exact hl | (obtain ⟨σ', ⟨h3, _⟩, _⟩ := hl; cases h3)
    · obtain ⟨_, _, σ', ⟨h3, _⟩, _⟩ := h2; cases h3
  · rename_i hw
    rw [if_neg hw] at hl
    obtain ⟨σ', ⟨_, h3⟩, h4⟩ := hl
    exact ⟨h4.below_, h3 _ _ _ _ h4⟩
theorem NextsG.nil : NextsG P ops ds K fuel listed σ [] := trivial
theorem NextsG.cons {i : Nat} {rs : List Nat} {o : Oper} (ho : ops[i]? = some o) (h : TriD P ds (fun e σ' => e = .normal ∧ AnyG P ops K fuel (listed.setIfInBounds i true) σ') [o] σ) (hn : NextsG P ops ds K fuel listed σ rs) : NextsG P ops ds K fuel listed σ (i :: rs) := ⟨⟨o, ho, h⟩, hn⟩
theorem TriD.nilG (h : AnyG P ops K fuel listed σ) : TriD P ds (fun e σ' => e = .normal ∧ AnyG P ops K fuel listed σ') [] σ := TriD.nil ⟨rfl, h⟩
theorem isNextsG {rs : List Nat} (h : NextsG P ops ds K fuel listed σ rs) : NextsG P ops ds K fuel listed σ rs := h
/-- A drawn region, whatever stands in it. -/
theorem Tri.mixedG (id : Nat) {l : List Oper} {Q : Exit → St → Prop} (hm : P.follows .mixedOrders = true) (n : Nat) (hl : l.length = n) (h : AnyG P l.toArray (Q .normal) n (Array.replicate n false) σ) : Tri P (.region id l.toArray true) Q σ := by
  rintro w0 p a w ⟨ρ, hr⟩
  refine wp_region_any hm ?_
  subst hl
  refine wpAny_mono_ ?_ _ _ _ _ (wpAnyG_drop _ _ _ _ (h w0 p a _ ⟨ρ, hr.drew⟩))
  rintro e a' w' ⟨rfl, h2⟩
  exact h2
end
attribute [go_sem] isRo
end Go.Avm
