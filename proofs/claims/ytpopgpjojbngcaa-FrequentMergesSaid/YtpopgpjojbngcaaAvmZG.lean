/- The abstract machine, part ZG: an object passes to another name, wherever it is named. -/
import Derived.Test.YtpopgpjojbngcaaAvmZF
namespace Go.Avm
set_option linter.unusedVariables false
set_option linter.unusedSimpArgs false
open Go.RowKit
mutual
/-- o is named d from now on; what was named d is forgotten. -/
def rnD (o d : Nat) : D → D
  | .ref o' off => if o' = o then .ref d off else if o' = d then .any else .ref o' off
  | .elt o' k' i off => if o' = o then .elt d k' i off else if o' = d then .any else .elt o' k' i off
  | .slo o' k' off len => if o' = o then .slo d k' off len else if o' = d then .any else .slo o' k' off len
  | .agg cs => .agg (rnL o d cs)
  | .tup cs => .tup (rnL o d cs)
  | .fn f cs => .fn f (rnL o d cs)
  | .any => .any
  | .sc v => .sc v
  | .sl k rows => .sl k rows
  | .ro cs => .ro cs
def rnL (o d : Nat) : List D → List D
  | [] => []
  | c :: cs => rnD o d c :: rnL o d cs
end
def Obj.rn (o d : Nat) : Obj → Obj
  | .box cs => .box (rnL o d cs)
  | x => x
def hrn (o d : Nat) : List (Nat × Obj) → List (Nat × Obj)
  | [] => []
  | (q, x) :: h => (q, x.rn o d) :: hrn o d h
def St.rn (σ : St) (o d : Nat) : St := { slots := rnL o d σ.slots, heap := hset (hset (hrn o d σ.heap) o .dead) d ((hget σ.heap o).rn o d) }
theorem hget_hrn {o d : Nat} : ∀ {h : List (Nat × Obj)} {o' : Nat}, hget (hrn o d h) o' = (hget h o').rn o d
  | [], _ => by simp [hrn, hget, Obj.rn]
  | (q, x) :: h, o' => by
    by_cases e : q = o'
    · simp [hrn, hget, e]
    · simp [hrn, hget, e, hget_hrn]
theorem hhas_hrn {o d : Nat} : ∀ {h : List (Nat × Obj)} {o' : Nat}, hhas (hrn o d h) o' = hhas h o'
  | [], _ => by simp [hrn, hhas]
  | (q, x) :: h, o' => by simp [hrn, hhas, hhas_hrn]
section
variable {w : World} {st : Nat → Prop} {ρ ρ' : Nat → Option (Option Nat)} {o d : Nat}
mutual
theorem R.rn (h1 : ρ' d = ρ o) (h2 : ∀ x, x ≠ d → ρ' x = ρ x) : ∀ {c : D} {v : Value}, R w st ρ c v → R w st ρ' (rnD o d c) v
  | .any, _, _ => by simp [rnD, R]
  | .sc _, _, hd => by simpa [rnD, R] using hd
  | .sl _ _, _, hd => by simpa [rnD, R] using hd
  | .ro _, _, hd => by simpa [rnD, R] using hd
  | .agg _, _, hd | .tup _, _, hd | .fn _ _, _, hd => by
    simp only [rnD, R] at hd ⊢
    obtain ⟨vs, h3, h4⟩ := hd
    exact ⟨vs, h3, RL.rn h1 h2 h4⟩
  | .ref o' _, _, hd | .elt o' _ _ _, _, hd | .slo o' _ _ _, _, hd => by
    simp only [rnD]
    split
    · rename_i e
      subst e
      simp only [R, h1] at hd ⊢
      exact hd
    · split
      · simp [R]
      · rename_i e
        simp only [R, h2 _ e] at hd ⊢
        exact hd
theorem RL.rn (h1 : ρ' d = ρ o) (h2 : ∀ x, x ≠ d → ρ' x = ρ x) : ∀ {cs : List D} {vs : List Value}, RL w st ρ cs vs → RL w st ρ' (rnL o d cs) vs
  | [], _, hd => by simpa [rnL, RL] using hd
  | _ :: _, _, hd => by
    simp only [rnL, RL] at hd ⊢
    obtain ⟨v, vs', h3, h4, h5⟩ := hd
    exact ⟨v, vs', h3, R.rn h1 h2 h4, RL.rn h1 h2 h5⟩
end
end
theorem Imp.ren (σ : St) (o d : Nat) (hne : o ≠ d) (hh : hfree σ.heap d = true) : Imp σ (σ.rn o d) := by
  rintro w0 p a w ⟨ρ, h⟩
  obtain ⟨hd1, hd2⟩ := hfree_iff.1 hh
  have hget' : ∀ x, hget (σ.rn o d).heap x = if x = d then (hget σ.heap o).rn o d else if x = o then .dead else (hget σ.heap x).rn o d := by
    intro x
    unfold St.rn
    by_cases e : x = d
    · subst e
      rw [if_pos rfl]
      exact hget_hset_same (by rw [hhas_hset, hhas_hrn]; exact hd1)
    · rw [if_neg e, hget_hset_other e]
      by_cases e2 : x = o
      · subst e2
        rw [if_pos rfl]
        cases hx : hhas (hrn x d σ.heap) x with
        | true => exact hget_hset_same hx
        | false =>
          cases hy : hget (hset (hrn x d σ.heap) x .dead) x with
          | dead => rfl
          | _ =>
            have := hhas_of_hget (h := hset (hrn x d σ.heap) x .dead) (o := x) (by rw [hy]; simp)
            rw [hhas_hset, hx] at this
            cases this
      · rw [if_neg e2, hget_hset_other e2, hget_hrn]
  have hfd : ∀ x : Obj, x.rn o d ≠ .dead ↔ x ≠ .dead := by intro x; cases x <;> simp [Obj.rn]
  have hρ1 : (fun x => if x = d then ρ o else ρ x) d = ρ o := by simp
  have hρ2 : ∀ x, x ≠ d → (fun x => if x = d then ρ o else ρ x) x = ρ x := fun x hx => by simp [hx]
  have live : ∀ x, hget (σ.rn o d).heap x ≠ .dead → ∃ y, hget σ.heap y ≠ .dead ∧ (if x = d then ρ o else ρ x) = ρ y ∧ (if x = d then o else x) = y := by
    intro x hx
    rw [hget'] at hx
    by_cases e : x = d
    · subst e
      rw [if_pos rfl, hfd] at hx
      exact ⟨o, hx, by simp, by simp⟩
    · rw [if_neg e] at hx
      by_cases e2 : x = o
      · simp [e2] at hx
      · rw [if_neg e2, hfd] at hx
        exact ⟨x, hx, by simp [e], by simp [e]⟩
  have hst : ∀ g, stab p σ.heap ρ w g → stab p (σ.rn o d).heap (fun x => if x = d then ρ o else ρ x) w g := fun g hs => ⟨hs.1, hs.2.1, fun x hx => by
    obtain ⟨y, hy, e, _⟩ := live x hx
    simp only [e]
    exact hs.2.2 y hy⟩
  have robj : ∀ x y, (if x = d then ρ o else ρ x) = ρ y → RO w (stab p (σ.rn o d).heap (fun x => if x = d then ρ o else ρ x) w) (fun x => if x = d then ρ o else ρ x) x ((hget σ.heap y).rn o d) := by
    intro x y e
    have h1 := RO.mono (fun _ _ _ => rfl) (fun _ _ hs => hs) hst (fun _ _ => rfl) (h.objs y)
    cases hx : hget σ.heap y with
    | dead => simp [RO, Obj.rn]
    | row k' rows' =>
      rw [hx] at h1
      simp only [RO, Obj.rn, e] at h1 ⊢
      exact h1
    | box cs =>
      rw [hx] at h1
      simp only [RO, Obj.rn, e] at h1 ⊢
      obtain ⟨g, cur, e', r1, r2, r3⟩ := h1
      exact ⟨g, cur, e', r1, r2, RL.rn hρ1 hρ2 r3⟩
    | ext e' =>
      rw [hx] at h1
      simp only [RO, Obj.rn, e] at h1 ⊢
      exact h1
  refine ⟨fun x => if x = d then ρ o else ρ x, h.open_, h.defers, RL.rn hρ1 hρ2 (RL.mono (fun _ _ _ => rfl) (fun _ _ hs => hs) hst h.slots), fun x => ?_, fun x1 x2 g h1 h2 e1 e2 => ?_, fun x g h1 e1 => ?_, h.below, fun x hx => ?_⟩
  · rw [hget']
    by_cases e : x = d
    · rw [if_pos e]; exact robj x o (by simp [e])
    · rw [if_neg e]
      by_cases e2 : x = o
      · simp [e2, RO]
      · rw [if_neg e2]; exact robj x x (by simp [e])
  · obtain ⟨y1, l1, m1, n1⟩ := live x1 h1
    obtain ⟨y2, l2, m2, n2⟩ := live x2 h2
    have := h.inj y1 y2 g l1 l2 (m1 ▸ e1) (m2 ▸ e2)
    rw [hget'] at h1 h2
    by_cases c1 : x1 = d <;> by_cases c2 : x2 = d
    · rw [c1, c2]
    · simp only [c1, c2, if_true, if_false] at n1 n2
      simp only [c2, if_false] at h2
      rw [← n2, ← n1] at this
      rw [← this] at h2
      simp at h2
    · simp only [c1, c2, if_true, if_false] at n1 n2
      simp only [c1, if_false] at h1
      rw [← n2, ← n1] at this
      rw [this] at h1
      simp at h1
    · simp only [c1, c2, if_false] at n1 n2
      rw [n1, n2]; exact this
  · obtain ⟨y, l1, m1, _⟩ := live x h1
    exact h.fresh y g l1 (m1 ▸ e1)
  · have : x ≠ d := by omega
    simp only [this, if_false]
    exact h.pin x hx
section
variable {P : Program} {Q : Exit → St → Prop} {σ σ' : St}
theorem Tri.rn {c : Code} (o d : Nat) (hne : o ≠ d) (hh : hfree σ.heap d = true) (he : σ.rn o d = σ') (h : Tri P c Q σ') : Tri P c Q σ := Tri.imp (he ▸ Imp.ren σ o d hne hh) h
theorem Imp.rnTo {σ2 : St} (o d : Nat) (hne : o ≠ d) (hh : hfree σ.heap d = true) (he : σ.rn o d = σ') (h : Imp σ' σ2) : Imp σ σ2 := Imp.trans (he ▸ Imp.ren σ o d hne hh) h
theorem RetOK.rn {fn : Func} {ids : List Nat} {ret : D} {outs : List Obj} {e : Exit} (o d : Nat) (hne : o ≠ d) (hh : hfree σ.heap d = true) (he : σ.rn o d = σ') (h : RetOK P fn ids ret outs e σ') : RetOK P fn ids ret outs e σ := RetOK.imp (he ▸ Imp.ren σ o d hne hh) h
end
section
variable {P : Program} {σ σ' : St} {ty ty' : TypeId} {pos pos' : String} {af af' : Array Edge} {i j t1 t2 t3 u : Nat} {ops : Array Oper} {K : St → Prop} {fuel : Nat} {listed : Array Bool} {p : Pl} {t : TypeId} {x : Operand}
attribute [local semireducible] AnyP
/-- A flag and what joins it, the flag known to be true. -/
theorem AnyP.Ot (hi : ops[i]? = some ⟨some t2, .load t x, ty, pos, af, some (u, false)⟩) (hj : ops[j]? = some ⟨some t3, .pick (.tmp t1) (.const (.bool true)) (.tmp t2), ty', pos', af', none⟩) (hs : gslot (dsOf ops) (some (u, false)) = some t1) (hb : evl σ (.tmp t1) = .sc (.bool true)) (hne : t1 ≠ t2)
    (hx : (σ.put (some t2) .any).put (some t3) (.sc (.bool true)) = σ') (hn : AnyP P ops K p fuel ((listed.setIfInBounds i true).setIfInBounds j true) σ') : AnyP P ops K (.q i j p) (fuel + 1 + 1) listed σ := fun hk => by
  simp only [Pl.ok, Bool.and_eq_true] at hk
  subst hx
  have hg := gslot_some (w := false) hs hb
  refine AnyG.ro (ds := dsOf ops) (σ' := σ.put (some t2) (.sc undef)) i hi rfl hk.1 (.inr (by rw [hg]; rfl)) (by simp [astepC, hg]) (AnyG.first (ds := dsOf ops) (σ' := (σ.put (some t2) (.sc undef)).put (some t3) (.sc (.bool true))) j hj rfl hk.2.1 rfl ?_ (AnyG.imp impU (hn hk.2.2)))
  simp [astepC, aguardC, aval, evl_put_ne hne, hb, evl_true]
end
attribute [go_sem] rnD rnL Obj.rn hrn St.rn
end Go.Avm
