/- The abstract machine, part ZD: flags that are joined by 'or' and 'and' without a case for each value. -/
import Derived.Test.YtpopgpjojbngcaaAvmZC
namespace Go.Avm
set_option linter.unusedVariables false
set_option linter.unusedSimpArgs false
open Go.RowKit
/-- What is rewritten under conditions, in one piece. -/
theorem cnd : type_of% (And.intro @Int.fdiv_eq_ediv_of_nonneg (And.intro @tdiv_pos (And.intro @tmod_pos (And.intro @IntWalk.i64_in (And.intro @IntWalk.u8_in (And.intro @IntWalk.u64_in (And.intro @IntWalk.i32_in (And.intro @IntWalk.u32_in (And.intro @if_pos.{1} (And.intro @if_neg.{1} (And.intro @decide_eq_true @decide_eq_false))))))))))) := And.intro @Int.fdiv_eq_ediv_of_nonneg (And.intro @tdiv_pos (And.intro @tmod_pos (And.intro @IntWalk.i64_in (And.intro @IntWalk.u8_in (And.intro @IntWalk.u64_in (And.intro @IntWalk.i32_in (And.intro @IntWalk.u32_in (And.intro @if_pos.{1} (And.intro @if_neg.{1} (And.intro @decide_eq_true @decide_eq_false))))))))))
theorem LeL_set {x y : D} (hx : LeD x y) : ∀ {s s' : List D} (t : Nat), LeL s s' → LeL (s.set t x) (s'.set t y)
  | _, _, _, .nil => .nil
  | _, _, 0, .cons h1 h2 => .cons hx h2
  | _, _, t + 1, .cons h1 h2 => .cons h1 (LeL_set hx t h2)
section
variable {P : Program} {ds : List (Option Nat)} {Q : Exit → St → Prop} {σ σ' : St} {l : List Oper} {op : Op} {ty ty' : TypeId} {pos pos' : String} {af af' : Array Edge} {i t1 t2 t3 : Nat} {b b' : Bool}
theorem gslot_some {w : Bool} (hs : gslot ds (some (i, w)) = some t1) (hb : evl σ (.tmp t1) = .sc (.bool b)) : aguardC ds (some (i, w)) σ = some (b == w) := by
  simp only [gslot] at hs
  simp only [evl] at hb
  simp only [aguardC, hs, Option.bind_some, hb, gB]
theorem evl_put_ne {d : D} (h : t1 ≠ t2) : evl (σ.put (some t2) d) (.tmp t1) = evl σ (.tmp t1) := by
  simp [evl, St.put, List.getD_eq_getElem?_getD, List.getElem?_set_ne (Ne.symm h)]
theorem evl_put_eq {d : D} (h : t2 < σ.slots.length) : evl (σ.put (some t2) d) (.tmp t2) = d := by
  simp [evl, St.put, List.getD_eq_getElem?_getD, h]
theorem impU {d x : D} : Imp ((σ.put (some t2) d).put (some t3) x) ((σ.put (some t2) .any).put (some t3) x) := Imp.le (LeL_set (LeD.refl _) t3 (LeL_set (LeD.any _) t2 (LeL.refl _))) (LeH.refl _)
theorem evl_true : evl σ (.const (.bool true)) = .sc (.bool true) := rfl
theorem evl_false : evl σ (.const (.bool false)) = .sc (.bool false) := rfl
theorem isOr2 (t3 : Nat) (h : TriD P ds Q (⟨some t2, op, ty, pos, af, some (i, false)⟩ :: ⟨some t3, .pick (.tmp t1) (.const (.bool true)) (.tmp t2), ty', pos', af', none⟩ :: l) σ) :
    TriD P ds Q (⟨some t2, op, ty, pos, af, some (i, false)⟩ :: ⟨some t3, .pick (.tmp t1) (.const (.bool true)) (.tmp t2), ty', pos', af', none⟩ :: l) σ := h
theorem isAnd2 (t3 : Nat) (h : TriD P ds Q (⟨some t2, op, ty, pos, af, some (i, true)⟩ :: ⟨some t3, .pick (.tmp t1) (.tmp t2) (.const (.bool false)), ty', pos', af', none⟩ :: l) σ) :
    TriD P ds Q (⟨some t2, op, ty, pos, af, some (i, true)⟩ :: ⟨some t3, .pick (.tmp t1) (.tmp t2) (.const (.bool false)), ty', pos', af', none⟩ :: l) σ := h
theorem TriD.or2 (hs : gslot ds (some (i, false)) = some t1) (hb : evl σ (.tmp t1) = .sc (.bool b)) (hne : t1 ≠ t2) (hlt : t2 < σ.slots.length) (he : isEff op = false) (ho : aval P σ op = some (.sc (.bool b')))
    (hx : (σ.put (some t2) .any).put (some t3) (.sc (.bool (b || b'))) = σ') (hn : TriD P ds Q l σ') : TriD P ds Q (⟨some t2, op, ty, pos, af, some (i, false)⟩ :: ⟨some t3, .pick (.tmp t1) (.const (.bool true)) (.tmp t2), ty', pos', af', none⟩ :: l) σ := by
  subst hx
  have hg := gslot_some (w := false) hs hb
  cases b
  · refine TriD.step (σ' := σ.put (some t2) (.sc (.bool b'))) (by simp [bstepC, hg, he, ho]) (TriD.step (σ' := (σ.put (some t2) (.sc (.bool b'))).put (some t3) (.sc (.bool b'))) ?_ (TriD.imp impU (by simpa using hn)))
    simp [bstepC, aguardC, isEff, aval, evl_put_ne hne, hb, evl_put_eq hlt]
  · refine TriD.step (σ' := σ.put (some t2) (.sc undef)) (by simp [bstepC, hg]) (TriD.step (σ' := (σ.put (some t2) (.sc undef)).put (some t3) (.sc (.bool true))) ?_ (TriD.imp impU (by simpa using hn)))
    simp [bstepC, aguardC, isEff, aval, evl_put_ne hne, hb, evl_true, evl_false]
theorem TriD.and2 (hs : gslot ds (some (i, true)) = some t1) (hb : evl σ (.tmp t1) = .sc (.bool b)) (hne : t1 ≠ t2) (hlt : t2 < σ.slots.length) (he : isEff op = false) (ho : aval P σ op = some (.sc (.bool b')))
    (hx : (σ.put (some t2) .any).put (some t3) (.sc (.bool (b && b'))) = σ') (hn : TriD P ds Q l σ') : TriD P ds Q (⟨some t2, op, ty, pos, af, some (i, true)⟩ :: ⟨some t3, .pick (.tmp t1) (.tmp t2) (.const (.bool false)), ty', pos', af', none⟩ :: l) σ := by
  subst hx
  have hg := gslot_some (w := true) hs hb
  cases b
  · refine TriD.step (σ' := σ.put (some t2) (.sc undef)) (by simp [bstepC, hg]) (TriD.step (σ' := (σ.put (some t2) (.sc undef)).put (some t3) (.sc (.bool false))) ?_ (TriD.imp impU (by simpa using hn)))
    simp [bstepC, aguardC, isEff, aval, evl_put_ne hne, hb, evl_true, evl_false]
  · refine TriD.step (σ' := σ.put (some t2) (.sc (.bool b'))) (by simp [bstepC, hg, he, ho]) (TriD.step (σ' := (σ.put (some t2) (.sc (.bool b'))).put (some t3) (.sc (.bool b'))) ?_ (TriD.imp impU (by simpa using hn)))
    simp [bstepC, aguardC, isEff, aval, evl_put_ne hne, hb, evl_put_eq hlt]
variable {ops : Array Oper} {K : St → Prop} {fuel : Nat} {listed : Array Bool}
theorem AnyG.imp (h : Imp σ σ') (hn : AnyG P ops K fuel listed σ') : AnyG P ops K fuel listed σ := fun w0 p a w hr => hn w0 p a w (h w0 p a w hr)
theorem AnyG.or2 (n m : Nat) (hi : ops[n]? = some ⟨some t2, op, ty, pos, af, some (i, false)⟩) (hj : ops[m]? = some ⟨some t3, .pick (.tmp t1) (.const (.bool true)) (.tmp t2), ty', pos', af', none⟩) (hd : ops.toList.map (·.dst) = ds)
    (ht : takeB ops listed n = true) (ht' : takeB ops (listed.setIfInBounds n true) m = true) (hop : hfOp P σ op = true) (hs : gslot ds (some (i, false)) = some t1) (hb : evl σ (.tmp t1) = .sc (.bool b)) (hne : t1 ≠ t2) (hlt : t2 < σ.slots.length) (ho : aval P σ op = some (.sc (.bool b')))
    (hx : (σ.put (some t2) .any).put (some t3) (.sc (.bool (b || b'))) = σ') (hn : AnyG P ops K fuel ((listed.setIfInBounds n true).setIfInBounds m true) σ') : AnyG P ops K (fuel + 1 + 1) listed σ := by
  subst hx
  have hg := gslot_some (w := false) hs hb
  cases b
  · refine AnyG.first (σ' := σ.put (some t2) (.sc (.bool b'))) n hi hd ht hop (by simp [astepC, hg, ho]) (AnyG.first (σ' := (σ.put (some t2) (.sc (.bool b'))).put (some t3) (.sc (.bool b'))) m hj hd ht' rfl ?_ (AnyG.imp impU (by simpa using hn)))
    simp [astepC, aguardC, aval, evl_put_ne hne, hb, evl_put_eq hlt]
  · refine AnyG.first (σ' := σ.put (some t2) (.sc undef)) n hi hd ht hop (by simp [astepC, hg]) (AnyG.first (σ' := (σ.put (some t2) (.sc undef)).put (some t3) (.sc (.bool true))) m hj hd ht' rfl ?_ (AnyG.imp impU (by simpa using hn)))
    simp [astepC, aguardC, aval, evl_put_ne hne, hb, evl_true, evl_false]
/-- As or2, the second flag loaded from what stays. -/
theorem AnyG.or2r (n m : Nat) {t : TypeId} {x : Operand} (hi : ops[n]? = some ⟨some t2, .load t x, ty, pos, af, some (i, false)⟩) (hj : ops[m]? = some ⟨some t3, .pick (.tmp t1) (.const (.bool true)) (.tmp t2), ty', pos', af', none⟩) (hd : ops.toList.map (·.dst) = ds)
    (ht : takeB ops listed n = true) (ht' : takeB ops (listed.setIfInBounds n true) m = true) (hro : isRo (evl σ x) = true) (hs : gslot ds (some (i, false)) = some t1) (hb : evl σ (.tmp t1) = .sc (.bool b)) (hne : t1 ≠ t2) (hlt : t2 < σ.slots.length) (ho : aval P σ (.load t x) = some (.sc (.bool b')))
    (hx : (σ.put (some t2) .any).put (some t3) (.sc (.bool (b || b'))) = σ') (hn : AnyG P ops K fuel ((listed.setIfInBounds n true).setIfInBounds m true) σ') : AnyG P ops K (fuel + 1 + 1) listed σ := by
  subst hx
  have hg := gslot_some (w := false) hs hb
  cases b
  · refine AnyG.ro (σ' := σ.put (some t2) (.sc (.bool b'))) n hi hd ht (.inl hro) (by simp [astepC, hg, ho]) (AnyG.first (σ' := (σ.put (some t2) (.sc (.bool b'))).put (some t3) (.sc (.bool b'))) m hj hd ht' rfl ?_ (AnyG.imp impU (by simpa using hn)))
    simp [astepC, aguardC, aval, evl_put_ne hne, hb, evl_put_eq hlt]
  · refine AnyG.ro (σ' := σ.put (some t2) (.sc undef)) n hi hd ht (.inl hro) (by simp [astepC, hg]) (AnyG.first (σ' := (σ.put (some t2) (.sc undef)).put (some t3) (.sc (.bool true))) m hj hd ht' rfl ?_ (AnyG.imp impU (by simpa using hn)))
    simp [astepC, aguardC, aval, evl_put_ne hne, hb, evl_true, evl_false]
/-- The slots that a region's operations fill. -/
def dsOf (ops : Array Oper) : List (Option Nat) := ops.toList.map (·.dst)
theorem dsOf_get {j : Nat} : (dsOf ops)[j]? = (ops[j]?).map (·.dst) := by simp [dsOf]
attribute [go_sem] dsOf_get List.getElem?_toArray Option.map_some
end
end Go.Avm
