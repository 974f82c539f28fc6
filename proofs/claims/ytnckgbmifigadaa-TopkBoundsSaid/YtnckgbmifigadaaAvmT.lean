/- The abstract machine, parts ZL to ZL. -/
import Derived.Test.YtnckgbmifigadaaAvmS
/- The abstract machine, part ZL: what is handed back may be named by a box that was handed in. -/
namespace Go.Avm
set_option linter.unusedVariables false
set_option linter.unusedSimpArgs false
open Go.RowKit
theorem RetOK.qj {P : Program} {fn : Func} {ins new : List Nat} {ret d d' : D} {xs outs : List Obj} {e : Exit} {σ : St} (he : exB e = true) (hd : retD P σ fn.results.toList = some d) (hn : dedupN ins (nmsD d ++ nmsOs σ ins) = new) (hnd : (ins ++ new).Nodup)
    (hr : renD (ins ++ new) d = some d') (ho : outsOf (ins ++ new) σ.heap (ins ++ new) = some xs) (hl : (ins ++ new).length = outs.length) (h : leQ d' ret ∧ leQOs xs outs) : RetOK P fn ins ret outs e σ :=
  ⟨σ, fun _ _ _ _ h => h, by cases e <;> simp_all [exB], new, d, hnd, hd, ⟨d', hr, leQ_spec h.1⟩, xs, ho, leQOs_spec h.2⟩
section
variable {P : Program} {ds : List (Option Nat)} {Q : Exit → St → Prop} {σ σ' : St} {l : List Oper} {op op2 : Op} {ty ty2 ty' : TypeId} {pos pos2 pos' : String} {af af2 af' : Array Edge} {i ta t1 t2 t3 : Nat} {b b' : Bool} {d : D}
theorem isOr3 (t3 : Nat) (h : TriD P ds Q (⟨some ta, op, ty, pos, af, some (i, false)⟩ :: ⟨some t2, op2, ty2, pos2, af2, some (i, false)⟩ :: ⟨some t3, .pick (.tmp t1) (.const (.bool true)) (.tmp t2), ty', pos', af', none⟩ :: l) σ) :
    TriD P ds Q (⟨some ta, op, ty, pos, af, some (i, false)⟩ :: ⟨some t2, op2, ty2, pos2, af2, some (i, false)⟩ :: ⟨some t3, .pick (.tmp t1) (.const (.bool true)) (.tmp t2), ty', pos', af', none⟩ :: l) σ := h
theorem impU3 {x y z : D} : Imp (((σ.put (some ta) x).put (some t2) y).put (some t3) z) (((σ.put (some ta) .any).put (some t2) .any).put (some t3) z) := Imp.le (LeL_set (LeD.refl _) t3 (LeL_set (LeD.any _) t2 (LeL_set (LeD.any _) ta (LeL.refl _)))) (LeH.refl _)
/-- 'a or b' where b is read through an address of its own. -/
theorem TriD.or3 (hs : gslot ds (some (i, false)) = some t1) (hb : evl σ (.tmp t1) = .sc (.bool b)) (hne : t1 ≠ t2) (hna : t1 ≠ ta) (hlt : t2 < σ.slots.length) (he : isEff op = false) (he2 : isEff op2 = false) (ho : aval P σ op = some d) (ho2 : aval P (σ.put (some ta) d) op2 = some (.sc (.bool b')))
    (hx : ((σ.put (some ta) .any).put (some t2) .any).put (some t3) (.sc (.bool (b || b'))) = σ') (hn : TriD P ds Q l σ') :
    TriD P ds Q (⟨some ta, op, ty, pos, af, some (i, false)⟩ :: ⟨some t2, op2, ty2, pos2, af2, some (i, false)⟩ :: ⟨some t3, .pick (.tmp t1) (.const (.bool true)) (.tmp t2), ty', pos', af', none⟩ :: l) σ := by
  subst hx
  have hg := gslot_some (w := false) hs hb
  have hg2 : ∀ d, aguardC ds (some (i, false)) (σ.put (some ta) d) = some (b == false) := fun d => gslot_some (w := false) hs (by rw [evl_put_ne hna]; exact hb)
  have hl2 : ∀ d, t2 < (σ.put (some ta) d).slots.length := fun d => by simpa [St.put] using hlt
  cases b
  · refine TriD.step (σ' := σ.put (some ta) d) (by simp [bstepC, hg, he, ho]) (TriD.step (σ' := (σ.put (some ta) d).put (some t2) (.sc (.bool b'))) (by simp [bstepC, hg2, he2, ho2]) (TriD.step (σ' := ((σ.put (some ta) d).put (some t2) (.sc (.bool b'))).put (some t3) (.sc (.bool b'))) ?_ (TriD.imp impU3 (by simpa using hn))))
    simp [bstepC, aguardC, isEff, aval, evl_put_ne hne, evl_put_ne hna, hb, evl_put_eq (hl2 _)]
  · refine TriD.step (σ' := σ.put (some ta) (.sc undef)) (by simp [bstepC, hg]) (TriD.step (σ' := (σ.put (some ta) (.sc undef)).put (some t2) (.sc undef)) (by simp [bstepC, hg2]) (TriD.step (σ' := ((σ.put (some ta) (.sc undef)).put (some t2) (.sc undef)).put (some t3) (.sc (.bool true))) ?_ (TriD.imp impU3 (by simpa using hn))))
    simp [bstepC, aguardC, isEff, aval, evl_put_ne hne, evl_put_ne hna, hb, evl_true, evl_false]
end
end Go.Avm
