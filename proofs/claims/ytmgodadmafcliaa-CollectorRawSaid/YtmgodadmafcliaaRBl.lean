/- The order of strings as lists of bytes is a strict total order (plain lemmas). -/
import Derived.Test.YtmgodadmafcliaaRBase
set_option linter.unusedSimpArgs false
set_option linter.unusedVariables false
namespace Go.Proofs.Ytmgodadmafcliaa
open Go.RowKit Go.Avm
theorem bl_irrefl: ∀ x:List UInt8,Op.bytesLess x x=false
 | []=>rfl
 | a::x=>by
   have h: ¬ a<a:=by rw [UInt8.lt_iff_toNat_lt];omega
   simp [Op.bytesLess,h,bl_irrefl x]
theorem bl_trans: ∀ {x y z:List UInt8},Op.bytesLess x y=true→Op.bytesLess y z=true→Op.bytesLess x z=true
 | _,[],_,h,_=>by cases ‹List UInt8›<;>simp [Op.bytesLess] at h
 | _,_::_,[],_,h=>by simp [Op.bytesLess] at h
 | [],_::_,_::_,_,_=>rfl
 | a::x,b::y,c::z,h,g=>by
   simp only [Op.bytesLess,Bool.or_eq_true,Bool.and_eq_true,decide_eq_true_eq,beq_iff_eq] at h g ⊢
   rcases h with h|⟨h,h'⟩
   ·rcases g with g|⟨g,g'⟩
    ·left;rw [UInt8.lt_iff_toNat_lt] at h g ⊢;omega
    ·subst g;exact Or.inl h
   ·subst h
    rcases g with g|⟨g,g'⟩
    ·exact Or.inl g
    ·exact Or.inr ⟨g,bl_trans h' g'⟩
theorem bl_total: ∀ x y:List UInt8,Op.bytesLess x y=true∨x=y∨Op.bytesLess y x=true
 | [],[]=>Or.inr (Or.inl rfl)
 | [],_::_=>Or.inl rfl
 | _::_,[]=>Or.inr (Or.inr rfl)
 | a::x,b::y=>by
   simp only [Op.bytesLess,Bool.or_eq_true,Bool.and_eq_true,decide_eq_true_eq,beq_iff_eq,List.cons.injEq]
   rcases Nat.lt_trichotomy a.toNat b.toNat with h|h|h
   ·exact Or.inl (Or.inl (UInt8.lt_iff_toNat_lt.2 h))
   ·have e:a=b:=UInt8.toNat_inj.1 h
    subst e
    rcases bl_total x y with h|h|h
    ·exact Or.inl (Or.inr ⟨rfl,h⟩)
    ·exact Or.inr (Or.inl ⟨rfl,h⟩)
    ·exact Or.inr (Or.inr (Or.inr ⟨rfl,h⟩))
   ·exact Or.inr (Or.inr (Or.inl (UInt8.lt_iff_toNat_lt.2 h)))
theorem bl_asymm {x y:List UInt8} (h:Op.bytesLess x y=true):Op.bytesLess y x=false:=by
 cases hh:Op.bytesLess y x with
 | false=>rfl
 | true=>have:=bl_trans h hh;rw [bl_irrefl] at this;cases this
theorem bl_ne {x y:List UInt8} (h:Op.bytesLess x y=true):x≠y:=fun e=>by subst e;rw [bl_irrefl] at h;cases h
/-- Not greater and not equal is less. -/
theorem bl_of_not {x y:List UInt8} (h:Op.bytesLess y x=false) (hn:x≠y):Op.bytesLess x y=true:=by
 rcases bl_total x y with h'|h'|h'
 ·exact h'
 ·exact absurd h' hn
 ·rw [h] at h';cases h'
end Go.Proofs.Ytmgodadmafcliaa
