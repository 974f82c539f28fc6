/- Directory: facts about valid bindings (plain). -/
import Derived.Test.YtmgodadmafcliaaRDiP
set_option linter.unusedSimpArgs false
set_option linter.unusedVariables false
namespace Go.Proofs.Ytmgodadmafcliaa
open Go.RowKit Go.Avm
theorem bl_gt (x y:List UInt8):(!(Op.bytesLess x y||x==y))=Op.bytesLess y x:=by
 rcases bl_total x y with h|h|h
 ·rw [h,bl_asymm h];rfl
 ·subst h;simp [bl_irrefl]
 ·rw [h,bl_asymm h,beq_eq_false_iff_ne.2 (bl_ne h).symm];rfl
theorem valid1_all: ∀ (l:List Bd) (p:Option Bd),valid1 p l=0→ ∀ b∈l,badB b=0
 | [],_,_,b,hb=>by cases hb
 | x::l,p,h,b,hb=>by
   rw [valid1] at h
   by_cases h1:badB x=0
   ·rw [if_neg (by simp [h1])] at h
    split at h
    ·cases h
    ·rcases List.mem_cons.1 hb with rfl|hb
     ·exact h1
     ·exact valid1_all l _ h b hb
   ·rw [if_pos h1] at h;exact absurd h h1
theorem badB_ok {b:Bd} (h:badB b=0):nameOk b.name=true∧1≤b.obj∧1≤b.frm∧0≤b.to∧(b.to=0∨b.frm<b.to):=by
 unfold badB at h
 split at h
 ·cases h
 ·rename_i h1
  split at h
  ·cases h
  ·split at h
   ·cases h
   ·exact ⟨by simpa using h1,by omega,by omega,by omega,by omega⟩
theorem ov_holds {a b:Bd} (ha:badB a=0) (hb:badB b=0):(holdsB a.frm a.to b.frm||holdsB b.frm b.to a.frm)=ovB a b:=by
 obtain ⟨_,a1,a2,a3,a4⟩:=badB_ok ha
 obtain ⟨_,b1,b2,b3,b4⟩:=badB_ok hb
 rw [Bool.eq_iff_iff]
 simp only [holdsB,ovB,Bool.or_eq_true,Bool.and_eq_true,decide_eq_true_eq,beq_iff_eq]
 omega
end Go.Proofs.Ytmgodadmafcliaa
