/- The abstract machine, part S: cuts. -/
import Derived.Test.YtpopgpjojbngcaaAvmR
namespace Go.Avm
set_option linter.unusedVariables false
set_option linter.unusedSimpArgs false
open Go.RowKit
/-- Behind c only what σ1 says is known. -/
theorem Tri.cut {P : Program} {c c' : Code} {Q : Exit → St → Prop} {σ : St} (σ1 : St) (h1 : Tri P c (fun e σ' => e = .normal ∧ Imp σ' σ1) σ) (h2 : Tri P c' Q σ1) : Tri P (c.seq c') Q σ := by
  refine Tri.seq (Tri.mono h1 ?_)
  rintro e σ' ⟨rfl, hi⟩
  exact Tri.imp hi h2
/-- Objects that are dropped, and slots that are forgotten. -/
theorem Imp.drop {σ σ' : St} (o : Nat) (bs : List Bool) (h : ({ σ.kill o with slots := maskL bs (σ.kill o).slots } : St) = σ') : Imp σ σ' :=
  Imp.trans (Imp.kill σ o) (Imp.to bs h)
theorem int_beq (a b : Int) : (a == b) = decide (a = b) := by
  by_cases h : a = b <;> simp [h]
theorem int_bne (a b : Int) : (a != b) = decide (a ≠ b) := by
  by_cases h : a = b <;> simp [h, bne]
end Go.Avm
