/- DirectoryBinds: Bind of the program gives what Bind of the reference gives, for any directory that the law builds. -/
import Derived.Test.YtpopgpjojbngcaaDiG
import Derived.Test.YtpopgpjojbngcaaDiH
set_option linter.unusedSimpArgs false
set_option linter.unusedVariables false
namespace Go.Proofs.Ytpopgpjojbngcaa
open Go.RowKit Go.Avm Go.ChangeShapes Go.WideShapes Go.ChangeAt
theorem madeD_len : ∀ (l : List Int) (i : Nat) (d : List Bd) (c o : Int), i ≤ 10 → d.length ≤ i → 1 ≤ c ∧ c ≤ 1 + i → (madeD l i d c o).1.length ≤ 10 ∧ 1 ≤ (madeD l i d c o).2 ∧ (madeD l i d c o).2 ≤ 11
  | [], i, d, c, o, hi, hd, hc => by simp only [madeD]; omega
  | k :: l, i, d, c, o, hi, hd, hc => by
    rw [madeD]
    split
    · simp only; omega
    · have := stepD_len k d c o
      split
      · exact madeD_len l (i + 1) _ _ _ (by omega) (by omega) (by omega)
      · exact madeD_len l (i + 1) _ _ _ (by omega) (by omega) (by omega)
end Go.Proofs.Ytpopgpjojbngcaa
