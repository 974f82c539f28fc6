/- Frequent: the reference's Before and Sort; byKey with its row as its own. -/
import Derived.Test.YtnckgbmifigadaaZFrE
set_option linter.unusedSimpArgs false
set_option linter.unusedVariables false
namespace Go.Proofs.Ytnckgbmifigadaa
open Go.RowKit Go.Avm
def befE (x y : En) : Bool := decide (y.count < x.count) || (decide (x.count = y.count) && Op.bytesLess x.key.toList y.key.toList)
def bubE (l : List En) : Nat → List En
  | 0 => l
  | j + 1 => if ((l[j + 1]?).any fun x => (l[j]?).any fun y => befE x y) = true then bubE ((l.set (j + 1) (entE l j)).set j (entE l (j + 1 : Nat))) j else l
def sortE : List En → List En → List En
  | out, [] => out
  | out, x :: r => sortE (bubE (out ++ [x]) out.length) r
theorem bub_len : ∀ (j : Nat) (l : List En), (bubE l j).length = l.length
  | 0, l => rfl
  | j + 1, l => by
    unfold bubE
    split
    · rw [bub_len]; simp
    · rfl
theorem sortE_len : ∀ (r out : List En), (sortE out r).length = out.length + r.length
  | [], out => by simp [sortE]
  | x :: r, out => by simp only [sortE]; rw [sortE_len, bub_len]; simp only [List.length_append, List.length_cons, List.length_nil]; omega
theorem bub_yes {l : List En} {j : Nat} {x y : En} (hx : l[j + 1]? = some x) (hy : l[j]? = some y) (hb : befE x y = true) : bubE l (j + 1) = bubE ((l.set (j + 1) y).set j x) j := by
  rw [bubE, if_pos (by simp [hx, hy, hb])]
  simp [entE, hx, hy]
theorem bub_no {l : List En} {j : Nat} {x y : En} (hx : l[j + 1]? = some x) (hy : l[j]? = some y) (hb : befE x y = false) : bubE l (j + 1) = l := by
  rw [bubE, if_neg (by simp [hx, hy, hb])]
end Go.Proofs.Ytnckgbmifigadaa
