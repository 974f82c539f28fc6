/- Frequent: what its functions compute; facts about ascending lists of entries (plain lemmas). -/
import Derived.Test.YtnckgbmifigadaaZBl
set_option linter.unusedSimpArgs false
set_option linter.unusedVariables false
namespace Go.Proofs.Ytnckgbmifigadaa
open Go.RowKit Go.Avm
structure En where
  key : ByteArray
  count : Int
  err : Int
  deriving DecidableEq
structure Fq where
  size : Int
  total : Int
  lost : Int
  ents : List En
  sat : Bool
  deriving DecidableEq
def rowE (x : En) : List D := [.sc (.string x.key), .sc (.int .i64 x.count), .sc (.int .i64 x.err)]
def dF (f : Fq) : D := .agg [.sc (.int .i64 f.size), .sc (.int .i64 f.total), .sc (.int .i64 f.lost), .sl 3 (f.ents.map rowE), .sc (.bool f.sat)]
def zeroF : Fq := ⟨0, 0, 0, [], false⟩
def addSat (a b m : Int) : Int × Bool := if max a 0 > max m 0 ∨ max b 0 > max m 0 - max a 0 then (max m 0, true) else (max a 0 + max b 0, false)
def sumT (a b : Int) : Int × Bool := addSat a b 1099511627776
def keyOk (k : ByteArray) : Bool := decide (1 ≤ (k.size : Int)) && decide ((k.size : Int) ≤ 32)
def itemE (k : ByteArray) (w : Int) : Int := if keyOk k = false then 7 else if w < 1 ∨ 4294967295 < w then 5 else 0
def validE (prev : Option En) : List En → Int
  | [] => 0
  | x :: l => if keyOk x.key = false then 7 else if x.count < 1 ∨ 1099511627776 < x.count ∨ x.err ≠ 0 then 5 else
      match prev with
      | some q => if Op.bytesLess x.key.toList q.key.toList = true ∨ x.key.toList = q.key.toList then 19 else validE (some x) l
      | none => validE (some x) l
def prevE (l : List En) (k : Nat) : Option En := if k = 0 then none else l[k - 1]?
def sizeOk (n : Int) : Bool := decide (1 ≤ n) && decide (n ≤ 32)
def validF (f : Fq) : Int := if sizeOk f.size = false ∨ f.total < 0 ∨ 1099511627776 < f.total ∨ f.lost < 0 ∨ 1099511627776 < f.lost then 5 else if f.size < (f.ents.length : Int) then 11 else validE none f.ents
def newF (n : Int) : Fq × Int := if sizeOk n = true then (⟨n, 0, 0, [], false⟩, 0) else (zeroF, 5)
def placeE (k : ByteArray) : List En → Nat
  | [] => 0
  | x :: l => if Op.bytesLess x.key.toList k.toList = true then placeE k l + 1 else 0
def findE (k : ByteArray) : List En → Nat → Int
  | [], _ => -1
  | x :: l, n => if x.key.toList = k.toList then (n : Int) else findE k l (n + 1)
def byKeyE (x : En) : List En → List En
  | [] => [x]
  | y :: l => if Op.bytesLess x.key.toList y.key.toList = true then x :: y :: l else y :: byKeyE x l
def lowerE (d : Int) : List En → List En
  | [] => []
  | x :: l => if d < x.count then ⟨x.key, x.count - d, 0⟩ :: lowerE d l else lowerE d l
def minE (d : Int) : List En → Int
  | [] => d
  | x :: l => minE (min d x.count) l
def entE (l : List En) (i : Int) : En := (l[i.toNat]?).getD ⟨.empty, 0, 0⟩
def insF (f : Fq) (k : ByteArray) (w : Int) : Fq × Int :=
  if validF f ≠ 0 then (zeroF, validF f) else if itemE k w ≠ 0 then (zeroF, itemE k w) else
  if 0 ≤ findE k f.ents 0 then (⟨f.size,(sumT f.total w).1,f.lost,f.ents.set (findE k f.ents 0).toNat ⟨(entE f.ents (findE k f.ents 0)).key,(sumT (entE f.ents (findE k f.ents 0)).count w).1,(entE f.ents (findE k f.ents 0)).err⟩,(f.sat || (sumT f.total w).2) || (sumT (entE f.ents (findE k f.ents 0)).count w).2⟩,0)
  else if (f.ents.length : Int) < f.size then (⟨f.size, (sumT f.total w).1, f.lost, byKeyE ⟨k, w, 0⟩ f.ents, f.sat || (sumT f.total w).2⟩, 0)
  else (⟨f.size, (sumT f.total w).1, (sumT f.lost (minE w f.ents)).1, if minE w f.ents < w then byKeyE ⟨k, w - minE w f.ents, 0⟩ (lowerE (minE w f.ents) f.ents) else lowerE (minE w f.ents) f.ents, (f.sat || (sumT f.total w).2) || (sumT f.lost (minE w f.ents)).2⟩, 0)
structure OkE (l : List En) : Prop where
  range : ∀ x ∈ l, keyOk x.key = true ∧ 1 ≤ x.count ∧ x.count ≤ 1099511627776 ∧ x.err = 0
  asc : l.Pairwise (fun a b => Op.bytesLess a.key.toList b.key.toList = true)
theorem OkE.tail {x : En} {l : List En} (h : OkE (x :: l)) : OkE l ∧ ∀ y ∈ l, Op.bytesLess x.key.toList y.key.toList = true := by
  have := h.asc
  rw [List.pairwise_cons] at this
  exact ⟨⟨fun q hq => h.range q (List.mem_cons_of_mem _ hq), this.2⟩, this.1⟩
theorem sumT_range (a b : Int) : 0 ≤ (sumT a b).1 ∧ (sumT a b).1 ≤ 1099511627776 := by
  simp only [sumT, addSat]
  split <;> simp only <;> omega
theorem flatE (l : List En) : (List.map rowE l).all flatL = true := by simp [List.all_eq_true, rowE, flatL, flatD]
attribute [go_sem] flatE
end Go.Proofs.Ytnckgbmifigadaa
