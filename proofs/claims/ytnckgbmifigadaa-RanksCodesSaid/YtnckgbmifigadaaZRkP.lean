/- Ranks: what its functions compute (plain); the library's Sort of strings as a contract of the machine. -/
import Derived.Test.YtnckgbmifigadaaZFrP
import Derived.Test.YtnckgbmifigadaaZTkS
import Derived.Sort.Walk0
import Derived.Lib.RowBridge
import Derived.Test.YtnckgbmifigadaaZAvmU
set_option linter.unusedSimpArgs false
set_option linter.unusedVariables false
namespace Go.Proofs.Ytnckgbmifigadaa
open Go.RowKit Go.Avm Go.Sort
def rowKr (s : ByteArray) : List D := [.sc (.string s)]
def toB (z : List UInt8) : ByteArray := ⟨z.toArray⟩
def ofB (s : ByteArray) : List UInt8 := s.data.toList
theorem toB_ofB (s : ByteArray) : toB (ofB s) = s := by cases s; simp [toB, ofB]
theorem rowKr_enc (ns : List ByteArray) : ns.map rowKr = (ns.map ofB).map fun z => [D.sc (encStr z)] := by
  rw [List.map_map]
  apply List.map_congr_left
  intro s _
  have := toB_ofB s
  simp only [toB] at this
  simp only [rowKr, Function.comp, encStr, this]
theorem enc_rowKr (zs : List (List UInt8)) : (zs.map fun z => [D.sc (encStr z)]) = (zs.map toB).map rowKr := by
  rw [List.map_map]; rfl
/-- The keys in order. -/
def sortK (ns : List ByteArray) : List ByteArray := ((ns.map ofB).mergeSort fun x y => decide (x ≤ y)).map toB
theorem sortK_len (ns : List ByteArray) : (sortK ns).length = ns.length := by simp [sortK]
theorem sortk_calls {ns : List ByteArray} {n : Nat} (hn : ns.length = n) (h0 : 0 < n) (hl : n ≤ 1000000) : MCalls Try.prog 90 [.row 1 (ns.map rowKr)] [.slo 0 1 0 n] (.tup []) [.row 1 ((sortK ns).map rowKr)] := by
  subst hn
  have h := sort_calls (enc := encStr) (P := Try.prog) (fun l => l.mergeSort fun x y => decide (x ≤ y)) (fun l => by simp) (fun _ => rfl) call90 (fun blk cap zs w hH hb hs => slices_Sort_string blk 0 cap zs w hH hb hs) (zs := ns.map ofB) (fun e => by simp at e;subst e;simp at h0) (by simpa using hl)
  rw [← rowKr_enc, enc_rowKr, List.length_map] at h
  exact h
theorem sortk_none : MCalls Try.prog 90 [.row 1 []] [.slo 0 1 0 0] (.tup []) [.row 1 []] := none_calls call90 slices_Sort_string_none
structure Rk where
  size : Int
  total : Int
  slack : Int
  levels : List (List ByteArray)
  sat : Bool
def lvD (l : List ByteArray) : List D := [.sl 1 (l.map rowKr)]
def dR (r : Rk) : D := .agg [.sc (.int .i64 r.size), .sc (.int .i64 r.total), .sc (.int .i64 r.slack), .sl 1 (r.levels.map lvD), .sc (.bool r.sat)]
def zeroR : Rk := ⟨0, 0, 0, [], false⟩
def evenOk (n : Int) : Bool := decide (2 ≤ n) && decide (n ≤ 32) && decide (n % 2 = 0)
def newR (n : Int) : Rk × Int := if evenOk n = true then (⟨n, 0, 0, [], false⟩, 0) else (zeroR, 5)
/-- The first fault in a level, the keys behind others. -/
def badL (pre : List ByteArray) : List ByteArray → Int
  | [] => 0
  | k :: l => if keyOk k = false then 7 else if pre.getLast?.any (fun p => Op.bytesLess k.toList p.toList) = true then 19 else badL (pre ++ [k]) l
/-- The first fault of levels; behind them the weight of all. -/
def badLs (size : Int) : Nat → Int → List (List ByteArray) → Int × Int
  | _, t, [] => (0, t)
  | i, t, l :: ls => if size ≤ (l.length : Int) then (11, t) else if badL [] l ≠ 0 then (badL [] l, t) else badLs size (i + 1) (t + (l.length : Int) * 2 ^ i) ls
def validR (r : Rk) : Int :=
  if evenOk r.size = false ∨ r.total < 0 ∨ 1099511627776 < r.total ∨ r.slack < 0 ∨ 1099511627776 < r.slack then 5 else if 41 < r.levels.length then 11 else
  if (badLs r.size 0 0 r.levels).1 ≠ 0 then (badLs r.size 0 0 r.levels).1 else if r.levels.getLast? = some [] then 18 else if (badLs r.size 0 0 r.levels).2 ≠ r.total then 17 else 0
theorem validR_cases (r : Rk) : (evenOk r.size = false ∧ validR r = 5) ∨ (evenOk r.size = true ∧ (r.total < 0 ∨ 1099511627776 < r.total ∨ r.slack < 0 ∨ 1099511627776 < r.slack) ∧ validR r = 5) ∨
    (evenOk r.size = true ∧ ¬ (r.total < 0 ∨ 1099511627776 < r.total ∨ r.slack < 0 ∨ 1099511627776 < r.slack) ∧ 41 < r.levels.length ∧ validR r = 11) ∨
    (evenOk r.size = true ∧ ¬ (r.total < 0 ∨ 1099511627776 < r.total ∨ r.slack < 0 ∨ 1099511627776 < r.slack) ∧ r.levels.length ≤ 41 ∧
      validR r = if (badLs r.size 0 0 r.levels).1 ≠ 0 then (badLs r.size 0 0 r.levels).1 else if r.levels.getLast? = some [] then 18 else if (badLs r.size 0 0 r.levels).2 ≠ r.total then 17 else 0) := by
  unfold validR
  cases h1 : evenOk r.size with
  | false => exact .inl ⟨rfl, if_pos (.inl rfl)⟩
  | true =>
    by_cases h2 : r.total < 0 ∨ 1099511627776 < r.total ∨ r.slack < 0 ∨ 1099511627776 < r.slack
    · exact .inr (.inl ⟨rfl, h2, if_pos (.inr h2)⟩)
    · rw [if_neg (by simp only [Bool.true_eq_false, false_or]; exact h2)]
      by_cases h3 : 41 < r.levels.length
      · exact .inr (.inr (.inl ⟨rfl, h2, h3, if_pos h3⟩))
      · exact .inr (.inr (.inr ⟨rfl, h2, by omega, if_neg h3⟩))
theorem lastTk {α : Type} {l : List α} {k : Nat} (hk : k ≤ l.length) : (l.take k).getLast? = if k = 0 then none else l[k - 1]? := by
  rw [List.getLast?_eq_getElem?, List.length_take, Nat.min_eq_left hk]
  by_cases h : k = 0
  · subst h; simp
  · rw [if_neg h, List.getElem?_take_of_lt (by omega)]
/-- How the next key of a level can be bad. -/
theorem badL_cases {l : List ByteArray} {k : Nat} {x : ByteArray} (hx : l[k]? = some x) :
    (keyOk x = false ∧ badL (l.take k) (l.drop k) = 7) ∨ (keyOk x = true ∧ k = 0 ∧ badL (l.take k) (l.drop k) = badL (l.take (k + 1)) (l.drop (k + 1))) ∨
    (keyOk x = true ∧ 0 < k ∧ ∃ p, l[k - 1]? = some p ∧ ((Op.bytesLess x.toList p.toList = true ∧ badL (l.take k) (l.drop k) = 19) ∨ (Op.bytesLess x.toList p.toList = false ∧ badL (l.take k) (l.drop k) = badL (l.take (k + 1)) (l.drop (k + 1))))) := by
  have hlt := (List.getElem?_eq_some_iff.1 hx).1
  have htk : l.take (k + 1) = l.take k ++ [x] := by rw [List.take_add_one, hx]; rfl
  have hl := lastTk (l := l) (k := k) (by omega)
  rw [drop_get hx, badL, ← htk]
  cases h1 : keyOk x with
  | false => exact .inl ⟨rfl, if_pos rfl⟩
  | true =>
    rw [if_neg (by decide)]
    by_cases h0 : k = 0
    · rw [if_pos h0] at hl
      refine .inr (.inl ⟨rfl, h0, ?_⟩)
      rw [hl, if_neg (by simp)]
    · rw [if_neg h0] at hl
      obtain ⟨p, hp⟩ := get_lt (show k - 1 < l.length by omega)
      rw [hp] at hl
      refine .inr (.inr ⟨rfl, by omega, p, hp, ?_⟩)
      rw [hl]
      simp only [Option.any_some]
      by_cases h2 : Op.bytesLess x.toList p.toList = true
      · exact .inl ⟨h2, if_pos h2⟩
      · exact .inr ⟨by simpa using h2, if_neg h2⟩
/-- The weight of the keys of a level that are at most a key. -/
def cntL (k : ByteArray) (l : List ByteArray) : Nat := (l.filter fun x => !Op.bytesLess k.toList x.toList).length
def rankL (k : ByteArray) : Nat → List (List ByteArray) → Int
  | _, [] => 0
  | i, l :: ls => (cntL k l : Int) * 2 ^ i + rankL k (i + 1) ls
end Go.Proofs.Ytnckgbmifigadaa
