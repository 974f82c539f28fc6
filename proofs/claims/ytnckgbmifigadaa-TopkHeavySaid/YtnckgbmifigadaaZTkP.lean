/- Topk: what its functions compute (plain). -/
import Derived.Test.YtnckgbmifigadaaZFrO
import Derived.Test.YtnckgbmifigadaaZTkS
set_option linter.unusedSimpArgs false
set_option linter.unusedVariables false
namespace Go.Proofs.Ytnckgbmifigadaa
open Go.RowKit Go.Avm
structure Tk where
  size : Int
  total : Int
  ents : List En
  sat : Bool
  deriving DecidableEq
def dT (t : Tk) : D := .agg [.sc (.int .i64 t.size), .sc (.int .i64 t.total), .sl 3 (t.ents.map rowE), .sc (.bool t.sat)]
def zeroT : Tk := ⟨0, 0, [], false⟩
/-- The first fault of an entry behind others. -/
def badT (pre : List En) (x : En) : Int :=
  if keyOk x.key = false then 7 else if x.count < 1 ∨ 1099511627776 < x.count ∨ x.err < 0 ∨ x.count ≤ x.err then 5 else
  if 0 ≤ findE x.key pre 0 then 9 else if pre.getLast?.any (fun p => !befE p x) = true then 19 else 0
def validT1 (pre : List En) : List En → Int
  | [] => 0
  | x :: l => if badT pre x ≠ 0 then badT pre x else validT1 (pre ++ [x]) l
def validT (t : Tk) : Int := if sizeOk t.size = false ∨ t.total < 0 ∨ 1099511627776 < t.total then 5 else if t.size < (t.ents.length : Int) then 11 else validT1 [] t.ents
def newT (n : Int) : Tk × Int := if sizeOk n = true then (⟨n, 0, [], false⟩, 0) else (zeroT, 5)
def leastT (s : Int) (l : List En) : Int := if l.length = 0 ∨ (l.length : Int) ≠ s then 0 else (entE l ((l.length : Int) - 1)).count
def capE (x : En) : En := ⟨x.key, x.count, min x.err (x.count - 1)⟩
def insT (t : Tk) (k : ByteArray) (w : Int) : Tk × Int :=
  if validT t ≠ 0 then (zeroT, validT t) else if itemE k w ≠ 0 then (zeroT, itemE k w) else
  if 0 ≤ findE k t.ents 0 then (⟨t.size,(sumT t.total w).1,sortE [] (t.ents.set (findE k t.ents 0).toNat ⟨(entE t.ents (findE k t.ents 0)).key,(sumT (entE t.ents (findE k t.ents 0)).count w).1,(entE t.ents (findE k t.ents 0)).err⟩),(t.sat || (sumT t.total w).2) || (sumT (entE t.ents (findE k t.ents 0)).count w).2⟩,0)
  else if (t.ents.length : Int) < t.size then (⟨t.size, (sumT t.total w).1, sortE [] (t.ents ++ [⟨k, w, 0⟩]), t.sat || (sumT t.total w).2⟩, 0)
  else (⟨t.size, (sumT t.total w).1, sortE [] (t.ents.set (t.ents.length - 1) (capE ⟨k, (sumT (leastT t.size t.ents) w).1, leastT t.size t.ents⟩)), (t.sat || (sumT t.total w).2) || (sumT (leastT t.size t.ents) w).2⟩, 0)
/-- The entry of a key, or what is known of a key without one. -/
def gotT (t : Tk) (k : ByteArray) : En := if 0 ≤ findE k t.ents 0 then entE t.ents (findE k t.ents 0) else ⟨k, leastT t.size t.ents, leastT t.size t.ents⟩
def pairT (a b : Tk) (k : ByteArray) : En := ⟨k, (sumT (gotT a k).count (gotT b k).count).1, (sumT (gotT a k).err (gotT b k).err).1⟩
def pairS (a b : Tk) (k : ByteArray) : Bool := (sumT (gotT a k).count (gotT b k).count).2 || (sumT (gotT a k).err (gotT b k).err).2
/-- The keys of both, each once. -/
def keysT (a b : Tk) : List ByteArray := a.ents.map (·.key) ++ (b.ents.filter fun y => decide (findE y.key a.ents 0 < 0)).map (·.key)
def mrgT (a b : Tk) : Tk × Int :=
  if validT a ≠ 0 then (zeroT, validT a) else if validT b ≠ 0 then (zeroT, validT b) else if a.size ≠ b.size then (zeroT, 10) else
  (⟨a.size, (sumT a.total b.total).1, (sortE [] ((keysT a b).map fun k => capE (pairT a b k))).take a.size.toNat, ((a.sat || b.sat) || (sumT a.total b.total).2) || (keysT a b).any (pairS a b)⟩, 0)
theorem findE_split (k : ByteArray) : ∀ (l : List En) (n : Nat), (findE k l n = -1 ∧ ∀ x ∈ l, x.key.toList ≠ k.toList) ∨ ∃ i x, l[i]? = some x ∧ x.key.toList = k.toList ∧ findE k l n = ((n + i : Nat) : Int) ∧ ∀ j y, j < i → l[j]? = some y → y.key.toList ≠ k.toList
  | [], n => .inl ⟨rfl, by simp⟩
  | x :: l, n => by
    unfold findE
    by_cases h : x.key.toList = k.toList
    · rw [if_pos h]
      exact .inr ⟨0, x, rfl, h, by simp, fun j y hj => by omega⟩
    · rw [if_neg h]
      rcases findE_split k l (n + 1) with ⟨h1, h2⟩ | ⟨i, y, h1, h2, h3, h4⟩
      · refine .inl ⟨h1, fun z hz => ?_⟩
        rcases List.mem_cons.1 hz with rfl | hz
        · exact h
        · exact h2 z hz
      · refine .inr ⟨i + 1, y, by simpa using h1, h2, by rw [h3]; congr 1; omega, fun j z hj hz => ?_⟩
        cases j with
        | zero => simp at hz; subst hz; exact h
        | succ j => exact h4 j z (by omega) (by simpa using hz)
/-- The keys that were seen, as a map. -/
def seenT (l : List En) : List (Value × D) := l.map fun x => (.string x.key, .sc (.bool true))
theorem seen_find (k : ByteArray) : ∀ (l : List En) (n : Nat), mFind (.string k) (seenT l) = if 0 ≤ findE k l n then some (.sc (.bool true)) else none
  | [], n => by simp [seenT, mFind, findE]
  | x :: l, n => by
    unfold findE
    by_cases h : x.key.toList = k.toList
    · rw [if_pos h, if_pos (by omega)]
      simp [seenT, mFind, keyB, h]
    · rw [if_neg h, ← seen_find k l (n + 1)]
      simp [seenT, mFind, keyB, h]
theorem seen_set {k : ByteArray} {v : D} : ∀ {l : List En}, (∀ x ∈ l, x.key.toList ≠ k.toList) → mSet (.string k) v (seenT l) = seenT l ++ [(.string k, v)]
  | [], _ => rfl
  | x :: l, h => by
    have h1 := h x (List.mem_cons_self ..)
    have := seen_set (v := v) (l := l) (fun y hy => h y (List.mem_cons_of_mem _ hy))
    simp only [seenT, List.map_cons, mSet, keyB, beq_iff_eq, h1, if_false, List.cons_append] at this ⊢
    rw [this]
theorem validT1_ok : ∀ (l pre : List En), validT1 pre l = 0 → ∀ i x, l[i]? = some x → badT (pre ++ l.take i) x = 0
  | [], _, _, i, x, h => by simp at h
  | y :: l, pre, h, i, x, hx => by
    rw [validT1] at h
    by_cases h1 : badT pre y = 0
    · rw [if_neg (by simp [h1])] at h
      cases i with
      | zero => simp at hx; subst hx; simpa using h1
      | succ i =>
        have := validT1_ok l (pre ++ [y]) h i x (by simpa using hx)
        simpa using this
    · rw [if_pos h1] at h; exact absurd h h1
theorem badT_ok {pre : List En} {x : En} (h : badT pre x = 0) : keyOk x.key = true ∧ 1 ≤ x.count ∧ x.count ≤ 1099511627776 ∧ 0 ≤ x.err ∧ x.err < x.count ∧ findE x.key pre 0 < 0 ∧ pre.getLast?.any (fun p => !befE p x) = false := by
  unfold badT at h
  split at h
  · cases h
  · rename_i h1
    split at h
    · cases h
    · split at h
      · cases h
      · split at h
        · cases h
        · rename_i h4
          exact ⟨by simpa using h1, by omega, by omega, by omega, by omega, by omega, by simpa using h4⟩
theorem validT_ok {t : Tk} (h : validT t = 0) : sizeOk t.size = true ∧ 1 ≤ t.size ∧ t.size ≤ 32 ∧ 0 ≤ t.total ∧ t.total ≤ 1099511627776 ∧ (t.ents.length : Int) ≤ t.size ∧ validT1 [] t.ents = 0 := by
  unfold validT at h
  split at h
  · cases h
  · rename_i h1
    split at h
    · cases h
    · have hs : sizeOk t.size = true := by
        cases hh : sizeOk t.size with
        | true => rfl
        | false => exact absurd (Or.inl hh) h1
      have hs2 := hs
      simp only [sizeOk, Bool.and_eq_true, decide_eq_true_eq] at hs2
      exact ⟨hs, hs2.1, hs2.2, by omega, by omega, by omega, h⟩
theorem validT_ent {t : Tk} (h : validT t = 0) {i : Nat} {x : En} (hx : t.ents[i]? = some x) : keyOk x.key = true ∧ 1 ≤ x.count ∧ x.count ≤ 1099511627776 ∧ 0 ≤ x.err ∧ x.err < x.count := by
  have := badT_ok (validT1_ok _ _ (validT_ok h).2.2.2.2.2.2 i x hx)
  exact ⟨this.1, this.2.1, this.2.2.1, this.2.2.2.1, this.2.2.2.2.1⟩
end Go.Proofs.Ytnckgbmifigadaa
