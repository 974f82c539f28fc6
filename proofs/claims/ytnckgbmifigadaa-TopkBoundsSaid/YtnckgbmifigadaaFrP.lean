/- Frequent: what its functions compute; facts about ascending lists of entries (plain lemmas). -/
import Derived.Test.YtnckgbmifigadaaBl
set_option linter.unusedSimpArgs false
set_option linter.unusedVariables false
namespace Go.Proofs.Ytnckgbmifigadaa
open Go.RowKit Go.Avm
structure En where
  key : ByteArray
  count : Int
  err : Int
  deriving DecidableEq
structure Fq where
  size : Int
  total : Int
  lost : Int
  ents : List En
  sat : Bool
  deriving DecidableEq
def rowE (x : En) : List D := [.sc (.string x.key), .sc (.int .i64 x.count), .sc (.int .i64 x.err)]
def dF (f : Fq) : D := .agg [.sc (.int .i64 f.size), .sc (.int .i64 f.total), .sc (.int .i64 f.lost), .sl 3 (f.ents.map rowE), .sc (.bool f.sat)]
def zeroF : Fq := ⟨0, 0, 0, [], false⟩
def addSat (a b m : Int) : Int × Bool := if max a 0 > max m 0 ∨ max b 0 > max m 0 - max a 0 then (max m 0, true) else (max a 0 + max b 0, false)
def sumT (a b : Int) : Int × Bool := addSat a b 1099511627776
def keyOk (k : ByteArray) : Bool := decide (1 ≤ (k.size : Int)) && decide ((k.size : Int) ≤ 32)
def itemE (k : ByteArray) (w : Int) : Int := if keyOk k = false then 7 else if w < 1 ∨ 4294967295 < w then 5 else 0
def validE (prev : Option En) : List En → Int
  | [] => 0
  | x :: l => if keyOk x.key = false then 7 else if x.count < 1 ∨ 1099511627776 < x.count ∨ x.err ≠ 0 then 5 else
      match prev with
      | some q => if Op.bytesLess x.key.toList q.key.toList = true ∨ x.key.toList = q.key.toList then 19 else validE (some x) l
      | none => validE (some x) l
def prevE (l : List En) (k : Nat) : Option En := if k = 0 then none else l[k - 1]?
theorem prevE_succ {vs : List En} {k : Nat} {v : En} (h : vs[k]? = some v) : prevE vs (k + 1) = some v := by simp [prevE, h]
theorem prevE_pos {vs : List En} {k : Nat} {u : En} (h : 0 < k) (hu : vs[k - 1]? = some u) : prevE vs k = some u := by simp [prevE, hu]; omega
def sizeOk (n : Int) : Bool := decide (1 ≤ n) && decide (n ≤ 32)
def validF (f : Fq) : Int := if sizeOk f.size = false ∨ f.total < 0 ∨ 1099511627776 < f.total ∨ f.lost < 0 ∨ 1099511627776 < f.lost then 5 else if f.size < (f.ents.length : Int) then 11 else validE none f.ents
def newF (n : Int) : Fq × Int := if sizeOk n = true then (⟨n, 0, 0, [], false⟩, 0) else (zeroF, 5)
def placeE (k : ByteArray) : List En → Nat
  | [] => 0
  | x :: l => if Op.bytesLess x.key.toList k.toList = true then placeE k l + 1 else 0
def findE (k : ByteArray) : List En → Nat → Int
  | [], _ => -1
  | x :: l, n => if x.key.toList = k.toList then (n : Int) else findE k l (n + 1)
def byKeyE (x : En) : List En → List En
  | [] => [x]
  | y :: l => if Op.bytesLess x.key.toList y.key.toList = true then x :: y :: l else y :: byKeyE x l
def lowerE (d : Int) : List En → List En
  | [] => []
  | x :: l => if d < x.count then ⟨x.key, x.count - d, 0⟩ :: lowerE d l else lowerE d l
def minE (d : Int) : List En → Int
  | [] => d
  | x :: l => minE (min d x.count) l
def entE (l : List En) (i : Int) : En := (l[i.toNat]?).getD ⟨.empty, 0, 0⟩
def insF (f : Fq) (k : ByteArray) (w : Int) : Fq × Int :=
  if validF f ≠ 0 then (zeroF, validF f) else if itemE k w ≠ 0 then (zeroF, itemE k w) else
  if 0 ≤ findE k f.ents 0 then (⟨f.size, (sumT f.total w).1, f.lost, f.ents.set (findE k f.ents 0).toNat ⟨(entE f.ents (findE k f.ents 0)).key, (sumT (entE f.ents (findE k f.ents 0)).count w).1, (entE f.ents (findE k f.ents 0)).err⟩, (f.sat || (sumT f.total w).2) || (sumT (entE f.ents (findE k f.ents 0)).count w).2⟩, 0)
  else if (f.ents.length : Int) < f.size then (⟨f.size, (sumT f.total w).1, f.lost, byKeyE ⟨k, w, 0⟩ f.ents, f.sat || (sumT f.total w).2⟩, 0)
  else (⟨f.size, (sumT f.total w).1, (sumT f.lost (minE w f.ents)).1, if minE w f.ents < w then byKeyE ⟨k, w - minE w f.ents, 0⟩ (lowerE (minE w f.ents) f.ents) else lowerE (minE w f.ents) f.ents, (f.sat || (sumT f.total w).2) || (sumT f.lost (minE w f.ents)).2⟩, 0)
structure OkE (l : List En) : Prop where
  range : ∀ x ∈ l, keyOk x.key = true ∧ 1 ≤ x.count ∧ x.count ≤ 1099511627776 ∧ x.err = 0
  asc : l.Pairwise (fun a b => Op.bytesLess a.key.toList b.key.toList = true)
theorem validE_ok : ∀ (l : List En) (prev : Option En), validE prev l = 0 → OkE l ∧ ∀ q, prev = some q → ∀ x ∈ l, Op.bytesLess q.key.toList x.key.toList = true
  | [], _, _ => ⟨⟨by simp, List.Pairwise.nil⟩, by simp⟩
  | v :: l, prev, h => by
    unfold validE at h
    split at h
    · omega
    · rename_i hk
      split at h
      · omega
      · rename_i hr
        have key : validE (some v) l = 0 ∧ ∀ q, prev = some q → Op.bytesLess q.key.toList v.key.toList = true := by
          cases prev with
          | none => exact ⟨by simpa using h, by simp⟩
          | some q =>
            simp only at h
            split at h
            · omega
            · rename_i hq
              refine ⟨h, fun q' e => ?_⟩
              cases e
              have h1 : ¬ Op.bytesLess v.key.toList q.key.toList = true := fun e => hq (Or.inl e)
              exact bl_of_not (by simpa using h1) (fun e => hq (Or.inr e.symm))
        obtain ⟨hl, hq⟩ := validE_ok l (some v) key.1
        refine ⟨⟨fun x hx => ?_, List.Pairwise.cons (fun x hx => hq v rfl x hx) hl.asc⟩, fun q e x hx => ?_⟩
        · rcases List.mem_cons.1 hx with rfl | hx
          · exact ⟨by simpa using hk, by omega, by omega, by omega⟩
          · exact hl.range x hx
        · have h1 := key.2 q e
          rcases List.mem_cons.1 hx with rfl | hx
          · exact h1
          · exact bl_trans h1 (hq v rfl x hx)
theorem validE_ok' {l : List En} (h : validE none l = 0) : OkE l := (validE_ok l none h).1
theorem OkE.tail {x : En} {l : List En} (h : OkE (x :: l)) : OkE l ∧ ∀ y ∈ l, Op.bytesLess x.key.toList y.key.toList = true := by
  have := h.asc
  rw [List.pairwise_cons] at this
  exact ⟨⟨fun q hq => h.range q (List.mem_cons_of_mem _ hq), this.2⟩, this.1⟩
theorem validF_ok {f : Fq} (h : validF f = 0) : OkE f.ents ∧ 1 ≤ f.size ∧ f.size ≤ 32 ∧ 0 ≤ f.total ∧ f.total ≤ 1099511627776 ∧ 0 ≤ f.lost ∧ f.lost ≤ 1099511627776 ∧ (f.ents.length : Int) ≤ f.size := by
  unfold validF at h
  split at h
  · omega
  · rename_i h1
    split at h
    · omega
    · have hs : sizeOk f.size = true := by
        cases hh : sizeOk f.size with
        | true => rfl
        | false => exact absurd (Or.inl hh) h1
      simp only [sizeOk, Bool.and_eq_true, decide_eq_true_eq] at hs
      exact ⟨validE_ok' h, hs.1, hs.2, by omega, by omega, by omega, by omega, by omega⟩
theorem placeE_le (k : ByteArray) : ∀ l, placeE k l ≤ l.length
  | [] => by simp [placeE]
  | x :: l => by
    unfold placeE
    have := placeE_le k l
    split <;> simp only [List.length_cons] <;> omega
theorem placeE_is (k : ByteArray) : ∀ (l : List En) (i : Nat), i ≤ l.length → (∀ j x, j < i → l[j]? = some x → Op.bytesLess x.key.toList k.toList = true) → (∀ x, l[i]? = some x → Op.bytesLess x.key.toList k.toList = false) → placeE k l = i
  | [], i, h, _, _ => by simp only [List.length_nil, Nat.le_zero] at h; subst h; rfl
  | x :: l, 0, _, _, h2 => by
    have := h2 x rfl
    unfold placeE
    rw [if_neg (by simp [this])]
  | x :: l, i + 1, h, h1, h2 => by
    have h3 := h1 0 x (by omega) rfl
    unfold placeE
    rw [if_pos h3, placeE_is k l i (by simpa using h) (fun j y hj hy => h1 (j + 1) y (by omega) (by simpa using hy)) (fun y hy => h2 y (by simpa using hy))]
theorem find_above {k : ByteArray} : ∀ {l : List En} (n : Nat), (∀ y ∈ l, Op.bytesLess k.toList y.key.toList = true) → findE k l n = -1
  | [], _, _ => rfl
  | x :: l, n, h => by
    unfold findE
    rw [if_neg (fun e => bl_ne (h x (by simp)) e.symm)]
    exact find_above (n + 1) (fun y hy => h y (List.mem_cons_of_mem _ hy))
/-- Where the key has an entry. -/
theorem find_at {k : ByteArray} : ∀ {l : List En} {x : En} (n : Nat), l[placeE k l]? = some x → x.key.toList = k.toList → findE k l n = ((n + placeE k l : Nat) : Int)
  | [], x, _, h, _ => by simp at h
  | y :: l, x, n, h, hk => by
    unfold placeE at h ⊢
    by_cases hlt : Op.bytesLess y.key.toList k.toList = true
    · simp only [if_pos hlt] at h ⊢
      rw [List.getElem?_cons_succ] at h
      unfold findE
      rw [if_neg (bl_ne hlt), find_at (n + 1) h hk]
      omega
    · simp only [if_neg hlt] at h ⊢
      simp only [List.getElem?_cons_zero, Option.some.injEq] at h
      subst h
      unfold findE
      rw [if_pos hk]; simp
/-- Where it has none. -/
theorem find_none {k : ByteArray} : ∀ {l : List En} (n : Nat), OkE l → (∀ x, l[placeE k l]? = some x → x.key.toList ≠ k.toList) → findE k l n = -1
  | [], _, _, _ => rfl
  | y :: l, n, ok, h => by
    obtain ⟨ok', hab⟩ := ok.tail
    unfold placeE at h
    by_cases hlt : Op.bytesLess y.key.toList k.toList = true
    · simp only [if_pos hlt] at h
      unfold findE
      rw [if_neg (bl_ne hlt)]
      exact find_none (n + 1) ok' (fun x hx => h x (by simpa using hx))
    · simp only [if_neg hlt] at h
      have hne := h y rfl
      have h1 : Op.bytesLess k.toList y.key.toList = true := bl_of_not (by simpa using hlt) (fun e => hne e.symm)
      unfold findE
      rw [if_neg hne]
      exact find_above (n + 1) (fun z hz => bl_trans h1 (hab z hz))
/-- The place of a new entry: for lists of any order that have no entry of the key. -/
theorem byKey_at {x : En} : ∀ {l : List En}, (∀ y ∈ l, y.key.toList ≠ x.key.toList) → byKeyE x l = l.take (placeE x.key l) ++ [x] ++ l.drop (placeE x.key l)
  | [], _ => rfl
  | y :: l, h => by
    unfold byKeyE placeE
    by_cases hlt : Op.bytesLess y.key.toList x.key.toList = true
    · have h1 := bl_asymm hlt
      rw [if_neg (by simp [h1]), if_pos hlt, byKey_at (fun z hz => h z (List.mem_cons_of_mem _ hz))]
      rfl
    · have h1 : Op.bytesLess x.key.toList y.key.toList = true := bl_of_not (by simpa using hlt) (fun e => h y (by simp) e.symm)
      rw [if_pos h1, if_neg hlt]
      rfl
theorem find_neg {k : ByteArray} : ∀ {l : List En} (n : Nat), findE k l n < 0 → ∀ y ∈ l, y.key.toList ≠ k.toList
  | [], _, _ => by simp
  | x :: l, n, h => by
    unfold findE at h
    split at h
    · omega
    · rename_i hne
      intro y hy
      rcases List.mem_cons.1 hy with rfl | hy
      · exact hne
      · exact find_neg (n + 1) h y hy
theorem lower_mem {d : Int} : ∀ {l : List En} {y : En}, y ∈ lowerE d l → ∃ x ∈ l, x.key = y.key
  | [], y, h => by simp [lowerE] at h
  | x :: l, y, h => by
    unfold lowerE at h
    split at h
    · rcases List.mem_cons.1 h with rfl | h
      · exact ⟨x, by simp, rfl⟩
      · obtain ⟨z, hz, e⟩ := lower_mem h
        exact ⟨z, List.mem_cons_of_mem _ hz, e⟩
    · obtain ⟨z, hz, e⟩ := lower_mem h
      exact ⟨z, List.mem_cons_of_mem _ hz, e⟩
theorem lower_len (d : Int) : ∀ l : List En, (lowerE d l).length ≤ l.length
  | [] => by simp [lowerE]
  | x :: l => by
    unfold lowerE
    have := lower_len d l
    split <;> simp only [List.length_cons] <;> omega
theorem byKey_len (x : En) : ∀ l : List En, (byKeyE x l).length = l.length + 1
  | [] => rfl
  | y :: l => by
    unfold byKeyE
    have := byKey_len x l
    split <;> simp only [List.length_cons] <;> omega
theorem minE_le : ∀ (l : List En) (d : Int), minE d l ≤ d
  | [], d => Int.le_refl d
  | x :: l, d => by
    have := minE_le l (min d x.count)
    unfold minE; omega
theorem minE_pos : ∀ (l : List En) (d : Int), 1 ≤ d → (∀ x ∈ l, 1 ≤ x.count) → 1 ≤ minE d l
  | [], d, h, _ => h
  | x :: l, d, h, hx => by
    have h1 := hx x (by simp)
    unfold minE
    exact minE_pos l _ (by omega) (fun y hy => hx y (List.mem_cons_of_mem _ hy))
theorem sumT_range (a b : Int) : 0 ≤ (sumT a b).1 ∧ (sumT a b).1 ≤ 1099511627776 := by
  simp only [sumT, addSat]
  split <;> simp only <;> omega
theorem ins_len {f : Fq} {k : ByteArray} {w : Int} : (insF f k w).1.ents.length ≤ 33 := by
  unfold insF
  split
  · simp [zeroF]
  · rename_i hv
    have hv0 : validF f = 0 := by omega
    obtain ⟨_, h1, h2, _, _, _, _, h3⟩ := validF_ok hv0
    split
    · simp [zeroF]
    · split
      · simp only [List.length_set]; omega
      · split
        · simp only [byKey_len]; omega
        · have := lower_len (minE w f.ents) f.ents
          split
          · simp only [byKey_len]; omega
          · simp only; omega
theorem flatE (l : List En) : (List.map rowE l).all flatL = true := by simp [List.all_eq_true, rowE, flatL, flatD]
attribute [go_sem] flatE
end Go.Proofs.Ytnckgbmifigadaa
