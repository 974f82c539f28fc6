/- Directory: the sorted and compacted names are those that the reference puts in their places one by one (plain). -/
import Derived.Test.YtpopgpjojbngcaaDiL
import Derived.Test.YtpopgpjojbngcaaBl
set_option linter.unusedSimpArgs false
set_option linter.unusedVariables false
namespace Go.Proofs.Ytpopgpjojbngcaa
open Go.RowKit Go.Avm Go.Sort
def Asc (l : List ByteArray) : Prop := l.Pairwise (fun x y => ltN x y = true)
theorem toList_of (s : ByteArray) : s.toList = ofB s := Go.ByteArray.toList_eq s
theorem ltN_of (x y : ByteArray) : ltN x y = Op.bytesLess (ofB x) (ofB y) := by rw [ltN, toList_of, toList_of]
theorem ofB_inj {x y : ByteArray} (h : ofB x = ofB y) : x = y := by rw [← toB_ofB x, h, toB_ofB]
theorem eqN_iff {x y : ByteArray} : eqN x y = true ↔ x = y := by
  rw [eqN, toList_of, toList_of, beq_iff_eq]
  exact ⟨ofB_inj, fun h => by rw [h]⟩
theorem ltN_irrefl (x : ByteArray) : ltN x x = false := bl_irrefl _
theorem ltN_trans {x y z : ByteArray} (h : ltN x y = true) (g : ltN y z = true) : ltN x z = true := bl_trans h g
/-- Two ascending lists with the same members are the same. -/
theorem asc_ext : ∀ {a b : List ByteArray}, Asc a → Asc b → (∀ x, x ∈ a ↔ x ∈ b) → a = b
  | [], [], _, _, _ => rfl
  | [], y :: b, _, _, h => by have := (h y).2 (List.mem_cons_self ..); cases this
  | x :: a, [], _, _, h => by have := (h x).1 (List.mem_cons_self ..); cases this
  | x :: a, y :: b, ha, hb, h => by
    have ha' := List.pairwise_cons.1 ha
    have hb' := List.pairwise_cons.1 hb
    have e : x = y := by
      rcases List.mem_cons.1 ((h x).1 (List.mem_cons_self ..)) with e | e
      · exact e
      · rcases List.mem_cons.1 ((h y).2 (List.mem_cons_self ..)) with e2 | e2
        · exact e2.symm
        · have h1 := hb'.1 x e
          have h2 := ha'.1 y e2
          have := ltN_trans h1 h2
          rw [ltN_irrefl] at this; cases this
    subst e
    rw [asc_ext ha'.2 hb'.2 fun z => ?_]
    constructor
    · intro hz
      rcases List.mem_cons.1 ((h z).1 (List.mem_cons_of_mem _ hz)) with e | e
      · subst e; have := ha'.1 z hz; rw [ltN_irrefl] at this; cases this
      · exact e
    · intro hz
      rcases List.mem_cons.1 ((h z).2 (List.mem_cons_of_mem _ hz)) with e | e
      · subst e; have := hb'.1 z hz; rw [ltN_irrefl] at this; cases this
      · exact e
theorem compUp_spec (d : Array (List UInt8)) (hs : ∀ i j, i < j → j < d.size → d[i]! ≤ d[j]!) : ∀ m, m ≤ d.size →
    (Lib.compactUpTo d m).Pairwise (fun x y => Op.bytesLess x y = true) ∧ (∀ x, x ∈ Lib.compactUpTo d m ↔ ∃ i, i < m ∧ d[i]! = x)
  | 0, _ => by simp [Lib.compactUpTo]
  | m + 1, hm => by
    obtain ⟨h1, h2⟩ := compUp_spec d hs m (by omega)
    rw [Lib.compactUpTo_succ]
    by_cases hk : Lib.keeps d m = true
    · rw [if_pos hk]
      refine ⟨List.pairwise_append.2 ⟨h1, List.pairwise_singleton _ _, fun x hx y hy => ?_⟩, fun x => ?_⟩
      · obtain ⟨i, hi, rfl⟩ := (h2 x).1 hx
        rw [List.mem_singleton] at hy
        subst hy
        have hk' : m ≠ 0 ∧ d[m]! ≠ d[m - 1]! ∨ m = 0 := by
          unfold Lib.keeps at hk
          rcases of_decide_eq_true hk with g | g
          · exact .inr g
          · by_cases h0 : m = 0
            · exact .inr h0
            · exact .inl ⟨h0, g⟩
        rcases hk' with ⟨h0, hne⟩ | h0
        · have a1 : d[i]! ≤ d[m - 1]! := by
            rcases Nat.lt_or_ge i (m - 1) with g | g
            · exact hs i (m - 1) g (by omega)
            · have : i = m - 1 := by omega
              subst this; exact List.le_refl _
          have a2 : d[m - 1]! ≤ d[m]! := hs (m - 1) m (by omega) (by omega)
          have b1 : Op.bytesLess (d[m - 1]!) (d[i]!) = false := by rw [bytesLess_eq]; exact decide_eq_false a1
          have b2 : Op.bytesLess (d[m]!) (d[m - 1]!) = false := by rw [bytesLess_eq]; exact decide_eq_false a2
          have c2 := bl_of_not b2 (fun e => hne e.symm)
          rcases bl_total (d[i]!) (d[m - 1]!) with g | g | g
          · exact bl_trans g c2
          · rw [g]; exact c2
          · rw [b1] at g; cases g
        · omega
      · rw [List.mem_append, h2, List.mem_singleton]
        constructor
        · rintro (⟨i, hi, e⟩ | e)
          · exact ⟨i, by omega, e⟩
          · exact ⟨m, by omega, e.symm⟩
        · rintro ⟨i, hi, e⟩
          rcases Nat.lt_or_ge i m with g | g
          · exact .inl ⟨i, g, e⟩
          · have : i = m := by omega
            subst this; exact .inr e.symm
    · rw [if_neg hk, List.append_nil]
      refine ⟨h1, fun x => ?_⟩
      rw [h2]
      have hk' : m ≠ 0 ∧ d[m]! = d[m - 1]! := by
        unfold Lib.keeps at hk
        simp only [decide_eq_true_eq, not_or, ne_eq, Decidable.not_not] at hk
        exact hk
      constructor
      · rintro ⟨i, hi, e⟩; exact ⟨i, by omega, e⟩
      · rintro ⟨i, hi, e⟩
        rcases Nat.lt_or_ge i m with g | g
        · exact ⟨i, g, e⟩
        · have : i = m := by omega
          subst this; exact ⟨i - 1, by omega, by rw [← hk'.2]; exact e⟩
theorem listP_spec (c : Int) (l : List Bd) : Asc (listP c l) ∧ ∀ x, x ∈ listP c l ↔ x ∈ namesB c l := by
  have hsrt : ((namesB c l).map ofB).mergeSort (fun x y => decide (x ≤ y)) |>.Pairwise (fun x y => x ≤ y) := by
    have := List.pairwise_mergeSort (le := fun x y : List UInt8 => decide (x ≤ y)) (fun a b c h1 h2 => by simp only [decide_eq_true_eq] at *; exact List.le_trans h1 h2) (fun a b => by simp only [Bool.or_eq_true, decide_eq_true_eq]; exact List.le_total a b) ((namesB c l).map ofB)
    exact this.imp (fun h => by simpa using h)
  have hmem : ∀ z, z ∈ ((namesB c l).map ofB).mergeSort (fun x y => decide (x ≤ y)) ↔ z ∈ (namesB c l).map ofB := fun z => List.mem_mergeSort
  unfold listP compN sortN
  generalize ((namesB c l).map ofB).mergeSort (fun x y => decide (x ≤ y)) = Z at hsrt hmem
  have hz : (Z.map toB).map ofB = Z := by
    rw [List.map_map]
    conv => rhs; rw [← List.map_id Z]
    exact List.map_congr_left (fun z _ => ofB_toB z)
  rw [hz]
  have hsp := compUp_spec Z.toArray (fun i j hij hj => by
    have hj' : j < Z.length := by simpa using hj
    have := List.pairwise_iff_getElem.1 hsrt i j (by omega) hj' hij
    rw [getElem!_pos Z.toArray i (by simp; omega), getElem!_pos Z.toArray j hj]
    simpa using this) Z.length (by simp)
  obtain ⟨h1, h2⟩ := hsp
  change (Lib.compact Z).Pairwise _ at h1
  change ∀ x, x ∈ Lib.compact Z ↔ _ at h2
  refine ⟨?_, fun x => ?_⟩
  · unfold Asc
    rw [List.pairwise_map]
    exact h1.imp (fun {a b} h => by rw [ltN_of, ofB_toB, ofB_toB]; exact h)
  · rw [List.mem_map]
    constructor
    · rintro ⟨z, hz1, rfl⟩
      obtain ⟨i, hi, e⟩ := (h2 z).1 hz1
      have : z ∈ Z := by
        rw [getElem!_pos Z.toArray i (by simpa using hi)] at e
        rw [← e]; simp
      obtain ⟨y, hy, e2⟩ := List.mem_map.1 ((hmem z).1 this)
      rw [← e2, toB_ofB]; exact hy
    · intro hx
      have : ofB x ∈ Z := (hmem _).2 (List.mem_map.2 ⟨x, hx, rfl⟩)
      obtain ⟨i, hi, e⟩ := List.mem_iff_getElem.1 this
      refine ⟨ofB x, (h2 _).2 ⟨i, hi, ?_⟩, toB_ofB x⟩
      rw [getElem!_pos Z.toArray i (by simpa using hi)]
      simpa using e
end Go.Proofs.Ytpopgpjojbngcaa
