/- Frequent: the bounds of Misra-Gries that an insertion and a merge keep (plain laws). -/
import Derived.Test.YtpopgpjojbngcaaFrI
import Derived.Test.YtpopgpjojbngcaaFrQ
set_option linter.unusedSimpArgs false
set_option linter.unusedVariables false
namespace Go.Proofs.Ytpopgpjojbngcaa
open Go.RowKit Go.Avm
def cntE (k : ByteArray) : List En → Int
  | [] => 0
  | x :: l => (if x.key.toList = k.toList then x.count else 0) + cntE k l
def sumC : List En → Int
  | [] => 0
  | x :: l => x.count + sumC l
def numGe (d : Int) : List En → Int
  | [] => 0
  | x :: l => (if d ≤ x.count then 1 else 0) + numGe d l
theorem cnt_nonneg {k : ByteArray} : ∀ {l : List En}, Rng l → 0 ≤ cntE k l
  | [], _ => by simp [cntE]
  | x :: l, h => by
    have := cnt_nonneg (k := k) (l := l) fun z hz => h z (List.mem_cons_of_mem _ hz)
    have hx := h x (by simp)
    unfold cntE
    split <;> omega
theorem cnt_none {k : ByteArray} : ∀ {l : List En}, (∀ y ∈ l, y.key.toList ≠ k.toList) → cntE k l = 0
  | [], _ => by simp [cntE]
  | x :: l, h => by
    have := cnt_none (k := k) (l := l) fun z hz => h z (List.mem_cons_of_mem _ hz)
    unfold cntE
    rw [if_neg (h x (by simp))]; omega
theorem cnt_byKey {k : ByteArray} {x : En} : ∀ {l : List En}, cntE k (byKeyE x l) = (if x.key.toList = k.toList then x.count else 0) + cntE k l
  | [] => by simp [byKeyE, cntE]
  | y :: l => by
    have := cnt_byKey (k := k) (x := x) (l := l)
    unfold byKeyE
    split
    · simp [cntE]
    · simp only [cntE, this]; omega
theorem sum_byKey {x : En} : ∀ {l : List En}, sumC (byKeyE x l) = x.count + sumC l
  | [] => by simp [byKeyE, sumC]
  | y :: l => by
    have := sum_byKey (x := x) (l := l)
    unfold byKeyE
    split
    · simp [sumC]
    · simp only [sumC, this]; omega
theorem cnt_set {k : ByteArray} {y : En} : ∀ {l : List En} {i : Nat} {x : En}, l[i]? = some x → y.key = x.key → cntE k (l.set i y) = cntE k l + (if x.key.toList = k.toList then y.count - x.count else 0)
  | [], _, _, h, _ => by simp at h
  | z :: l, 0, x, h, hk => by
    simp at h
    subst h
    simp only [List.set_cons_zero, cntE, hk]
    split <;> omega
  | z :: l, i + 1, x, h, hk => by
    have := cnt_set (k := k) (l := l) (i := i) (by simpa using h) hk
    simp only [List.set_cons_succ, cntE, this]; omega
theorem sum_set {y : En} : ∀ {l : List En} {i : Nat} {x : En}, l[i]? = some x → sumC (l.set i y) = sumC l + (y.count - x.count)
  | [], _, _, h => by simp at h
  | z :: l, 0, x, h => by
    simp at h
    subst h
    simp only [List.set_cons_zero, sumC]; omega
  | z :: l, i + 1, x, h => by
    have := sum_set (y := y) (l := l) (i := i) (x := x) (by simpa using h)
    simp only [List.set_cons_succ, sumC, this]; omega
theorem sum_nonneg : ∀ {l : List En}, Rng l → 0 ≤ sumC l
  | [], _ => by simp [sumC]
  | x :: l, h => by
    have := sum_nonneg (l := l) fun z hz => h z (List.mem_cons_of_mem _ hz)
    have hx := h x (by simp)
    simp only [sumC]; omega
theorem le_sum : ∀ {l : List En} {x : En}, Rng l → x ∈ l → x.count ≤ sumC l
  | y :: l, x, h, hx => by
    have h' : Rng l := fun z hz => h z (List.mem_cons_of_mem _ hz)
    have hy := h y (by simp)
    have := sum_nonneg h'
    simp only [sumC]
    rcases List.mem_cons.1 hx with rfl | hx
    · omega
    · have := le_sum h' hx; omega
theorem cnt_lower {k : ByteArray} {d : Int} (hd : 0 ≤ d) : ∀ {l : List En}, OkE l → cntE k (lowerE d l) ≤ cntE k l ∧ cntE k l ≤ cntE k (lowerE d l) + d
  | [], _ => by simp [lowerE, cntE, hd]
  | x :: l, ok => by
    obtain ⟨ok', hab⟩ := ok.tail
    obtain ⟨i1, i2⟩ := cnt_lower (k := k) hd ok'
    have hx := ok.range x (by simp)
    by_cases hk : x.key.toList = k.toList
    · have h0 : cntE k l = 0 := cnt_none fun y hy e => bl_ne (hab y hy) (hk.trans e.symm)
      have h1 : cntE k (lowerE d l) = 0 := cnt_none fun y hy e => by
        obtain ⟨z, hz, ez⟩ := lower_mem hy
        exact bl_ne (hab z hz) (by rw [ez, hk, e])
      unfold lowerE
      split
      · simp only [cntE, hk, if_true, h0, h1]; omega
      · simp only [cntE, hk, if_true, h0, h1]; omega
    · unfold lowerE
      split
      · simp only [cntE, if_neg hk]; omega
      · simp only [cntE, if_neg hk]; omega
theorem sum_lower {d : Int} (hd : 0 ≤ d) : ∀ {l : List En}, Rng l → sumC (lowerE d l) + d * numGe d l ≤ sumC l
  | [], _ => by simp [lowerE, sumC, numGe]
  | x :: l, h => by
    have i := sum_lower hd (l := l) fun z hz => h z (List.mem_cons_of_mem _ hz)
    have hx := h x (by simp)
    unfold lowerE
    by_cases h1 : d < x.count
    · rw [if_pos h1]
      simp only [sumC, numGe, if_pos (show d ≤ x.count by omega), Int.mul_add, Int.mul_one]; omega
    · rw [if_neg h1]
      by_cases h2 : d ≤ x.count
      · simp only [sumC, numGe, if_pos h2, Int.mul_add, Int.mul_one]; omega
      · simp only [sumC, numGe, if_neg h2, Int.zero_add]; omega
theorem numGe_all {d : Int} : ∀ {l : List En}, (∀ x ∈ l, d ≤ x.count) → numGe d l = (l.length : Int)
  | [], _ => by simp [numGe]
  | x :: l, h => by
    have i := numGe_all (d := d) (l := l) fun z hz => h z (List.mem_cons_of_mem _ hz)
    simp only [numGe, if_pos (h x (by simp)), i, List.length_cons]; omega
theorem min_all : ∀ {l : List En} {d : Int} {x : En}, x ∈ l → minE d l ≤ x.count
  | y :: l, d, x, h => by
    unfold minE
    rcases List.mem_cons.1 h with rfl | h
    · have := minE_le l (min d x.count); omega
    · exact min_all h
theorem numGe_countP (d : Int) : ∀ l : List En, numGe d l = (((l.map En.count).countP fun c => decide (d ≤ c) : Nat) : Int)
  | [] => by simp [numGe]
  | x :: l => by
    simp only [numGe, numGe_countP d l, List.map_cons, List.countP_cons, decide_eq_true_eq]
    split <;> omega
theorem lower_countP (d : Int) : ∀ l : List En, (lowerE d l).length = (l.map En.count).countP fun c => decide (d < c)
  | [] => by simp [lowerE]
  | x :: l => by
    unfold lowerE
    have := lower_countP d l
    simp only [List.map_cons, List.countP_cons, decide_eq_true_eq]
    split
    · simp only [List.length_cons, this]
    · rw [this]; rfl
/-- The count that a merge lowers by: more than size entries reach it, no more than size are above it. -/
theorem dP_ranks {l : List En} {s : Int} (h0 : 0 ≤ s) (hs : s < (l.length : Int)) : s + 1 ≤ numGe (dP l s) l ∧ ((lowerE (dP l s) l).length : Int) ≤ s := by
  have hp : (sortI (l.map En.count)).Perm (l.map En.count) := List.mergeSort_perm _ _
  have hlen : (sortI (l.map En.count)).length = l.length := by rw [hp.length_eq, List.length_map]
  have hasc : (sortI (l.map En.count)).Pairwise (fun a b => a ≤ b) := by
    have := List.pairwise_mergeSort (le := fun x y : Int => decide (x ≤ y)) (fun a b c h1 h2 => by simp only [decide_eq_true_eq] at *; omega) (fun a b => by simp only [Bool.or_eq_true, decide_eq_true_eq]; omega) (l.map En.count)
    simpa only [sortI, decide_eq_true_eq] using this
  generalize hS : sortI (l.map En.count) = S at *
  generalize hm : ((l.length : Int) - 1 - s).toNat = m
  have hml : m < S.length := by omega
  have hd : dP l s = S[m] := by
    unfold dP
    rw [hS, hm, List.getElem?_eq_getElem hml]; rfl
  have hsplit : S = S.take m ++ S[m] :: S.drop (m + 1) := by
    rw [← List.drop_eq_getElem_cons hml, List.take_append_drop]
  have hge : ∀ c ∈ S.drop m, dP l s ≤ c := by
    rw [List.drop_eq_getElem_cons hml, hd]
    intro c hc
    rcases List.mem_cons.1 hc with rfl | hc
    · exact Int.le_refl _
    · rw [hsplit, List.pairwise_append] at hasc
      have h2 := hasc.2.1
      rw [List.pairwise_cons] at h2
      exact h2.1 c hc
  have hle : ∀ c ∈ S.take (m + 1), c ≤ dP l s := by
    intro c hc
    rw [List.take_add_one, List.getElem?_eq_getElem hml] at hc
    rw [hd]
    rcases List.mem_append.1 hc with hc | hc
    · rw [hsplit, List.pairwise_append] at hasc
      exact hasc.2.2 c hc _ (List.Mem.head _)
    · simp at hc; omega
  constructor
  · rw [numGe_countP, ← hp.countP_eq]
    have h1 : (S.drop m).countP (fun c => decide (dP l s ≤ c)) = (S.drop m).length := List.countP_eq_length.2 fun c hc => by simpa using hge c hc
    have h2 := (List.drop_sublist m S).countP_le (p := fun c => decide (dP l s ≤ c))
    rw [h1, List.length_drop] at h2
    omega
  · rw [lower_countP, ← hp.countP_eq]
    have h1 : (S.take (m + 1)).countP (fun c => decide (dP l s < c)) = 0 := List.countP_eq_zero.2 fun c hc => by simpa using hle c hc
    have h2 : S.countP (fun c => decide (dP l s < c)) = (S.take (m + 1)).countP (fun c => decide (dP l s < c)) + (S.drop (m + 1)).countP (fun c => decide (dP l s < c)) := by
      rw [← List.countP_append, List.take_append_drop]
    have h3 := List.countP_le_length (p := fun c => decide (dP l s < c)) (l := S.drop (m + 1))
    rw [List.length_drop] at h3
    omega
theorem sumT_exact {a b : Int} (ha : 0 ≤ a) (hb : 0 ≤ b) (h : a + b ≤ 1099511627776) : sumT a b = (a + b, false) := by
  simp only [sumT, addSat]
  rw [if_neg (by omega)]
  rw [show max a 0 + max b 0 = a + b by omega]
theorem join_key : ∀ {a b : List En} {z : En}, z ∈ joinE a b → (∃ x ∈ a, z.key = x.key) ∨ ∃ y ∈ b, z.key = y.key
  | [], b, z, h => by simp [joinE] at h; exact .inr ⟨z, h, rfl⟩
  | x :: a, [], z, h => by simp only [joinE] at h; exact .inl ⟨z, h, rfl⟩
  | x :: a, y :: b, z, h => by
    simp only [joinE] at h
    split at h
    · rcases List.mem_cons.1 h with rfl | h
      · exact .inl ⟨z, by simp, rfl⟩
      · rcases join_key h with ⟨w, hw, e⟩ | hh
        · exact .inl ⟨w, List.mem_cons_of_mem _ hw, e⟩
        · exact .inr hh
    · split at h
      · rcases List.mem_cons.1 h with rfl | h
        · exact .inr ⟨z, by simp, rfl⟩
        · rcases join_key h with hh | ⟨w, hw, e⟩
          · exact .inl hh
          · exact .inr ⟨w, List.mem_cons_of_mem _ hw, e⟩
      · rcases List.mem_cons.1 h with rfl | h
        · exact .inl ⟨x, by simp, rfl⟩
        · rcases join_key h with ⟨w, hw, e⟩ | ⟨w, hw, e⟩
          · exact .inl ⟨w, List.mem_cons_of_mem _ hw, e⟩
          · exact .inr ⟨w, List.mem_cons_of_mem _ hw, e⟩
termination_by a b => a.length + b.length
theorem join_asc : ∀ {a b : List En}, OkE a → OkE b → (joinE a b).Pairwise (fun x y => Op.bytesLess x.key.toList y.key.toList = true)
  | [], b, _, ob => by simpa [joinE] using ob.asc
  | x :: a, [], oa, _ => by simpa [joinE] using oa.asc
  | x :: a, y :: b, oa, ob => by
    obtain ⟨oa', ha⟩ := oa.tail
    obtain ⟨ob', hb⟩ := ob.tail
    simp only [joinE]
    split
    · rename_i h1
      refine List.Pairwise.cons (fun z hz => ?_) (join_asc oa' ob)
      rcases join_key hz with ⟨w, hw, e⟩ | ⟨w, hw, e⟩
      · rw [e]; exact ha w hw
      · rw [e]
        rcases List.mem_cons.1 hw with rfl | hw
        · exact h1
        · exact bl_trans h1 (hb w hw)
    · rename_i h1
      split
      · rename_i h2
        refine List.Pairwise.cons (fun z hz => ?_) (join_asc oa ob')
        rcases join_key hz with ⟨w, hw, e⟩ | ⟨w, hw, e⟩
        · rw [e]
          rcases List.mem_cons.1 hw with rfl | hw
          · exact h2
          · exact bl_trans h2 (ha w hw)
        · rw [e]; exact hb w hw
      · rename_i h2
        have he : x.key.toList = y.key.toList := by
          rcases bl_total x.key.toList y.key.toList with h | h | h
          · exact absurd h h1
          · exact h
          · exact absurd h h2
        refine List.Pairwise.cons (fun z hz => ?_) (join_asc oa' ob')
        simp only
        rcases join_key hz with ⟨w, hw, e⟩ | ⟨w, hw, e⟩
        · rw [e]; exact ha w hw
        · rw [e, he]; exact hb w hw
termination_by a b => a.length + b.length
theorem join_sums {k : ByteArray} : ∀ {a b : List En}, (∀ x ∈ a, ∀ y ∈ b, sumT x.count y.count = (x.count + y.count, false)) → sumC (joinE a b) = sumC a + sumC b ∧ cntE k (joinE a b) = cntE k a + cntE k b ∧ joinS a b = false
  | [], b, _ => by simp [joinE, joinS, sumC, cntE]
  | x :: a, [], _ => by simp [joinE, joinS, sumC, cntE]
  | x :: a, y :: b, h => by
    have i1 := join_sums (k := k) (a := a) (b := y :: b) fun p hp q hq => h p (List.mem_cons_of_mem _ hp) q hq
    have i2 := join_sums (k := k) (a := x :: a) (b := b) fun p hp q hq => h p hp q (List.mem_cons_of_mem _ hq)
    have i3 := join_sums (k := k) (a := a) (b := b) fun p hp q hq => h p (List.mem_cons_of_mem _ hp) q (List.mem_cons_of_mem _ hq)
    have hxy := h x (by simp) y (by simp)
    simp only [joinE, joinS]
    split
    · simp only [sumC, cntE] at i1 ⊢
      exact ⟨by omega, by omega, i1.2.2⟩
    · rename_i h1
      split
      · simp only [sumC, cntE] at i2 ⊢
        exact ⟨by omega, by omega, i2.2.2⟩
      · rename_i h2
        have he : x.key.toList = y.key.toList := by
          rcases bl_total x.key.toList y.key.toList with h | h | h
          · exact absurd h h1
          · exact h
          · exact absurd h h2
        rw [hxy]
        simp only [sumC, cntE, he, Bool.false_or]
        refine ⟨by omega, ?_, i3.2.2⟩
        split <;> omega
termination_by a b => a.length + b.length
/-- What holds of a summary of size k, of the true weight own of a key and of the total all. -/
structure InvB (k : Int) (key : ByteArray) (f : Fq) (own all : Int) : Prop where
  valid : validF f = 0
  size : f.size = k
  sat : f.sat = false
  total : f.total = all
  lo : cntE key f.ents ≤ own
  hi : own ≤ cntE key f.ents + f.lost
  sum : sumC f.ents + (k + 1) * f.lost ≤ all
theorem InvB.new {k : Int} {key : ByteArray} (h1 : 1 ≤ k) (h2 : k ≤ 32) : InvB k key ⟨k, 0, 0, [], false⟩ 0 0 :=
  ⟨(newF_valid h1 h2).2, rfl, rfl, rfl, by simp [cntE], by simp [cntE], by simp [sumC]⟩
theorem lost_le {k lo all s : Int} (hk : 1 ≤ k) (h0 : 0 ≤ lo) (hs : 0 ≤ s) (h : s + (k + 1) * lo ≤ all) : lo ≤ all := by
  have h1 : 1 * lo ≤ (k + 1) * lo := Int.mul_le_mul_of_nonneg_right (by omega) h0
  omega
theorem InvB.insert {k : Int} {key kk : ByteArray} {f : Fq} {own all w : Int} (h : InvB k key f own all) (hw : itemE kk w = 0) (hb : all + w ≤ 1099511627776) :
    InvB k key (insF f kk w).1 (if kk.toList = key.toList then own + w else own) (all + w) := by
  obtain ⟨v1, v2, v3⟩ := insF_valid h.valid hw
  obtain ⟨ok, o1, o2, o3, o4, o5, o6, o7⟩ := validF_ok h.valid
  obtain ⟨w1, w2, w3⟩ := itemE_ok hw
  have hk := h.size
  have hrng : Rng f.ents := ok.range
  have hs0 := sum_nonneg hrng
  have hc0 := cnt_nonneg (k := key) hrng
  have hll := lost_le (by omega) o5 hs0 h.sum
  have hlo := h.lo; have hhi := h.hi; have hsum := h.sum; have htot := h.total
  have ht : sumT f.total w = (all + w, false) := by rw [htot]; exact sumT_exact (by omega) (by omega) hb
  unfold insF at v1 v2 ⊢
  rw [if_neg (by simp [h.valid]), if_neg (by simp [hw])] at v1 v2 ⊢
  by_cases hf : 0 ≤ findE kk f.ents 0
  · rw [if_pos hf] at v1 v2 ⊢
    obtain ⟨j, x, h1, h2, h3⟩ := find_get 0 hf
    rw [Nat.zero_add] at h3
    have he : entE f.ents ((j : Nat) : Int) = x := by simp [entE, h1]
    have hx := hrng x (List.mem_of_getElem? h1)
    have hxs := le_sum hrng (List.mem_of_getElem? h1)
    have hm : 0 ≤ (k + 1) * f.lost := Int.mul_nonneg (by omega) o5
    have hxw : sumT x.count w = (x.count + w, false) := sumT_exact (by omega) (by omega) (by omega)
    simp only [h3, Int.toNat_natCast, he, ht, hxw] at v1 v2 ⊢
    have hc := cnt_set (k := key) (y := ⟨x.key, x.count + w, x.err⟩) h1 rfl
    have hs := sum_set (y := ⟨x.key, x.count + w, x.err⟩) h1
    simp only at hc hs
    rw [h2] at hc
    refine ⟨v1, hk, by simp [h.sat], rfl, ?_, ?_, ?_⟩
    · simp only [hc]; split <;> omega
    · simp only [hc]; split <;> omega
    · simp only [hs]; omega
  · rw [if_neg hf] at v1 v2 ⊢
    have hne := find_neg (k := kk) 0 (show findE kk f.ents 0 < 0 by omega)
    by_cases hlt : (f.ents.length : Int) < f.size
    · rw [if_pos hlt] at v1 v2 ⊢
      simp only [ht] at v1 v2 ⊢
      refine ⟨v1, hk, by simp [h.sat], rfl, ?_, ?_, ?_⟩
      · simp only [cnt_byKey]; split <;> omega
      · simp only [cnt_byKey]; split <;> omega
      · simp only [sum_byKey]; omega
    · rw [if_neg hlt] at v1 v2 ⊢
      have hm1 := minE_le f.ents w
      have hm2 := minE_pos f.ents w w1 (fun x hx => (ok.range x hx).2.1)
      have hnum := numGe_all (d := minE w f.ents) (l := f.ents) fun x hx => min_all hx
      have hsl := sum_lower (d := minE w f.ents) (by omega) hrng
      obtain ⟨hc1, hc2⟩ := cnt_lower (k := key) (d := minE w f.ents) (by omega) ok
      have hlen : (f.ents.length : Int) = k := by omega
      rw [hnum, hlen] at hsl
      generalize minE w f.ents = d at *
      have hd1 : (k + 1) * (f.lost + d) = (k + 1) * f.lost + k * d + d := by rw [Int.mul_add, Int.add_mul k 1 d]; omega
      have hdk : d * k = k * d := Int.mul_comm _ _
      have hnl := sum_nonneg (l := lowerE d f.ents) (lower_ok (by omega) ok).range
      have hL : sumT f.lost d = (f.lost + d, false) := by
        refine sumT_exact o5 (by omega) ?_
        have h1 : f.lost + d ≤ (k + 1) * (f.lost + d) := by
          have := Int.mul_le_mul_of_nonneg_right (show (1 : Int) ≤ k + 1 by omega) (show (0 : Int) ≤ f.lost + d by omega)
          omega
        omega
      have hkz : kk.toList = key.toList → cntE key f.ents = 0 := fun e => cnt_none fun y hy ey => hne y hy (ey.trans e.symm)
      have hcl := cnt_nonneg (k := key) (l := lowerE d f.ents) (lower_ok (by omega) ok).range
      simp only [ht, hL] at v1 v2 ⊢
      by_cases hdw : d < w
      · rw [if_pos hdw] at v1 ⊢
        refine ⟨v1, hk, by simp [h.sat], rfl, ?_, ?_, ?_⟩
        · simp only [cnt_byKey]
          split
          · rename_i e; have := hkz e; omega
          · omega
        · simp only [cnt_byKey]
          split
          · rename_i e; have := hkz e; omega
          · omega
        · simp only [sum_byKey]; omega
      · rw [if_neg hdw] at v1 ⊢
        refine ⟨v1, hk, by simp [h.sat], rfl, ?_, ?_, ?_⟩
        · simp only
          split
          · rename_i e; have := hkz e; omega
          · omega
        · simp only
          split
          · rename_i e; have := hkz e; omega
          · omega
        · simp only; omega
theorem InvB.merge {k : Int} {key : ByteArray} {f g : Fq} {own own' all all' : Int} (h : InvB k key f own all) (h' : InvB k key g own' all') (hb : all + all' ≤ 1099511627776) : InvB k key (mrgF f g).1 (own + own') (all + all') ∧ (mrgF f g).2 = 0 := by
  obtain ⟨ok, o1, o2, o3, o4, o5, o6, o7⟩ := validF_ok h.valid
  obtain ⟨ok', p1, p2, p3, p4, p5, p6, p7⟩ := validF_ok h'.valid
  have hk := h.size; have hk' := h'.size
  have hr : Rng f.ents := ok.range
  have hr' : Rng g.ents := ok'.range
  have hs0 := sum_nonneg hr; have hs0' := sum_nonneg hr'
  have hll := lost_le (by omega) o5 hs0 h.sum
  have hll' := lost_le (by omega) p5 hs0' h'.sum
  have hlo := h.lo; have hhi := h.hi; have hsum := h.sum; have htot := h.total
  have hlo' := h'.lo; have hhi' := h'.hi; have hsum' := h'.sum; have htot' := h'.total
  have hm : 0 ≤ (k + 1) * f.lost := Int.mul_nonneg (by omega) o5
  have hm' : 0 ≤ (k + 1) * g.lost := Int.mul_nonneg (by omega) p5
  have ht : sumT f.total g.total = (all + all', false) := by rw [htot, htot']; exact sumT_exact (by omega) (by omega) hb
  have hl : sumT f.lost g.lost = (f.lost + g.lost, false) := sumT_exact o5 p5 (by omega)
  obtain ⟨j1, j2, j3⟩ := join_sums (k := key) (a := f.ents) (b := g.ents) fun x hx y hy => by
    have h1 := hr x hx; have h2 := hr' y hy
    have h3 := le_sum hr hx; have h4 := le_sum hr' hy
    exact sumT_exact (by omega) (by omega) (by omega)
  have jok : OkE (joinE f.ents g.ents) := ⟨join_rng _ _ hr hr', join_asc ok ok'⟩
  have hs : sizeOk f.size = true := by simp only [sizeOk, Bool.and_eq_true, decide_eq_true_eq]; omega
  have hS : mrgS f g = false := by simp [mrgS, h.sat, h'.sat, ht, hl, j3]
  have hmul : (k + 1) * (f.lost + g.lost) = (k + 1) * f.lost + (k + 1) * g.lost := Int.mul_add _ _ _
  have mk : ∀ q : Fq, q.size = f.size → 0 ≤ q.total → q.total ≤ 1099511627776 → 0 ≤ q.lost → q.lost ≤ 1099511627776 → (q.ents.length : Int) ≤ f.size → OkE q.ents → validF q = 0 := by
    intro q g1 g2 g3 g4 g5 g6 g7
    unfold validF
    rw [g1, if_neg (by rw [hs]; simp; omega), if_neg (by omega)]
    exact OkE.valid none g7 (by simp)
  unfold mrgF
  rw [if_neg (by simp [h.valid]), if_neg (by simp [h'.valid]), if_neg (by omega)]
  simp only [ht, hl, hS]
  by_cases hlong : f.size < ((joinE f.ents g.ents).length : Int)
  · rw [if_pos hlong]
    obtain ⟨e1, e2⟩ := dP_ranks (by omega) hlong
    obtain ⟨_, d1, d2⟩ := dP_get (by omega) hlong jok.range
    generalize dP (joinE f.ents g.ents) f.size = d at *
    have hsl := sum_lower (d := d) (by omega) jok.range
    obtain ⟨c1, c2⟩ := cnt_lower (k := key) (d := d) (by omega) jok
    have hnl := sum_nonneg (l := lowerE d (joinE f.ents g.ents)) (lower_ok (by omega) jok).range
    have hdn : d * (k + 1) ≤ d * numGe d (joinE f.ents g.ents) := Int.mul_le_mul_of_nonneg_left (by omega) (by omega)
    have hdk : d * (k + 1) = (k + 1) * d := Int.mul_comm _ _
    have hd1 : (k + 1) * (f.lost + g.lost + d) = (k + 1) * (f.lost + g.lost) + (k + 1) * d := Int.mul_add _ _ _
    have hL : sumT (f.lost + g.lost) d = (f.lost + g.lost + d, false) := by
      refine sumT_exact (by omega) (by omega) ?_
      have := Int.mul_le_mul_of_nonneg_right (show (1 : Int) ≤ k + 1 by omega) (show (0 : Int) ≤ f.lost + g.lost + d by omega)
      omega
    simp only [hL]
    refine ⟨⟨mk _ rfl (by simp only; omega) (by simp only; omega) (by simp only; omega) ?_ (by simp only; omega) (lower_ok (by omega) jok), hk, rfl, rfl, by simp only; omega, by simp only; omega, by simp only; omega⟩, trivial⟩
    have := Int.mul_le_mul_of_nonneg_right (show (1 : Int) ≤ k + 1 by omega) (show (0 : Int) ≤ f.lost + g.lost + d by omega)
    simp only; omega
  · rw [if_neg hlong]
    exact ⟨⟨mk _ rfl (by simp only; omega) (by simp only; omega) (by simp only; omega) (by simp only; omega) (by simp only; omega) jok, hk, rfl, rfl, by simp only; omega, by simp only; omega, by simp only; omega⟩, rfl⟩
end Go.Proofs.Ytpopgpjojbngcaa
