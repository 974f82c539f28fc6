/- FrequentMerges: the merge of the program is that of the reference, for any two summaries that the law builds; ahead of it: that both merges are one (plain lemmas). -/
import Derived.Test.YtpopgpjojbngcaaFrM
import Derived.Test.YtpopgpjojbngcaaFrR
set_option linter.unusedSimpArgs false
set_option linter.unusedVariables false
namespace Go.Proofs.Ytpopgpjojbngcaa
open Go.RowKit Go.Avm Go.ChangeShapes Go.WideShapes Go.ChangeAt
def addE (y : En) : List En → List En
  | [] => [y]
  | x :: c => if Op.bytesLess x.key.toList y.key.toList = true then x :: addE y c else if Op.bytesLess y.key.toList x.key.toList = true then y :: x :: c else ⟨x.key, (sumT x.count y.count).1, x.err⟩ :: c
def addS (y : En) : List En → Bool
  | [] => false
  | x :: c => if Op.bytesLess x.key.toList y.key.toList = true then addS y c else if Op.bytesLess y.key.toList x.key.toList = true then false else (sumT x.count y.count).2
theorem find_shift {k : ByteArray} : ∀ (l : List En) (n : Nat), findE k l (n + 1) = if findE k l n < 0 then -1 else findE k l n + 1
  | [], n => rfl
  | x :: l, n => by
    unfold findE
    split
    · rw [if_neg (by omega)]; omega
    · exact find_shift l (n + 1)
theorem step_add {y : En} : ∀ {c : List En}, OkE c → stepR c y = addE y c ∧ flagR c y = addS y c
  | [], _ => by simp [stepR, flagR, addE, addS, findE, byKeyE]
  | x :: c, ok => by
    obtain ⟨ok', hab⟩ := ok.tail
    obtain ⟨i1, i2⟩ := step_add (y := y) ok'
    by_cases h1 : Op.bytesLess x.key.toList y.key.toList = true
    · have hne := bl_ne h1
      have hna := bl_asymm h1
      have hf : findE y.key (x :: c) 0 = if findE y.key c 0 < 0 then -1 else findE y.key c 0 + 1 := by
        rw [findE, if_neg hne, find_shift]
      simp only [addE, addS, if_pos h1]
      by_cases h0 : 0 ≤ findE y.key c 0
      · obtain ⟨j, p, hj, hp, hk⟩ := find_some 0 h0
        rw [Nat.zero_add] at hj
        rw [hj, if_neg (by omega)] at hf
        have e1 : ((j : Int) + 1).toNat = j + 1 := by omega
        simp only [stepR, flagR, hj] at i1 i2
        rw [if_pos (by omega)] at i1 i2
        simp only [entE, Int.toNat_natCast, hp, Option.getD_some] at i1 i2
        simp only [stepR, flagR, hf]
        rw [if_pos (by omega), if_pos (by omega)]
        simp only [entE, e1, List.getElem?_cons_succ, hp, Option.getD_some, List.set_cons_succ]
        exact ⟨by rw [i1], i2⟩
      · rw [if_pos (by omega)] at hf
        simp only [stepR, flagR] at i1 i2
        rw [if_neg h0] at i1 i2
        simp only [stepR, flagR, hf]
        rw [if_neg (by omega), if_neg (by omega), byKeyE, if_neg (by simp [hna]), i1]
        exact ⟨rfl, i2⟩
    · have h1' : Op.bytesLess x.key.toList y.key.toList = false := by simpa using h1
      by_cases h2 : Op.bytesLess y.key.toList x.key.toList = true
      · have hf : findE y.key (x :: c) 0 = -1 := find_above 0 fun z hz => by
          rcases List.mem_cons.1 hz with rfl | hz
          · exact h2
          · exact bl_trans h2 (hab z hz)
        simp only [addE, addS, if_neg h1, if_pos h2, stepR, flagR, hf]
        rw [if_neg (by omega), if_neg (by omega), byKeyE, if_pos h2]
        exact ⟨rfl, rfl⟩
      · have he : x.key.toList = y.key.toList := by
          rcases bl_total x.key.toList y.key.toList with h | h | h
          · exact absurd h h1
          · exact h
          · exact absurd h h2
        have hf : findE y.key (x :: c) 0 = (0 : Nat) := by rw [findE, if_pos he]
        simp only [addE, addS, if_neg h1, if_neg h2, stepR, flagR, hf]
        rw [if_pos (by omega), if_pos (by omega)]
        simp [entE]
theorem add_key {y : En} : ∀ {c : List En} {z : En}, z ∈ addE y c → z.key.toList = y.key.toList ∨ ∃ x ∈ c, z.key = x.key
  | [], z, h => by simp [addE] at h; subst h; exact .inl rfl
  | x :: c, z, h => by
    unfold addE at h
    split at h
    · rcases List.mem_cons.1 h with rfl | h
      · exact .inr ⟨z, by simp, rfl⟩
      · rcases add_key h with h | ⟨x', hx, e⟩
        · exact .inl h
        · exact .inr ⟨x', List.mem_cons_of_mem _ hx, e⟩
    · split at h
      · rcases List.mem_cons.1 h with rfl | h
        · exact .inl rfl
        · exact .inr ⟨z, h, rfl⟩
      · rcases List.mem_cons.1 h with rfl | h
        · exact .inr ⟨x, by simp, rfl⟩
        · exact .inr ⟨z, List.mem_cons_of_mem _ h, rfl⟩
theorem add_ok {y : En} (hy : keyOk y.key = true ∧ 1 ≤ y.count ∧ y.count ≤ 1099511627776 ∧ y.err = 0) : ∀ {c : List En}, OkE c → OkE (addE y c)
  | [], _ => ⟨by intro z hz; simp [addE] at hz; subst hz; exact hy, by simp [addE]⟩
  | x :: c, ok => by
    obtain ⟨ok', hab⟩ := ok.tail
    have i := add_ok hy ok'
    have hx := ok.range x (by simp)
    unfold addE
    split
    · rename_i h1
      refine ⟨fun z hz => ?_, List.Pairwise.cons (fun z hz => ?_) i.asc⟩
      · rcases List.mem_cons.1 hz with rfl | hz
        · exact hx
        · exact i.range z hz
      · rcases add_key hz with h | ⟨x', hx', e⟩
        · rw [h]; exact h1
        · rw [e]; exact hab x' hx'
    · rename_i h1
      split
      · rename_i h2
        refine ⟨fun z hz => ?_, List.Pairwise.cons (fun z hz => ?_) ok.asc⟩
        · rcases List.mem_cons.1 hz with rfl | hz
          · exact hy
          · exact ok.range z hz
        · rcases List.mem_cons.1 hz with rfl | hz
          · exact h2
          · exact bl_trans h2 (hab z hz)
      · refine ⟨fun z hz => ?_, List.Pairwise.cons (fun z hz => hab z hz) ok'.asc⟩
        rcases List.mem_cons.1 hz with rfl | hz
        · exact ⟨hx.1, sumT_pos hx.2.1, (sumT_range _ _).2, hx.2.2.2⟩
        · exact ok'.range z hz
theorem join_add {y : En} {b : List En} (hb : ∀ z ∈ b, Op.bytesLess y.key.toList z.key.toList = true) : ∀ {c : List En}, OkE c → joinE (addE y c) b = joinE c (y :: b) ∧ (addS y c || joinS (addE y c) b) = joinS c (y :: b)
  | [], _ => by
    cases b with
    | nil => simp [addE, addS, joinE, joinS]
    | cons z b =>
      have h := hb z (by simp)
      simp [addE, addS, joinE, joinS, h]
  | x :: c, ok => by
    obtain ⟨ok', hab⟩ := ok.tail
    obtain ⟨i1, i2⟩ := join_add hb ok'
    have hx := ok.range x (by simp)
    by_cases h1 : Op.bytesLess x.key.toList y.key.toList = true
    · simp only [addE, addS, if_pos h1]
      cases b with
      | nil =>
        rw [joinE_nil] at i1 ⊢
        rw [joinS_nil] at i2 ⊢
        rw [joinE, if_pos h1, joinS, if_pos h1, i1]
        exact ⟨rfl, i2⟩
      | cons z b =>
        have h := bl_trans h1 (hb z (by simp))
        have e1 : joinE (x :: addE y c) (z :: b) = x :: joinE (addE y c) (z :: b) := by rw [joinE, if_pos h]
        have e2 : joinS (x :: addE y c) (z :: b) = joinS (addE y c) (z :: b) := by rw [joinS, if_pos h]
        have e3 : joinE (x :: c) (y :: z :: b) = x :: joinE c (y :: z :: b) := by rw [joinE, if_pos h1]
        have e4 : joinS (x :: c) (y :: z :: b) = joinS c (y :: z :: b) := by rw [joinS, if_pos h1]
        rw [e1, e2, e3, e4, i1, i2]
        exact ⟨rfl, rfl⟩
    · have h1' : Op.bytesLess x.key.toList y.key.toList = false := by simpa using h1
      by_cases h2 : Op.bytesLess y.key.toList x.key.toList = true
      · simp only [addE, addS, if_neg h1, if_pos h2]
        cases b with
        | nil =>
          rw [joinE_nil, joinS_nil, joinE, if_neg h1, if_pos h2, joinE_nil, joinS, if_neg h1, if_pos h2, joinS_nil]
          exact ⟨rfl, rfl⟩
        | cons z b =>
          have h := hb z (by simp)
          have e1 : joinE (y :: x :: c) (z :: b) = y :: joinE (x :: c) (z :: b) := by rw [joinE, if_pos h]
          have e2 : joinS (y :: x :: c) (z :: b) = joinS (x :: c) (z :: b) := by rw [joinS, if_pos h]
          have e3 : joinE (x :: c) (y :: z :: b) = y :: joinE (x :: c) (z :: b) := by rw [joinE, if_neg h1, if_pos h2]
          have e4 : joinS (x :: c) (y :: z :: b) = joinS (x :: c) (z :: b) := by rw [joinS, if_neg h1, if_pos h2]
          rw [e1, e2, e3, e4]
          exact ⟨rfl, by simp⟩
      · have he : x.key.toList = y.key.toList := by
          rcases bl_total x.key.toList y.key.toList with h | h | h
          · exact absurd h h1
          · exact h
          · exact absurd h h2
        simp only [addE, addS, if_neg h1, if_neg h2]
        cases b with
        | nil =>
          rw [joinE_nil, joinS_nil, joinE, if_neg h1, if_neg h2, joinE_nil, joinS, if_neg h1, if_neg h2, joinS_nil]
          exact ⟨by rw [hx.2.2.2], rfl⟩
        | cons z b =>
          have h : Op.bytesLess x.key.toList z.key.toList = true := by rw [he]; exact hb z (by simp)
          have e1 : joinE (⟨x.key, (sumT x.count y.count).1, x.err⟩ :: c) (z :: b) = ⟨x.key, (sumT x.count y.count).1, x.err⟩ :: joinE c (z :: b) := by rw [joinE, if_pos h]
          have e2 : joinS (⟨x.key, (sumT x.count y.count).1, x.err⟩ :: c) (z :: b) = joinS c (z :: b) := by rw [joinS, if_pos h]
          have e3 : joinE (x :: c) (y :: z :: b) = ⟨x.key, (sumT x.count y.count).1, 0⟩ :: joinE c (z :: b) := by rw [joinE, if_neg h1, if_neg h2]
          have e4 : joinS (x :: c) (y :: z :: b) = ((sumT x.count y.count).2 || joinS c (z :: b)) := by rw [joinS, if_neg h1, if_neg h2]
          rw [e1, e2, e3, e4, hx.2.2.2]
          exact ⟨rfl, rfl⟩
theorem fold_join : ∀ {b c : List En}, OkE b → OkE c → foldR c b = joinE c b ∧ foldS c b = joinS c b
  | [], c, _, _ => by simp [foldR, foldS, joinE_nil, joinS_nil]
  | y :: b, c, ob, oc => by
    obtain ⟨ob', hb⟩ := ob.tail
    obtain ⟨s1, s2⟩ := step_add (y := y) oc
    have ok := add_ok (ob.range y (by simp)) oc
    obtain ⟨i1, i2⟩ := fold_join ob' ok
    obtain ⟨j1, j2⟩ := join_add hb oc
    simp only [foldR, foldS]
    rw [s1, s2, i1, i2, j1, j2]
    exact ⟨rfl, rfl⟩
theorem bub_sorted : ∀ (n : Nat) (A B : List En) (x : En), A.length = n → (A ++ B).Pairwise (fun a b => b.count ≤ a.count) → (∀ b ∈ B, b.count ≤ x.count) → (bubE (A ++ x :: B) n).Pairwise (fun a b => b.count ≤ a.count)
  | 0, A, B, x, hA, hs, hB => by
    obtain rfl := List.eq_nil_of_length_eq_zero hA
    exact List.Pairwise.cons hB (by simpa using hs)
  | n + 1, A, B, x, hA, hs, hB => by
    rcases List.eq_nil_or_concat A with rfl | ⟨A', y, rfl⟩
    · simp at hA
    · rw [List.concat_eq_append] at hA hs ⊢
      have hn : A'.length = n := by simpa using hA
      have hx : (A' ++ [y] ++ x :: B)[n + 1]? = some x := by rw [List.getElem?_append_right (by simp; omega)]; simp [hn]
      have hy : (A' ++ [y] ++ x :: B)[n]? = some y := by rw [List.append_assoc, List.getElem?_append_right (by omega)]; simp [hn]
      cases hb : befE x y with
      | true =>
        have e : ((A' ++ [y] ++ x :: B).set (n + 1) y).set n x = A' ++ x :: (y :: B) := by
          subst hn
          simp [List.set_append]
        rw [bub_yes hx hy hb, e]
        refine bub_sorted n A' (y :: B) x hn (by simpa using hs) fun b hb' => ?_
        rcases List.mem_cons.1 hb' with rfl | hb'
        · simp only [befE, Bool.or_eq_true, decide_eq_true_eq, Bool.and_eq_true] at hb
          omega
        · exact hB b hb'
      | false =>
        rw [bub_no hx hy hb]
        have hyx : x.count ≤ y.count := by
          simp only [befE, Bool.or_eq_false_iff, decide_eq_false_iff_not] at hb
          omega
        rw [List.pairwise_append] at hs
        obtain ⟨h1, h2, h3⟩ := hs
        rw [List.pairwise_append]
        refine ⟨h1, List.Pairwise.cons hB h2, fun a ha b hb' => ?_⟩
        rw [List.pairwise_append] at h1
        have hay : y.count ≤ a.count := by
          rcases List.mem_append.1 ha with ha | ha
          · exact h1.2.2 a ha y (by simp)
          · simp at ha; subst ha; exact Int.le_refl _
        rcases List.mem_cons.1 hb' with rfl | hb'
        · omega
        · exact h3 a ha b hb'
theorem sortE_sorted : ∀ (r out : List En), out.Pairwise (fun a b => b.count ≤ a.count) → (sortE out r).Pairwise (fun a b => b.count ≤ a.count)
  | [], out, h => by simpa [sortE] using h
  | x :: r, out, h => by
    simp only [sortE]
    exact sortE_sorted r _ (bub_sorted out.length out [] x rfl (by simpa using h) (by simp))
theorem dR_dP {l : List En} {s : Int} (h0 : 0 ≤ s) (hs : s < (l.length : Int)) : dR l s = dP l s := by
  have hlen : (sortE [] l).length = l.length := by rw [sortE_len]; simp
  have e : sortI (l.map En.count) = ((sortE [] l).map En.count).reverse := by
    refine List.Perm.eq_of_pairwise (le := fun a b => a ≤ b) (fun a b _ _ h1 h2 => Int.le_antisymm h1 h2) ?_ ?_ ?_
    · have := List.pairwise_mergeSort (le := fun x y : Int => decide (x ≤ y)) (fun a b c h1 h2 => by simp only [decide_eq_true_eq] at *; omega) (fun a b => by simp only [Bool.or_eq_true, decide_eq_true_eq]; omega) (l.map En.count)
      simpa only [sortI, decide_eq_true_eq] using this
    · rw [List.pairwise_reverse, List.pairwise_map]
      exact sortE_sorted l [] List.Pairwise.nil
    · refine (List.mergeSort_perm _ _).trans (List.Perm.symm ((List.reverse_perm _).trans ?_))
      have := (sortE_perm l []).map En.count
      simpa using this
  have hi : ((l.length : Int) - 1 - s).toNat < ((sortE [] l).map En.count).length := by rw [List.length_map, hlen]; omega
  have hj : ((sortE [] l).map En.count).length - 1 - ((l.length : Int) - 1 - s).toNat = s.toNat := by rw [List.length_map, hlen]; omega
  simp only [dR, dP, e]
  rw [List.getElem?_reverse hi, hj, List.getElem?_map]
theorem rmrg_calls {s t lo s' t' lo' : Int} {l l' : List En} {sat sat' : Bool} (hl : l.length ≤ 100000) (hl' : l'.length ≤ 100000) (hk : ∀ x ∈ l, x.key.size ≤ 1000000000) (hk' : ∀ x ∈ l', x.key.size ≤ 1000000000) : ACalls Try.prog 29 [dF ⟨s, t, lo, l, sat⟩, dF ⟨s', t', lo', l', sat'⟩] (.tup [dF (mrgF ⟨s, t, lo, l, sat⟩ ⟨s', t', lo', l', sat'⟩).1, .sc (.int .i64 (mrgF ⟨s, t, lo, l, sat⟩ ⟨s', t', lo', l', sat'⟩).2)]) [] := by
  by_cases hz : validF ⟨s, t, lo, l, sat⟩ = 0
  · by_cases hz' : validF ⟨s', t', lo', l', sat'⟩ = 0
    · by_cases hs : s = s'
      · subst hs
        have ok := validF_ok hz
        have ok' := validF_ok hz'
        obtain ⟨j1, j2⟩ := fold_join ok'.1 ok.1
        simp only at j1 j2
        have q1 := ok.2.2.1; have q2 := ok.2.2.2.2.2.2.2; have q3 := ok'.2.2.1; have q4 := ok'.2.2.2.2.2.2.2
        simp only at q1 q2 q3 q4
        have h := rmrg_main (by omega) (by omega) hk hk' hz hz' j1 (by rw [j2])
        by_cases hL : s < ((joinE l l').length : Int)
        · have e : mrgF ⟨s, t, lo, l, sat⟩ ⟨s, t', lo', l', sat'⟩ = (⟨s, (sumT t t').1, (sumT (sumT lo lo').1 (dP (joinE l l') s)).1, lowerE (dP (joinE l l') s) (joinE l l'), ((((sat || sat') || (sumT t t').2) || (sumT lo lo').2) || joinS l l') || (sumT (sumT lo lo').1 (dP (joinE l l') s)).2⟩, 0) := by
            unfold mrgF
            rw [if_neg (by simp [hz]), if_neg (by simp [hz']), if_neg (by simp), if_pos hL]
            rfl
          rw [if_pos hL, dR_dP (by have := ok.2.1; simp only at this; omega) hL] at h
          rw [e]
          exact h
        · have e : mrgF ⟨s, t, lo, l, sat⟩ ⟨s, t', lo', l', sat'⟩ = (⟨s, (sumT t t').1, (sumT lo lo').1, joinE l l', (((sat || sat') || (sumT t t').2) || (sumT lo lo').2) || joinS l l'⟩, 0) := by
            unfold mrgF
            rw [if_neg (by simp [hz]), if_neg (by simp [hz']), if_neg (by simp), if_neg hL]
            rfl
          rw [if_neg hL] at h
          rw [e]
          exact h
      · have e : mrgF ⟨s, t, lo, l, sat⟩ ⟨s', t', lo', l', sat'⟩ = (zeroF, 10) := by
          unfold mrgF
          rw [if_neg (by simp [hz]), if_neg (by simp [hz']), if_pos hs]
        rw [e]
        exact rmrg_kind hl hl' hk hk' hz hz' hs
    · have e : mrgF ⟨s, t, lo, l, sat⟩ ⟨s', t', lo', l', sat'⟩ = (zeroF, validF ⟨s', t', lo', l', sat'⟩) := by
        unfold mrgF
        rw [if_neg (by simp [hz]), if_pos hz']
      rw [e]
      exact rmrg_bad2 hl hl' hk hk' hz rfl hz'
  · have e : mrgF ⟨s, t, lo, l, sat⟩ ⟨s', t', lo', l', sat'⟩ = (zeroF, validF ⟨s, t, lo, l, sat⟩) := by
      unfold mrgF
      rw [if_pos hz]
    rw [e]
    exact rmrg_bad hl hl' hk hk' rfl hz
theorem mrg_len {f g : Fq} : (mrgF f g).1.ents.length ≤ 100000 := by
  unfold mrgF
  split
  · simp [zeroF]
  · rename_i h1
    split
    · simp [zeroF]
    · rename_i h2
      split
      · simp [zeroF]
      · have q1 := validF_ok (f := f) (by omega)
        have q2 := validF_ok (f := g) (by omega)
        have h := join_len f.ents g.ents
        have h3 := lower_len (dP (joinE f.ents g.ents) f.size) (joinE f.ents g.ents)
        split <;> simp only <;> omega
set_option maxRecDepth 100000 in set_option maxHeartbeats 6400000 in
theorem frequentMerges_calls {size : Int} {l m : List Int} {n : Int} : ACalls Try.prog 5 [.sc (.int .i64 size), .sl 1 (l.map rowJ), .sl 1 (m.map rowJ), .sc (.int .i64 n)] (.sc (.bool true)) [] := by
  refine of_tri [] [9, 10, 11, 13, 17, 19, 27, 30, 34, 40, 49, 52] Try.func5 rfl call5 rfl (by decide) (by decide) rfl rfl Try.ntmps5 (by simp (disch := omega) only [seval, go_sem, cnd, intV, shV, convV, strV, List.replicate, List.zip_nil_left, List.zip_cons_cons]; rfl) (by simp (disch := omega) only [seval, go_sem, cnd, intV, shV, convV, strV, List.zip_nil_left, List.zip_cons_cons]; rfl) ?_
  ((repeat' (first | (with_reducible (first | refine Tri.seq ?_ | refine Tri.block ?_ | refine Tri.skip ?_ | refine Tri.exit ?_ | refine Tri.ret ?_ | refine TriD.nilP ?_ | refine TriD.nil ?_ | refine ListD.nil ?_ | refine thenQ_n ?_ | refine thenQ_r ?_ | refine thenQ_e ?_ | refine inBlockQ_n ?_ | refine inBlockQ_r ?_ | refine inBlockQ_e ?_ | refine inBlockQ_o (by decide) ?_ | refine loopQ_n ?_ | refine loopQ_r ?_ | refine loopQ_e ?_ | refine Tri.regionD (by simp only [List.map_cons, List.map_nil]; rfl) ?_)) | ((with_reducible refine isTriD ?_); first | (with_reducible refine TriD.step (by simp only [seval, go_sem, dF, beq_self_eq_true]; rfl) ?_) | ((with_reducible refine isCallD ?_); first | ((with_reducible (first | refine TriD.dE (by simp only [seval, go_sem, dF, beq_self_eq_true]; rfl) (by simp only [seval, go_sem, dF, beq_self_eq_true]; first | done | rfl) ?_ | refine TriD.dS (by simp only [seval, go_sem, dF, beq_self_eq_true]; rfl) (by simp only [seval, go_sem, dF, beq_self_eq_true]; first | done | rfl) ?_)); first | refine CallK.c [] (mrgf_calls ?_ ?_ ?_ ?_) (by simp only [seval, go_sem, dF, beq_self_eq_true]; rfl) ?_ | refine CallK.c [] (rmrg_calls ?_ ?_ ?_ ?_) (by simp only [seval, go_sem, dF, beq_self_eq_true]; rfl) ?_ | refine CallK.c [] (samef_calls ?_) (by simp only [seval, go_sem, dF, beq_self_eq_true]; rfl) ?_ | refine CallK.c [] (known10_calls) (by simp only [seval, go_sem, dF, beq_self_eq_true]; rfl) ?_) | (with_reducible (first | (with_unfolding_all refine TriD.callX (dst := _) true [] [] (by simp only [seval, go_sem, dF, beq_self_eq_true]) rfl (madef_x) ⟨by simp only [seval, go_sem, dF, beq_self_eq_true]; first | done | rfl, rfl⟩ (by decide) (fun _ => rfl) rfl rfl (fun _ => by first | rfl | (simp only [seval, go_sem, dF, beq_self_eq_true]; first | done | fail)) (fun _ => by first | rfl | (simp only [seval, go_sem, dF, beq_self_eq_true]; first | done | fail)) (fun t ht => ?_); (try dsimp only at ht)) | (with_unfolding_all refine TriD.callX (dst := _) false [] [] (by simp only [seval, go_sem, dF, beq_self_eq_true]) rfl (madef_x) ⟨by simp only [seval, go_sem, dF, beq_self_eq_true]; first | done | rfl, rfl, (fun _ _ => flat_of (by first | rfl | (simp only [seval, go_sem, dF, beq_self_eq_true]; first | done | fail)) (by first | rfl | (simp only [seval, go_sem, dF, beq_self_eq_true]; first | done | fail)))⟩ (by decide) (fun _ => rfl) rfl rfl (fun _ => by first | rfl | (simp only [seval, go_sem, dF, beq_self_eq_true]; first | done | fail)) (fun _ => by first | rfl | (simp only [seval, go_sem, dF, beq_self_eq_true]; first | done | fail)) (fun t ht => ?_); (try dsimp only at ht)) | (with_unfolding_all refine TriD.callX (dst := _) true [] [] (by simp only [seval, go_sem, dF, beq_self_eq_true]) rfl (spoilf_x ?_ ?_) ⟨by simp only [seval, go_sem, dF, beq_self_eq_true]; first | done | rfl, rfl⟩ (by decide) (fun _ => rfl) rfl rfl (fun _ => by first | rfl | (simp only [seval, go_sem, dF, beq_self_eq_true]; first | done | fail)) (fun _ => by first | rfl | (simp only [seval, go_sem, dF, beq_self_eq_true]; first | done | fail)) (fun t ht => ?_); (try dsimp only at ht)) | (with_unfolding_all refine TriD.callX (dst := _) false [] [] (by simp only [seval, go_sem, dF, beq_self_eq_true]) rfl (spoilf_x ?_ ?_) ⟨by simp only [seval, go_sem, dF, beq_self_eq_true]; first | done | rfl, rfl, (fun _ _ => flat_of (by first | rfl | (simp only [seval, go_sem, dF, beq_self_eq_true]; first | done | fail)) (by first | rfl | (simp only [seval, go_sem, dF, beq_self_eq_true]; first | done | fail)))⟩ (by decide) (fun _ => rfl) rfl rfl (fun _ => by first | rfl | (simp only [seval, go_sem, dF, beq_self_eq_true]; first | done | fail)) (fun _ => by first | rfl | (simp only [seval, go_sem, dF, beq_self_eq_true]; first | done | fail)) (fun t ht => ?_); (try dsimp only at ht))))) | (with_reducible refine TriD.step (by simp (disch := omega) only [seval, go_sem, cnd, intV, shV, convV, strV, dF, beq_self_eq_true]; rfl) ?_) | (with_reducible (first | refine isAnd2 50 ?_ | refine isAnd2 53 ?_); with_reducible refine TriD.and2 (by simp only [seval, go_sem, dF, beq_self_eq_true]; first | done | rfl) (by simp only [seval, go_sem, dF, beq_self_eq_true]; first | done | rfl) (by decide) (by simp only [seval, go_sem, dF, beq_self_eq_true, List.length_cons, List.length_nil]) (by simp only [seval, go_sem, dF, beq_self_eq_true]) (by first | (simp only [seval, go_sem, dF, beq_self_eq_true]; rfl) | (simp (disch := omega) only [seval, go_sem, cnd, intV, shV, convV, strV, dF, beq_self_eq_true]; rfl)) (by simp only [seval, go_sem, dF, beq_self_eq_true]; rfl) ?_) | (with_reducible refine TriD.byGuard (by simp only [seval, go_sem, dF, beq_self_eq_true]; rfl) (by simp only [seval, go_sem, dF, beq_self_eq_true]; rfl) (by (fail_if_success (with_reducible exact nlT)); (fail_if_success (with_reducible exact nlF)); exact nlI) (cvI ?_) (cvI ?_))) | ((with_reducible refine isListD ?_); first | (with_reducible refine ListD.step (by simp only [seval, go_sem, dF, beq_self_eq_true]; rfl) ?_) | (with_reducible refine ListD.step (by simp (disch := omega) only [seval, go_sem, cnd, intV, shV, convV, strV, dF, beq_self_eq_true]; rfl) ?_) | (with_reducible refine ListD.byGuard (by simp only [seval, go_sem, dF, beq_self_eq_true]; rfl) (by simp only [seval, go_sem, dF, beq_self_eq_true]; rfl) (by (fail_if_success (with_reducible exact nlT)); (fail_if_success (with_reducible exact nlF)); exact nlI) (cvI ?_) (cvI ?_))) | (with_reducible refine isCond ?_; with_reducible refine Tri.cond (by simp only [seval, go_sem, dF, beq_self_eq_true]; rfl) (cvI ?_) (cvI ?_)) | (with_reducible refine isCv ?_; intro hc; (try simp only [bls, reduceCtorEq] at hc); (try (exfalso; omega))) | (with_reducible refine isDrawn ?_; refine Tri.drawnD mix (by kernel_rfl) (by simp only [List.map_cons, List.map_nil]; rfl) ?_) | (with_reducible refine isRet ?_; refine RetOK.q rfl rfl (by simp only [seval, go_sem]; rfl) (by decide) (by simp only [seval, go_sem]; first | done | rfl) (by simp only [seval, go_sem]; first | done | rfl) rfl ?_ <;> (try simp only [seval, go_sem]) <;> (repeat' (with_reducible apply And.intro)) <;> (try rfl)))) <;> (try (first | (with_reducible assumption) | ((with_reducible show (_ : Int) ≤ _); omega) | ((with_reducible show (_ : Nat) ≤ _); omega))))
  all_goals first
    | exact mrg_len
    | exact (made_small ‹validF _ = 0 ∧ _›).1
    | exact (made_small ‹validF _ = 0 ∧ _›).2
    | exact (‹Small _›).len
    | exact (‹Small _›).keys
    | omega
    | decide
    | (simp; done)
theorem frequentMerges_own : ownKnob Try.prog.godebug = none := by kernel_rfl
theorem frequentMerges_laid : laidOutB Try.prog = true := by kernel_rfl
set_option maxRecDepth 100000 in
theorem frequentMerges_lifted (os : Os) (started : os.Started) (H : Type) (enc : TypeId × Value → H) :
    ReturnsInHanded {} Try.checked os 5 .any (Rows.frequentMergesSpec.pre6 enc Try.prog Try.f5 Rows.frequentMergesRow.domain false) (Rows.frequentMergesSpec.post enc Try.prog Try.f5 false true false false) := by
  refine returnsInHanded_of_change (C := Try.checked) frequentMerges_own started (by kernel_rfl) Try.func5
    (ChangeSpec.witness6 (enc := enc) (C := Try.checked) false ⟨#[], #[.int .i64 0, .slice none 0 0, .slice none 0 0, .int .i64 0], []⟩ 8 (by kernel_rfl) (by kernel_rfl) (by kernel_rfl) (by kernel_rfl)) ?_
  intro W base args ds gs before hval0 hW hcnd _
  have hval : ∀ (j : Nat) t v, Try.f5.params[j]? = some t → args[j]? = some v → Value.okWide Try.prog W .any base t v := hval0
  have hW' := hW
  obtain ⟨p, q, hA0, hV, rfl, hfz, hnd⟩ := hW
  have hA : DataW.TrodAll enc Try.prog W 0 (fun _ => true) true Try.f5.params.toList args.toList ds p := hA0
  rw [Try.params5] at hA hval
  obtain ⟨v0, vs0, d0, ds0, p0, q0, hargs, rfl, rfl, h0, r0⟩ := trodAll_cons hA
  obtain ⟨v1, vs1, d1, ds1, p1, q1, rfl, rfl, rfl, h1, r1⟩ := trodAll_cons r0
  obtain ⟨v2, vs2, d2, ds2, p2, q2, rfl, rfl, rfl, h2, r2⟩ := trodAll_cons r1
  obtain ⟨v3, vs3, d3, ds3, p3, q3, rfl, rfl, rfl, h3, r3⟩ := trodAll_cons r2
  obtain ⟨rfl, rfl, rfl⟩ := trodAll_nil r3
  obtain rfl : args = #[v0, v1, v2, v3] := by cases args; simp_all
  obtain ⟨a0, x0, w0⟩ := arg_int Try.underlying3 (hval 0 3 v0 rfl rfl) h0
  obtain ⟨a1, x1, w1, l1⟩ := arg_ints Try.underlying22 Try.underlying3 (by kernel_rfl) (hval 1 22 v1 rfl rfl) h1
  obtain ⟨a2, x2, w2, l2⟩ := arg_ints Try.underlying22 Try.underlying3 (by kernel_rfl) (hval 2 22 v2 rfl rfl) h2
  obtain ⟨a3, x3, w3⟩ := arg_int Try.underlying3 (hval 3 3 v3 rfl rfl) h3
  exact law_step (xs := [.sc (.int .i64 a0), .sl 1 (a1.map fun z => [.sc (.int .i64 z)]), .sl 1 (a2.map fun z => [.sc (.int .i64 z)]), .sc (.int .i64 a3)]) hW' rfl frequentMerges_laid (by kernel_rfl) (fun gs' h => by subst h; rfl) rfl Try.underlying4 (by simp only [RL]; exact ⟨_, _, rfl, x0, ⟨_, _, rfl, x1, ⟨_, _, rfl, x2, ⟨_, _, rfl, x3, rfl⟩⟩⟩⟩) (frequentMerges_calls)
theorem frequentMerges_over : Rows.frequentMergesRow.holds Try.pinned (OpenSpec.ofChange Rows.frequentMergesSpec) :=
  OpenClaim.holds_of_wide 5 Try.f5 rfl rfl rfl rfl rfl rfl rfl ⟨rfl, rfl, rfl, rfl, rfl⟩ rfl rfl rfl rfl rfl (by kernel_rfl) Try.func5 (by kernel_rfl)
    (of_decide_eq_true (by kernel_rfl)) (by unfold Func.isWrapper; first | (rw [if_pos (by decide +kernel)]; kernel_rfl) | (rw [if_neg (by decide +kernel)]; exact ⟨rfl, rfl⟩))
    (fun os started H enc _ => frequentMerges_lifted os started H enc)
theorem frequentMerges_holds : Rows.FrequentMergesSaid := frequentMerges_over

end Go.Proofs.Ytpopgpjojbngcaa
