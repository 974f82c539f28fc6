/- Topk: valid lists of entries, told at once; what the sort and an insertion keep (plain laws). -/
import Derived.Test.YtnckgbmifigadaaZTkP
set_option linter.unusedSimpArgs false
set_option linter.unusedVariables false
namespace Go.Proofs.Ytnckgbmifigadaa
open Go.RowKit Go.Avm
theorem key_injT {a b : ByteArray} (h : a.toList = b.toList) : a = b := by
  rw [Go.ByteArray.toList_eq, Go.ByteArray.toList_eq] at h
  exact ByteArray.ext (Array.toList_inj.1 h)
theorem keyOk_ofT {k : ByteArray} (h : 1 ≤ k.size ∧ k.size ≤ 32) : keyOk k = true := by
  simp only [keyOk, Bool.and_eq_true, decide_eq_true_eq]; omega
theorem keyOk_sizeT {k : ByteArray} (h : keyOk k = true) : 1 ≤ k.size ∧ k.size ≤ 32 := by
  simp only [keyOk, Bool.and_eq_true, decide_eq_true_eq] at h; omega
theorem itemE_ofT {k : ByteArray} {w : Int} (h : (1 ≤ k.size ∧ k.size ≤ 32) ∧ 1 ≤ w ∧ w ≤ 4294967295) : itemE k w = 0 := by
  unfold itemE
  rw [if_neg (by rw [keyOk_ofT h.1]; simp), if_neg (by omega)]
theorem itemE_okT {k : ByteArray} {w : Int} (h : itemE k w = 0) : 1 ≤ w ∧ w ≤ 4294967295 ∧ keyOk k = true := by
  unfold itemE at h
  split at h
  · omega
  · rename_i h1
    split at h
    · omega
    · exact ⟨by omega, by omega, by simpa using h1⟩
theorem sumT_rngT (a b : Int) : 0 ≤ (sumT a b).1 ∧ (sumT a b).1 ≤ 1099511627776 := by
  simp only [sumT, addSat]
  split <;> simp only <;> omega
theorem sumT_geT {a b : Int} (h0 : 0 ≤ a) (h1 : a ≤ 1099511627776) : a ≤ (sumT a b).1 := by
  simp only [sumT, addSat]
  split <;> simp only <;> omega
theorem sumT_gtT {a b : Int} (hb : 1 ≤ b) : 1 ≤ (sumT a b).1 := by
  simp only [sumT, addSat]
  split <;> simp only <;> omega
theorem bef_trans {x y z : En} (h1 : befE x y = true) (h2 : befE y z = true) : befE x z = true := by
  simp only [befE, Bool.or_eq_true, Bool.and_eq_true, decide_eq_true_eq] at h1 h2 ⊢
  rcases h1 with h1 | ⟨h1, h1'⟩
  · rcases h2 with h2 | ⟨h2, h2'⟩
    · left; omega
    · left; omega
  · rcases h2 with h2 | ⟨h2, h2'⟩
    · left; omega
    · exact .inr ⟨by omega, bl_trans h1' h2'⟩
theorem bef_total {x y : En} (hk : x.key.toList ≠ y.key.toList) (h : befE x y = false) : befE y x = true := by
  simp only [befE, Bool.or_eq_false_iff, Bool.and_eq_false_iff, decide_eq_false_iff_not] at h
  simp only [befE, Bool.or_eq_true, Bool.and_eq_true, decide_eq_true_eq]
  obtain ⟨h1, h2⟩ := h
  rcases Int.lt_trichotomy x.count y.count with h | h | h
  · exact .inl h
  · rcases h2 with h2 | h2
    · exact absurd h h2
    · exact .inr ⟨h.symm, bl_of_not (by simpa using h2) (fun e => hk e.symm)⟩
  · exact absurd h h1
/-- An entry in range. -/
def RtE (x : En) : Prop := keyOk x.key = true ∧ 1 ≤ x.count ∧ x.count ≤ 1099511627776 ∧ 0 ≤ x.err ∧ x.err < x.count
structure OkT (l : List En) : Prop where
  range : ∀ x ∈ l, RtE x
  keys : l.Pairwise (fun a b => a.key.toList ≠ b.key.toList)
  desc : l.Pairwise (fun a b => befE a b = true)
theorem findE_none {k : ByteArray} : ∀ {l : List En} (n : Nat), (∀ y ∈ l, y.key.toList ≠ k.toList) → findE k l n = -1
  | [], _, _ => rfl
  | x :: l, n, h => by
    unfold findE
    rw [if_neg (h x (List.mem_cons_self ..))]
    exact findE_none (n + 1) fun y hy => h y (List.mem_cons_of_mem _ hy)
theorem findE_neg {k : ByteArray} {l : List En} (h : findE k l 0 < 0) : ∀ y ∈ l, y.key.toList ≠ k.toList := by
  rcases findE_split k l 0 with ⟨_, h2⟩ | ⟨i, x, _, _, h3, _⟩
  · exact h2
  · omega
theorem badT_zero {pre : List En} {x : En} : badT pre x = 0 ↔ RtE x ∧ (∀ y ∈ pre, y.key.toList ≠ x.key.toList) ∧ ∀ p, pre.getLast? = some p → befE p x = true := by
  constructor
  · intro h
    have := badT_ok h
    refine ⟨⟨this.1, this.2.1, this.2.2.1, this.2.2.2.1, this.2.2.2.2.1⟩, findE_neg this.2.2.2.2.2.1, fun p hp => ?_⟩
    have h2 := this.2.2.2.2.2.2
    rw [hp] at h2
    simpa using h2
  · rintro ⟨⟨h1, h2, h3, h4, h5⟩, h6, h7⟩
    unfold badT
    rw [if_neg (by simp [h1]), if_neg (by omega), if_neg (by rw [findE_none 0 h6]; omega)]
    cases hp : pre.getLast? with
    | none => simp
    | some p => simp [h7 p hp]
theorem validT1_iff : ∀ (l pre : List En), OkT pre → (validT1 pre l = 0 ↔ OkT (pre ++ l))
  | [], pre, h => by simp [validT1, h]
  | x :: l, pre, h => by
    rw [validT1]
    have hb := badT_zero (pre := pre) (x := x)
    constructor
    · intro h1
      by_cases h0 : badT pre x = 0
      · rw [if_neg (by simp [h0])] at h1
        obtain ⟨b1, b2, b3⟩ := hb.1 h0
        have hp : OkT (pre ++ [x]) := by
          refine ⟨fun y hy => ?_, ?_, ?_⟩
          · rcases List.mem_append.1 hy with hy | hy
            · exact h.range y hy
            · rw [List.mem_singleton] at hy; subst hy; exact b1
          · rw [List.pairwise_append]
            exact ⟨h.keys, List.pairwise_singleton _ _, fun a ha b hb => by rw [List.mem_singleton] at hb; subst hb; exact b2 a ha⟩
          · rw [List.pairwise_append]
            refine ⟨h.desc, List.pairwise_singleton _ _, fun a ha b hb => ?_⟩
            rw [List.mem_singleton] at hb; subst hb
            rcases List.eq_nil_or_concat pre with rfl | ⟨q, z, rfl⟩
            · cases ha
            · rw [List.concat_eq_append] at b3 ha h
              have hz := b3 z (by simp)
              rcases List.mem_append.1 ha with ha | ha
              · have := h.desc
                rw [List.pairwise_append] at this
                exact bef_trans (this.2.2 a ha z (by simp)) hz
              · rw [List.mem_singleton] at ha; subst ha; exact hz
        have := (validT1_iff l _ hp).1 h1
        rwa [List.append_assoc] at this
      · rw [if_pos h0] at h1; exact absurd h1 h0
    · intro h1
      have hp : OkT (pre ++ [x]) := by
        have e : pre ++ x :: l = (pre ++ [x]) ++ l := by simp
        rw [e] at h1
        exact ⟨fun y hy => h1.range y (List.mem_append.2 (.inl hy)), (List.pairwise_append.1 h1.keys).1, (List.pairwise_append.1 h1.desc).1⟩
      have h0 : badT pre x = 0 := hb.2 ⟨hp.range x (by simp), fun y hy => (List.pairwise_append.1 hp.keys).2.2 y hy x (by simp), fun p hp' => (List.pairwise_append.1 hp.desc).2.2 p (List.mem_of_getLast? hp') x (by simp)⟩
      rw [if_neg (by simp [h0])]
      refine (validT1_iff l _ hp).2 ?_
      rwa [List.append_assoc]
theorem OkT.nil : OkT [] := ⟨by simp, List.Pairwise.nil, List.Pairwise.nil⟩
theorem validT_iff {t : Tk} : validT t = 0 ↔ (1 ≤ t.size ∧ t.size ≤ 32) ∧ (0 ≤ t.total ∧ t.total ≤ 1099511627776) ∧ (t.ents.length : Int) ≤ t.size ∧ OkT t.ents := by
  constructor
  · intro h
    obtain ⟨_, h1, h2, h3, h4, h5, h6⟩ := validT_ok h
    exact ⟨⟨h1, h2⟩, ⟨h3, h4⟩, h5, by simpa using (validT1_iff t.ents [] OkT.nil).1 h6⟩
  · rintro ⟨⟨h1, h2⟩, ⟨h3, h4⟩, h5, h6⟩
    have hs : sizeOk t.size = true := by simp only [sizeOk, Bool.and_eq_true, decide_eq_true_eq]; omega
    unfold validT
    rw [if_neg (by rw [hs]; simp; omega), if_neg (by omega)]
    exact (validT1_iff t.ents [] OkT.nil).2 (by simpa using h6)
/-- The sort puts distinct keys in strict order, and loses nothing. -/
theorem setT_perm {l : List En} {j : Nat} {x y : En} (hx : l[j + 1]? = some x) (hy : l[j]? = some y) : ((l.set (j + 1) y).set j x).Perm l := by
  induction l generalizing j with
  | nil => simp at hx
  | cons a l ih =>
    cases j with
    | succ j => simpa using ih (j := j) (by simpa using hx) (by simpa using hy)
    | zero =>
      cases l with
      | nil => simp at hx
      | cons b l =>
        simp at hx hy
        subst hx hy
        exact List.Perm.swap _ _ _
theorem bubT_perm : ∀ (j : Nat) (l : List En), (bubE l j).Perm l
  | 0, l => List.Perm.refl _
  | j + 1, l => by
    cases hx : l[j + 1]? with
    | none => rw [bubE, if_neg (by simp [hx])]
    | some x =>
      cases hy : l[j]? with
      | none => rw [bubE, if_neg (by simp [hx, hy])]
      | some y =>
        cases hb : befE x y with
        | false => rw [bub_no hx hy hb]
        | true => rw [bub_yes hx hy hb]; exact (bubT_perm j _).trans (setT_perm hx hy)
theorem sortT_perm : ∀ (r out : List En), (sortE out r).Perm (out ++ r)
  | [], out => by simp [sortE]
  | x :: r, out => by
    simp only [sortE]
    refine (sortT_perm r _).trans ?_
    have h := (bubT_perm out.length (out ++ [x])).append_right r
    simpa using h
theorem bubT_sorted : ∀ (n : Nat) (A B : List En) (x : En), A.length = n → (A ++ B).Pairwise (fun a b => befE a b = true) → (∀ b ∈ B, befE x b = true) → (∀ a ∈ A, a.key.toList ≠ x.key.toList) → (bubE (A ++ x :: B) n).Pairwise (fun a b => befE a b = true)
  | 0, A, B, x, hA, hs, hB, _ => by
    obtain rfl := List.eq_nil_of_length_eq_zero hA
    exact List.Pairwise.cons hB (by simpa using hs)
  | n + 1, A, B, x, hA, hs, hB, hK => by
    rcases List.eq_nil_or_concat A with rfl | ⟨A', y, rfl⟩
    · simp at hA
    · rw [List.concat_eq_append] at hA hs hK ⊢
      have hn : A'.length = n := by simpa using hA
      have hx : (A' ++ [y] ++ x :: B)[n + 1]? = some x := by rw [List.getElem?_append_right (by simp; omega)]; simp [hn]
      have hy : (A' ++ [y] ++ x :: B)[n]? = some y := by rw [List.append_assoc, List.getElem?_append_right (by omega)]; simp [hn]
      cases hb : befE x y with
      | true =>
        have e : ((A' ++ [y] ++ x :: B).set (n + 1) y).set n x = A' ++ x :: (y :: B) := by
          subst hn
          simp [List.set_append]
        rw [bub_yes hx hy hb, e]
        refine bubT_sorted n A' (y :: B) x hn (by simpa using hs) (fun b hb' => ?_) (fun a ha => hK a (by simp [ha]))
        rcases List.mem_cons.1 hb' with rfl | hb'
        · exact hb
        · exact hB b hb'
      | false =>
        rw [bub_no hx hy hb]
        have hyx : befE y x = true := bef_total (fun e => hK y (by simp) e.symm) hb
        rw [List.pairwise_append] at hs
        obtain ⟨h1, h2, h3⟩ := hs
        rw [List.pairwise_append]
        refine ⟨h1, List.Pairwise.cons hB h2, fun a ha b hb' => ?_⟩
        rw [List.pairwise_append] at h1
        have hax : befE a x = true := by
          rcases List.mem_append.1 ha with ha | ha
          · exact bef_trans (h1.2.2 a ha y (by simp)) hyx
          · simp at ha; subst ha; exact hyx
        rcases List.mem_cons.1 hb' with rfl | hb'
        · exact hax
        · exact h3 a ha b hb'
theorem sortT_sorted : ∀ (r out : List En), out.Pairwise (fun a b => befE a b = true) → (out ++ r).Pairwise (fun a b => a.key.toList ≠ b.key.toList) → (sortE out r).Pairwise (fun a b => befE a b = true)
  | [], out, h, _ => by simpa [sortE] using h
  | x :: r, out, h, hk => by
    simp only [sortE]
    have hk2 : (out ++ [x] ++ r).Pairwise (fun a b => a.key.toList ≠ b.key.toList) := by simpa using hk
    refine sortT_sorted r _ (bubT_sorted out.length out [] x rfl (by simpa using h) (by simp) fun a ha => ?_) ?_
    · exact (List.pairwise_append.1 hk).2.2 a ha x (by simp)
    · exact (((bubT_perm out.length (out ++ [x])).append_right r).pairwise_iff (fun {a b} h => Ne.symm h)).2 hk2
theorem sortT_ok {l : List En} (hr : ∀ x ∈ l, RtE x) (hk : l.Pairwise (fun a b => a.key.toList ≠ b.key.toList)) : OkT (sortE [] l) := by
  have hp : (sortE [] l).Perm l := by simpa using sortT_perm l []
  exact ⟨fun x hx => hr x (hp.mem_iff.1 hx), (hp.pairwise_iff (fun {a b} h => Ne.symm h)).2 hk, sortT_sorted l [] List.Pairwise.nil (by simpa using hk)⟩
theorem keys_set {l : List En} {i : Nat} {y : En} (h : l.Pairwise (fun a b => a.key.toList ≠ b.key.toList)) (hy : ∀ j x, j ≠ i → l[j]? = some x → x.key.toList ≠ y.key.toList) : (l.set i y).Pairwise (fun a b => a.key.toList ≠ b.key.toList) := by
  rw [List.pairwise_iff_getElem] at h ⊢
  intro a b ha hb hab
  rw [List.length_set] at ha hb
  rw [List.getElem_set, List.getElem_set]
  split
  · rename_i e1
    split
    · omega
    · rename_i e2
      exact Ne.symm (hy b _ (by omega) (List.getElem?_eq_getElem hb))
  · rename_i e1
    split
    · exact hy a _ (by omega) (List.getElem?_eq_getElem ha)
    · exact h a b ha hb hab
theorem newT_valid {n : Int} (h1 : 1 ≤ n) (h2 : n ≤ 32) : newT n = (⟨n, 0, [], false⟩, 0) ∧ validT ⟨n, 0, [], false⟩ = 0 := by
  have hs : sizeOk n = true := by simp only [sizeOk, Bool.and_eq_true, decide_eq_true_eq]; omega
  exact ⟨by simp [newT, hs], validT_iff.2 ⟨⟨h1, h2⟩, ⟨by simp, by simp⟩, by simp; omega, OkT.nil⟩⟩
/-- The entries of an insertion ahead of the sort, in its three cases. -/
theorem insT_valid {t : Tk} {k : ByteArray} {w : Int} (hv : validT t = 0) (hi : itemE k w = 0) : validT (insT t k w).1 = 0 ∧ (insT t k w).1.size = t.size ∧ (insT t k w).2 = 0 := by
  obtain ⟨⟨s1, s2⟩, ⟨t1, t2⟩, l1, ok⟩ := validT_iff.1 hv
  obtain ⟨w1, w2, w3⟩ := itemE_okT hi
  have hT := sumT_rngT t.total w
  have key : ∀ (l : List En) (b : Bool), (l.length : Int) ≤ t.size → (∀ x ∈ l, RtE x) → l.Pairwise (fun a b => a.key.toList ≠ b.key.toList) → validT ⟨t.size, (sumT t.total w).1, sortE [] l, b⟩ = 0 := by
    intro l b hl hr hk
    refine validT_iff.2 ⟨⟨s1, s2⟩, hT, ?_, sortT_ok hr hk⟩
    rw [(sortT_perm l []).length_eq]; simpa using hl
  unfold insT
  rw [if_neg (by simp [hv]), if_neg (by simp [hi])]
  split
  · rename_i hf
    rcases findE_split k t.ents 0 with ⟨h1, _⟩ | ⟨i, x, hx, hxk, h3, _⟩
    · omega
    rw [Nat.zero_add] at h3
    have he : entE t.ents ((i : Nat) : Int) = x := by simp [entE, hx]
    have hxr := ok.range x (List.mem_of_getElem? hx)
    refine ⟨?_, rfl, rfl⟩
    simp only [h3, Int.toNat_natCast, he]
    refine key _ _ (by simpa using l1) (fun y hy => ?_) (keys_set ok.keys fun j y hj hy => ?_)
    · rcases List.mem_or_eq_of_mem_set hy with h | h
      · exact ok.range y h
      · subst h
        obtain ⟨r1, r2, r3, r4, r5⟩ := hxr
        have := sumT_geT (a := x.count) (b := w) (by omega) r3
        have := (sumT_rngT x.count w).2
        exact ⟨r1, by simp only; omega, by simp only; omega, r4, by simp only; omega⟩
    · have := List.pairwise_iff_getElem.1 ok.keys
      obtain ⟨hjl, ej⟩ := List.getElem?_eq_some_iff.1 hy
      obtain ⟨hil, ei⟩ := List.getElem?_eq_some_iff.1 hx
      subst ej ei
      rcases Nat.lt_or_gt_of_ne hj with h | h
      · exact this j i hjl hil h
      · exact Ne.symm (this i j hil hjl h)
  · rename_i hf
    have hne := findE_neg (k := k) (l := t.ents) (by omega)
    split
    · rename_i hlt
      refine ⟨key _ _ (by simp; omega) (fun y hy => ?_) ?_, rfl, rfl⟩
      · rcases List.mem_append.1 hy with h | h
        · exact ok.range y h
        · rw [List.mem_singleton] at h; subst h
          exact ⟨w3, w1, by simp only; omega, by simp, by simp only; omega⟩
      · rw [List.pairwise_append]
        exact ⟨ok.keys, List.pairwise_singleton _ _, fun a ha b hb => by rw [List.mem_singleton] at hb; subst hb; exact hne a ha⟩
    · rename_i hlt
      have hn0 : t.ents.length ≠ 0 := by omega
      have hc := sumT_rngT (leastT t.size t.ents) w
      have hc1 := sumT_gtT (a := leastT t.size t.ents) w1
      refine ⟨key _ _ (by simpa using l1) (fun y hy => ?_) (keys_set ok.keys fun j y hj hy => hne y (List.mem_of_getElem? hy)), rfl, rfl⟩
      rcases List.mem_or_eq_of_mem_set hy with h | h
      · exact ok.range y h
      · subst h
        have hl0 : 0 ≤ leastT t.size t.ents := by
          unfold leastT
          split
          · omega
          · obtain ⟨x, hx⟩ := get_lt (show t.ents.length - 1 < t.ents.length by omega)
            have := (ok.range x (List.mem_of_getElem? hx)).2.1
            rw [entE, show ((t.ents.length : Int) - 1).toNat = t.ents.length - 1 by omega, hx]
            simp only [Option.getD_some]; omega
        exact ⟨w3, hc1, hc.2, by simp only [capE]; omega, by simp only [capE]; omega⟩
end Go.Proofs.Ytnckgbmifigadaa
