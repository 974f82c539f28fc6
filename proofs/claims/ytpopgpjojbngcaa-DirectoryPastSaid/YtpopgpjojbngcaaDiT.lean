/- Directory: every change keeps a directory valid, and what held before it (plain). -/
import Derived.Test.YtpopgpjojbngcaaDiG
import Derived.Test.YtpopgpjojbngcaaDiM
import Derived.Test.YtpopgpjojbngcaaDiN
set_option linter.unusedSimpArgs false
set_option linter.unusedVariables false
namespace Go.Proofs.Ytpopgpjojbngcaa
open Go.RowKit Go.Avm
def PB (a b : Bd) : Prop := ltN a.name b.name = true ∨ (a.name = b.name ∧ a.to ≠ 0 ∧ a.to ≤ b.frm)
def NB (a b : Bd) : Prop := ¬ (a.obj = b.obj ∧ ovB a b = true)
structure VB (l : List Bd) : Prop where
  ok : ∀ b ∈ l, badB b = 0
  asc : l.Pairwise PB
  dup : l.Pairwise NB
theorem eqN_sym {x y : ByteArray} : eqN x y = eqN y x := by
  rw [Bool.eq_iff_iff, eqN_iff, eqN_iff]; exact ⟨Eq.symm, Eq.symm⟩
theorem badP_PB {a b : Bd} : badP a b = false ↔ PB a b ∧ (a.name = b.name → a.frm < b.frm) := by
  constructor
  · intro h
    obtain ⟨h1, h2⟩ := badP_lt h
    simp only [ltB, Bool.or_eq_true, Bool.and_eq_true, decide_eq_true_eq] at h1
    rcases h1 with h1 | ⟨h1, h3⟩
    · refine ⟨.inl h1, fun e => ?_⟩
      rw [e, ltN_irrefl] at h1; cases h1
    · have e := eqN_iff.1 h1
      have := h2 (by rw [eqN_sym]; exact h1)
      exact ⟨.inr ⟨e, this.1, this.2⟩, fun _ => h3⟩
  · rintro ⟨h, hf⟩
    unfold badP
    rcases h with h | ⟨e, h1, h2⟩
    · have h3 : ltN b.name a.name = false := bl_asymm h
      have h4 : eqN b.name a.name = false := by
        rw [Bool.eq_false_iff]; intro g
        rw [eqN_iff] at g
        rw [g, ltN_irrefl] at h; cases h
      rw [h3, h4]; rfl
    · have := hf e
      rw [e, ltN_irrefl, Bool.false_or, decide_eq_false (by omega), beq_eq_false_iff_ne.2 h1, decide_eq_false (by omega)]
      simp
theorem PB_trans {a b c : Bd} (hb : badB b = 0) (h : PB a b) (g : PB b c) : PB a c := by
  have := (badB_ok hb).2.2.2.2
  rcases h with h | ⟨e, h1, h2⟩ <;> rcases g with g | ⟨e2, g1, g2⟩
  · exact .inl (ltN_trans h g)
  · rw [e2] at h; exact .inl h
  · rw [← e] at g; exact .inl g
  · exact .inr ⟨e.trans e2, h1, by omega⟩
theorem PB_frm {a b : Bd} (ha : badB a = 0) (h : PB a b) (e : a.name = b.name) : a.frm < b.frm := by
  have := (badB_ok ha).2.2.2.2
  rcases h with h | ⟨_, h1, h2⟩
  · rw [e, ltN_irrefl] at h; cases h
  · omega
theorem valid1_iff : ∀ (l : List Bd) (p : Option Bd), (∀ a, p = some a → badB a = 0) → (valid1 p l = 0 ↔ (∀ b ∈ l, badB b = 0) ∧ l.Pairwise PB ∧ ∀ a, p = some a → ∀ b ∈ l, PB a b)
  | [], p, _ => by simp [valid1]
  | b :: l, p, hp => by
    rw [valid1]
    by_cases h1 : badB b = 0
    · rw [if_neg (by simp [h1])]
      have ih := valid1_iff l (some b) (fun a e => by cases e; exact h1)
      by_cases h2 : p.any (fun a => badP a b) = true
      · rw [if_pos h2]
        simp only [show ¬ ((19 : Int) = 0) by decide, false_iff]
        rintro ⟨_, _, h5⟩
        cases p with
        | none => simp at h2
        | some a =>
          have h6 := h5 a rfl b (List.mem_cons_self ..)
          have := badP_PB.2 ⟨h6, PB_frm (hp a rfl) h6⟩
          simp [this] at h2
      · rw [if_neg h2, ih]
        have h3 : ∀ a, p = some a → PB a b := by
          intro a e; subst e
          simp only [Option.any_some, Bool.not_eq_true] at h2
          exact (badP_PB.1 h2).1
        constructor
        · rintro ⟨g1, g2, g3⟩
          refine ⟨fun x hx => ?_, List.Pairwise.cons (g3 b rfl) g2, fun a e x hx => ?_⟩
          · rcases List.mem_cons.1 hx with rfl | hx
            · exact h1
            · exact g1 x hx
          · rcases List.mem_cons.1 hx with rfl | hx
            · exact h3 a e
            · exact PB_trans h1 (h3 a e) (g3 b rfl x hx)
        · rintro ⟨g1, g2, g3⟩
          have g2' := List.pairwise_cons.1 g2
          exact ⟨fun x hx => g1 x (List.mem_cons_of_mem _ hx), g2'.2, fun a e x hx => by cases e; exact g2'.1 x hx⟩
    · rw [if_pos h1]
      constructor
      · intro h; exact absurd h h1
      · rintro ⟨h, _⟩; exact absurd (h b (List.mem_cons_self ..)) h1
theorem dupB_iff : ∀ (m : List Bd) (l : List Bd) (i : Nat), l.drop i = m → (dupB l m i = false ↔ ∀ j b, i ≤ j → l[j]? = some b → ∀ a ∈ l.take j, NB a b)
  | [], l, i, h => by
    simp only [dupB, true_iff]
    intro j b hj hb
    have := (List.getElem?_eq_some_iff.1 hb).1
    have := congrArg List.length h
    simp at this; omega
  | b :: m, l, i, h => by
    have hi : l[i]? = some b := by
      have := congrArg (fun z => z[0]?) h
      simpa using this
    have hd : l.drop (i + 1) = m := by
      have := drop_get hi
      rw [h] at this
      simpa using this.symm
    rw [dupB, Bool.or_eq_false_iff, dupB_iff m l (i + 1) hd, List.any_eq_false]
    constructor
    · rintro ⟨h1, h2⟩ j x hj hx a ha
      by_cases e : j = i
      · subst e
        rw [hi] at hx; cases hx
        intro g
        exact h1 a ha (by simp [g.1, g.2])
      · exact h2 j x (by omega) hx a ha
    · intro h1
      refine ⟨fun a ha g => ?_, fun j x hj hx a ha => h1 j x (by omega) hx a ha⟩
      simp only [Bool.and_eq_true, beq_iff_eq] at g
      exact h1 i b (Nat.le_refl _) hi a ha g
theorem pair_take {R : Bd → Bd → Prop} {l : List Bd} : (∀ j b, l[j]? = some b → ∀ a ∈ l.take j, R a b) ↔ l.Pairwise R := by
  rw [List.pairwise_iff_getElem]
  constructor
  · intro h i j hi hj hij
    exact h j l[j] (List.getElem?_eq_getElem hj) l[i] (List.mem_take_iff_getElem.2 ⟨i, by omega, rfl⟩)
  · intro h j b hb a ha
    obtain ⟨hj, e⟩ := List.getElem?_eq_some_iff.1 hb
    obtain ⟨i, hi, e2⟩ := List.mem_take_iff_getElem.1 ha
    subst e e2
    exact h i j (by omega) hj (by omega)
theorem validB_iff {l : List Bd} : validB l = 0 ↔ VB l := by
  unfold validB
  constructor
  · intro h
    split at h
    · rename_i h1; exact absurd h h1
    · rename_i h1
      have h1 : valid1 none l = 0 := by omega
      split at h
      · cases h
      · rename_i h2
        obtain ⟨g1, g2, _⟩ := (valid1_iff l none (fun _ e => by cases e)).1 h1
        have h3 := (dupB_iff l l 0 rfl).1 (by simpa using h2)
        exact ⟨g1, g2, pair_take.1 fun j b hb => h3 j b (Nat.zero_le _) hb⟩
  · rintro ⟨g1, g2, g3⟩
    have h1 := (valid1_iff l none (fun _ e => by cases e)).2 ⟨g1, g2, fun _ e => by cases e⟩
    have h2 := (dupB_iff l l 0 rfl).2 (fun j b _ hb => pair_take.2 g3 j b hb)
    rw [if_neg (by omega), if_neg (by simp [h2])]
theorem ovB_sym {a b : Bd} (h : ovB a b = true) : ovB b a = true := by
  unfold ovB at h ⊢; rw [Bool.and_comm]; exact h
theorem NB_sym {a b : Bd} (h : NB a b) : NB b a := fun g => h ⟨g.1.symm, ovB_sym g.2⟩
theorem placeB_not (b : Bd) : ∀ (l : List Bd) (y : Bd), l[placeB b l]? = some y → ltB y b = false
  | [], y, h => by simp at h
  | x :: l, y, h => by
    rw [placeB] at h
    split at h
    · rw [List.getElem?_cons_succ] at h; exact placeB_not b l y h
    · rename_i hx
      rw [List.getElem?_cons_zero, Option.some.injEq] at h
      subst h; simpa using hx
/-- A late binding of a name and an object that are not bound keeps a directory valid. -/
theorem add_VB {l : List Bd} {n : ByteArray} {o c : Int} (hv : VB l) (hn : nameOk n = true) (ho : 1 ≤ o) (hc : 1 ≤ c) (hl : ∀ b ∈ l, b.frm ≤ c ∧ b.to ≤ c) (h1 : ∀ b ∈ l, b.name = n → b.to ≠ 0) (h2 : ∀ b ∈ l, b.obj = o → b.to ≠ 0) : VB (addB ⟨n, o, c, 0⟩ l) := by
  have hside := add_side (o := o) hv.ok hl (fun b hb e => h1 b hb (by rw [toList_of, toList_of] at e; exact ofB_inj e))
  have hs : ltS l := (valid1_lt l none (validB_1 (validB_iff.2 hv))).1
  have hk := placeB_le ⟨n, o, c, 0⟩ l
  have htl : ∀ x ∈ l.take (placeB ⟨n, o, c, 0⟩ l), ltB x ⟨n, o, c, 0⟩ = true := by
    generalize (⟨n, o, c, 0⟩ : Bd) = bb
    clear hside hs hk
    clear hv hl h1 h2
    induction l with
    | nil => intro x hx; simp at hx
    | cons y l ih =>
      intro x hx
      rw [placeB] at hx
      split at hx
      · rename_i hy
        rw [List.take_succ_cons] at hx
        rcases List.mem_cons.1 hx with rfl | hx
        · exact hy
        · exact ih x hx
      · simp at hx
  have hdr : ∀ x ∈ l.drop (placeB ⟨n, o, c, 0⟩ l), ltB ⟨n, o, c, 0⟩ x = true := by
    intro x hx
    have hxl := List.mem_of_mem_drop hx
    rcases hside x hxl with g | g
    · -- the first one behind the place is not less; all others are greater than it
      obtain ⟨j, hj, e⟩ := List.mem_drop_iff_getElem.1 hx
      obtain ⟨y, hy⟩ := get_lt (show placeB ⟨n, o, c, 0⟩ l < l.length by omega)
      have hyn : ltB y ⟨n, o, c, 0⟩ = false := placeB_not _ l y hy
      have hx' : l[placeB ⟨n, o, c, 0⟩ l + j]? = some x := by rw [← e]; exact List.getElem?_eq_getElem _
      by_cases h0 : j = 0
      · subst h0
        rw [Nat.add_zero, hy] at hx'; cases hx'
        rw [hyn] at g; cases g
      · have := ltB_trans (ltS_get hs hy hx' (by omega)) g
        rw [hyn] at this; cases this
    · exact g
  have hPt : ∀ x ∈ l.take (placeB ⟨n, o, c, 0⟩ l), PB x ⟨n, o, c, 0⟩ := by
    intro x hx
    have hxl := List.mem_of_mem_take hx
    have := htl x hx
    simp only [ltB, Bool.or_eq_true, Bool.and_eq_true, decide_eq_true_eq] at this
    rcases this with g | ⟨g, _⟩
    · exact .inl g
    · have e := eqN_iff.1 g
      exact .inr ⟨e, h1 x hxl e, (hl x hxl).2⟩
  have hPd : ∀ x ∈ l.drop (placeB ⟨n, o, c, 0⟩ l), PB ⟨n, o, c, 0⟩ x := by
    intro x hx
    have hxl := List.mem_of_mem_drop hx
    have := hdr x hx
    simp only [ltB, Bool.or_eq_true, Bool.and_eq_true, decide_eq_true_eq] at this
    rcases this with g | ⟨_, g⟩
    · exact .inl g
    · have := (hl x hxl).1; omega
  have hN : ∀ x ∈ l, NB x ⟨n, o, c, 0⟩ := by
    rintro x hx ⟨e, g⟩
    have h3 := h2 x hx e
    have h4 := (hl x hx).2
    simp only [ovB, Bool.and_eq_true, Bool.or_eq_true, beq_iff_eq, decide_eq_true_eq] at g
    omega
  have key : ∀ {R : Bd → Bd → Prop}, l.Pairwise R → (∀ x ∈ l.take (placeB ⟨n, o, c, 0⟩ l), R x ⟨n, o, c, 0⟩) → (∀ x ∈ l.drop (placeB ⟨n, o, c, 0⟩ l), R ⟨n, o, c, 0⟩ x) → (addB ⟨n, o, c, 0⟩ l).Pairwise R := by
    intro R hp ht hd
    have hp' := hp
    rw [← List.take_append_drop (placeB ⟨n, o, c, 0⟩ l) l, List.pairwise_append] at hp'
    rw [addB, List.append_assoc, List.pairwise_append]
    refine ⟨hp'.1, List.Pairwise.cons hd hp'.2.1, fun x hx y hy => ?_⟩
    rcases List.mem_cons.1 hy with rfl | hy
    · exact ht x hx
    · exact hp'.2.2 x hx y hy
  refine ⟨fun b hb => ?_, key hv.asc hPt hPd, key hv.dup (fun x hx => hN x (List.mem_of_mem_take hx)) (fun x hx => NB_sym (hN x (List.mem_of_mem_drop hx)))⟩
  rw [addB, List.append_assoc, List.mem_append, List.mem_append, List.mem_singleton] at hb
  rcases hb with hb | rfl | hb
  · exact hv.ok b (List.mem_of_mem_take hb)
  · unfold badB
    rw [if_neg (by simp [hn]), if_neg (by simp only; omega), if_neg (by simp)]
  · exact hv.ok b (List.mem_of_mem_drop hb)
theorem end_VB {l : List Bd} {i : Nat} {b : Bd} {c : Int} (hv : VB l) (hb : l[i]? = some b) (h0 : b.to = 0) (hc : b.frm < c) : VB (l.set i ⟨b.name, b.obj, b.frm, c⟩) := by
  have hbl := List.mem_of_getElem? hb
  have hok := badB_ok (hv.ok b hbl)
  have key : ∀ {R : Bd → Bd → Prop}, l.Pairwise R → (∀ x, R x b → R x ⟨b.name, b.obj, b.frm, c⟩) → (∀ x, R b x → R ⟨b.name, b.obj, b.frm, c⟩ x) → (l.set i ⟨b.name, b.obj, b.frm, c⟩).Pairwise R := by
    intro R hp h1 h2
    rw [List.pairwise_iff_getElem] at hp ⊢
    intro j k hj hk hjk
    simp only [List.length_set] at hj hk
    have h3 := hp j k hj hk hjk
    obtain ⟨hi, e⟩ := List.getElem?_eq_some_iff.1 hb
    simp only [List.getElem_set]
    split
    · rename_i e1; subst e1
      rw [if_neg (by omega)]
      exact h2 _ (e ▸ h3)
    · split
      · rename_i e2; subst e2
        exact h1 _ (e ▸ h3)
      · exact h3
  refine ⟨fun x hx => ?_, key hv.asc (fun x h => h) (fun x h => ?_), key hv.dup (fun x h g => ?_) (fun x h g => ?_)⟩
  · rcases mem_set_of hx with hx | rfl
    · exact hv.ok x hx
    · unfold badB
      rw [if_neg (by simp [hok.1]), if_neg (by simp only; omega), if_neg (by simp only; omega)]
  · rcases h with h | ⟨_, h, _⟩
    · exact .inl h
    · exact absurd h0 h
  · refine h ⟨g.1, ?_⟩
    have := g.2
    simp only [ovB, Bool.and_eq_true, Bool.or_eq_true, beq_iff_eq, decide_eq_true_eq] at this ⊢
    omega
  · refine h ⟨g.1, ?_⟩
    have := g.2
    simp only [ovB, Bool.and_eq_true, Bool.or_eq_true, beq_iff_eq, decide_eq_true_eq] at this ⊢
    omega
end Go.Proofs.Ytpopgpjojbngcaa
