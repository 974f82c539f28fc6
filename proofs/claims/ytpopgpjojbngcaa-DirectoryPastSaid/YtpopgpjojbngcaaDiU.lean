/- Directory: the directories that the law builds, before and behind a change (plain). -/
import Derived.Test.YtpopgpjojbngcaaDiT
set_option linter.unusedSimpArgs false
set_option linter.unusedVariables false
namespace Go.Proofs.Ytpopgpjojbngcaa
open Go.RowKit Go.Avm
theorem listP_len' (c : Int) (l : List Bd) : (listP c l).length ≤ l.length := by
  have h1 := Lib.compact_length_le ((sortN (namesB c l)).map ofB)
  rw [List.length_map, sortN_len] at h1
  have h2 := namesB_len c l
  simp only [listP, compN, List.length_map]; omega
theorem pruneB_len' (p : List Pn) (l : List Bd) : (pruneB p l).length ≤ l.length := List.length_filter_le _ _
theorem madeD_len' : ∀ (l : List Int) (i : Nat) (d : List Bd) (c o : Int), i ≤ 10 → d.length ≤ i → 1 ≤ c ∧ c ≤ 1 + i → (madeD l i d c o).1.length ≤ 10 ∧ 1 ≤ (madeD l i d c o).2 ∧ (madeD l i d c o).2 ≤ 11
  | [], i, d, c, o, hi, hd, hc => by simp only [madeD]; omega
  | k :: l, i, d, c, o, hi, hd, hc => by
    rw [madeD]
    split
    · simp only; omega
    · have := stepD_len k d c o
      split
      · exact madeD_len' l (i + 1) _ _ _ (by omega) (by omega) (by omega)
      · exact madeD_len' l (i + 1) _ _ _ (by omega) (by omega) (by omega)
/-- A directory that the law has built, with the next commit and the next object. -/
structure MI (l : List Bd) (c o : Int) : Prop where
  vb : VB l
  lt : ∀ b ∈ l, b.frm < c ∧ b.to < c
  ob : ∀ b ∈ l, b.obj < o
  c1 : 1 ≤ c
  o1 : 1 ≤ o
theorem mem_addB {b : Bd} {l : List Bd} {x : Bd} : x ∈ addB b l ↔ x = b ∨ x ∈ l := by
  rw [addB]
  conv => rhs; rw [← List.take_append_drop (placeB b l) l]
  simp only [List.mem_append, List.mem_singleton]
  constructor
  · rintro ((h | h) | h) <;> simp_all
  · rintro (h | h | h) <;> simp_all
/-- What a change gives: the same before it, as long as it is valid. -/
structure Sm (l x : List Bd) (c : Int) : Prop where
  fw : ∀ b ∈ l, ∀ d, d < c → holdsB b.frm b.to d = true → ∃ y ∈ x, y.name = b.name ∧ y.obj = b.obj ∧ holdsB y.frm y.to d = true
  bw : ∀ y ∈ x, ∀ d, d < c → holdsB y.frm y.to d = true → ∃ b ∈ l, b.name = y.name ∧ b.obj = y.obj ∧ holdsB b.frm b.to d = true
theorem add_Sm {l : List Bd} {n : ByteArray} {o c : Int} : Sm l (addB ⟨n, o, c, 0⟩ l) c := by
  refine ⟨fun b hb d hd h => ⟨b, mem_addB.2 (.inr hb), rfl, rfl, h⟩, fun y hy d hd h => ?_⟩
  rcases mem_addB.1 hy with rfl | hy
  · simp only [holdsB, Bool.and_eq_true, decide_eq_true_eq] at h; omega
  · exact ⟨y, hy, rfl, rfl, h⟩
theorem end_Sm {l : List Bd} {i : Nat} {b : Bd} {c : Int} (hb : l[i]? = some b) (h0 : b.to = 0) : Sm l (l.set i ⟨b.name, b.obj, b.frm, c⟩) c := by
  have key : ∀ d, d < c → holdsB b.frm c d = holdsB b.frm b.to d := by
    intro d hd
    unfold holdsB
    rw [h0, decide_eq_true hd, show ((0 : Int) == 0) = true from rfl, Bool.true_or, Bool.or_true]
  obtain ⟨hi, e⟩ := List.getElem?_eq_some_iff.1 hb
  constructor
  · intro a ha d hd h
    obtain ⟨j, hj, rfl⟩ := List.mem_iff_getElem.1 ha
    by_cases hij : i = j
    · subst hij
      refine ⟨⟨b.name, b.obj, b.frm, c⟩, List.mem_set hi _, ?_, ?_, ?_⟩
      · rw [e]
      · rw [e]
      · rw [e] at h; rw [key d hd]; exact h
    · exact ⟨l[j], by rw [List.mem_iff_getElem]; exact ⟨j, by simpa using hj, by rw [List.getElem_set_ne hij]⟩, rfl, rfl, h⟩
  · intro y hy d hd h
    rcases mem_set_of hy with hy | rfl
    · exact ⟨y, hy, rfl, rfl, h⟩
    · exact ⟨b, List.mem_of_getElem? hb, rfl, rfl, by rw [← key d hd]; exact h⟩
theorem Sm.trans {l x z : List Bd} {c : Int} (h : Sm l x c) (g : Sm x z c) : Sm l z c := by
  constructor
  · intro b hb d hd h1
    obtain ⟨y, hy, e1, e2, h2⟩ := h.fw b hb d hd h1
    obtain ⟨w, hw, e3, e4, h3⟩ := g.fw y hy d hd h2
    exact ⟨w, hw, e3.trans e1, e4.trans e2, h3⟩
  · intro b hb d hd h1
    obtain ⟨y, hy, e1, e2, h2⟩ := g.bw b hb d hd h1
    obtain ⟨w, hw, e3, e4, h3⟩ := h.bw y hy d hd h2
    exact ⟨w, hw, e3.trans e1, e4.trans e2, h3⟩
theorem bind_MI {l : List Bd} {n : ByteArray} {o c o' : Int} (h : MI l c o') (ho : 1 ≤ o) (h2 : ∀ b ∈ l, b.obj = o → b.to ≠ 0) (he : (bindB l n o c).2 = 0) :
    VB (bindB l n o c).1 ∧ (∀ b ∈ (bindB l n o c).1, b.frm < c + 1 ∧ b.to < c + 1) ∧ (∀ b ∈ (bindB l n o c).1, b.obj < o' ∨ b.obj = o) ∧ Sm l (bindB l n o c).1 c := by
  have hv := validB_iff.2 h.vb
  unfold bindB at he ⊢
  rw [if_neg (by simp [hv])] at he ⊢
  by_cases h3 : nameOk n = false
  · rw [if_pos h3] at he; cases he
  rw [if_neg h3] at he ⊢
  by_cases h4 : o < 1 ∨ c < 1
  · rw [if_pos h4] at he; cases he
  rw [if_neg h4] at he ⊢
  by_cases h5 : lateB c l = true
  · rw [if_pos h5] at he; cases he
  rw [if_neg h5] at he ⊢
  by_cases h6 : l.any (fun b => b.to == 0 && (eqN b.name n || b.obj == o)) = true
  · rw [if_pos h6] at he; cases he
  rw [if_neg h6] at he ⊢
  have h1 : ∀ b ∈ l, b.name = n → b.to ≠ 0 := fun b hb e => any_open (by simpa using h6) b hb (by rw [e])
  simp only
  refine ⟨add_VB h.vb (by simpa using h3) ho (by omega) (fun b hb => by have := h.lt b hb; omega) h1 h2, fun b hb => ?_, fun b hb => ?_, add_Sm⟩
  · rcases mem_addB.1 hb with rfl | hb
    · simp only; omega
    · have := h.lt b hb; omega
  · rcases mem_addB.1 hb with rfl | hb
    · exact .inr rfl
    · exact .inl (h.ob b hb)
theorem bind_zero {l : List Bd} {n : ByteArray} {o c : Int} (he : (bindB l n o c).2 ≠ 0) : (bindB l n o c).1 = [] := by
  unfold bindB at he ⊢
  repeat' (split at he <;> rename_i hq <;> first | rw [if_pos hq] | rw [if_neg hq])
  exact absurd rfl he
theorem unbind_zero {l : List Bd} {n : ByteArray} {c : Int} (he : (unbindB l n c).2 ≠ 0) : (unbindB l n c).1 = [] := by
  unfold unbindB at he ⊢
  repeat' (split at he <;> rename_i hq <;> first | rw [if_pos hq] | rw [if_neg hq])
  exact absurd rfl he
theorem rename_zero {l : List Bd} {n m : ByteArray} {c : Int} (he : (renameB l n m c).2 ≠ 0) : (renameB l n m c).1 = [] := by
  unfold renameB at he ⊢
  repeat' (split at he <;> rename_i hq <;> first | rw [if_pos hq] | rw [if_neg hq])
  exact absurd rfl he
theorem unbind_MI {l : List Bd} {n : ByteArray} {c o : Int} (h : MI l c o) (he : (unbindB l n c).2 = 0) :
    VB (unbindB l n c).1 ∧ (∀ b ∈ (unbindB l n c).1, b.frm < c + 1 ∧ b.to < c + 1) ∧ (∀ b ∈ (unbindB l n c).1, b.obj < o) ∧ Sm l (unbindB l n c).1 c := by
  have hv := validB_iff.2 h.vb
  unfold unbindB at he ⊢
  rw [if_neg (by simp [hv])] at he ⊢
  by_cases h3 : nameOk n = false
  · rw [if_pos h3] at he; cases he
  rw [if_neg h3] at he ⊢
  by_cases h4 : c < 1
  · rw [if_pos h4] at he; cases he
  rw [if_neg h4] at he ⊢
  by_cases h5 : lateB c l = true
  · rw [if_pos h5] at he; cases he
  rw [if_neg h5] at he ⊢
  by_cases h6 : openB n l < 0
  · rw [if_pos h6] at he; cases he
  rw [if_neg h6] at he ⊢
  obtain ⟨b, hb, hp⟩ := openB_at h6
  have hbd := bdAt_get hb
  by_cases h7 : c ≤ (bdAt l (openB n l)).frm
  · rw [if_pos h7] at he; cases he
  rw [if_neg h7]
  rw [hbd] at h7
  simp only [openP, Bool.and_eq_true, beq_iff_eq] at hp
  have hbl := List.mem_of_getElem? hb
  simp only [endB, hbd]
  refine ⟨end_VB h.vb hb hp.2 (by omega), fun x hx => ?_, fun x hx => ?_, end_Sm hb hp.2⟩
  · rcases mem_set_of hx with hx | rfl
    · have := h.lt x hx; omega
    · have := h.lt b hbl; simp only; omega
  · rcases mem_set_of hx with hx | rfl
    · exact h.ob x hx
    · exact h.ob b hbl
theorem rename_MI {l : List Bd} {n m : ByteArray} {c o : Int} (h : MI l c o) (he : (renameB l n m c).2 = 0) :
    VB (renameB l n m c).1 ∧ (∀ b ∈ (renameB l n m c).1, b.frm < c + 1 ∧ b.to < c + 1) ∧ (∀ b ∈ (renameB l n m c).1, b.obj < o) ∧ Sm l (renameB l n m c).1 c := by
  have hv := validB_iff.2 h.vb
  unfold renameB at he ⊢
  rw [if_neg (by simp [hv])] at he ⊢
  by_cases h3 : nameOk n = false ∨ nameOk m = false
  · rw [if_pos h3] at he; cases he
  rw [if_neg h3] at he ⊢
  by_cases h4 : c < 1
  · rw [if_pos h4] at he; cases he
  rw [if_neg h4] at he ⊢
  by_cases h5 : lateB c l = true
  · rw [if_pos h5] at he; cases he
  rw [if_neg h5] at he ⊢
  by_cases h6 : openB n l < 0
  · rw [if_pos h6] at he; cases he
  rw [if_neg h6] at he ⊢
  obtain ⟨b, hb, hp⟩ := openB_at h6
  have hbd := bdAt_get hb
  by_cases h8 : 0 ≤ openB m l
  · rw [if_pos h8] at he; cases he
  rw [if_neg h8] at he ⊢
  by_cases h7 : c ≤ (bdAt l (openB n l)).frm
  · rw [if_pos h7] at he; cases he
  rw [if_neg h7]
  rw [hbd] at h7
  simp only [openP, Bool.and_eq_true, beq_iff_eq] at hp
  have hbl := List.mem_of_getElem? hb
  simp only [endB, hbd]
  have hve := end_VB h.vb hb hp.2 (show b.frm < c by omega)
  have hok := badB_ok (h.vb.ok b hbl)
  have hlt : ∀ x ∈ l.set (openB n l).toNat ⟨b.name, b.obj, b.frm, c⟩, x.frm ≤ c ∧ x.to ≤ c := by
    intro x hx
    rcases mem_set_of hx with hx | rfl
    · have := h.lt x hx; omega
    · have := h.lt b hbl; simp only; omega
  have hnm : ∀ x ∈ l.set (openB n l).toNat ⟨b.name, b.obj, b.frm, c⟩, x.name = m → x.to ≠ 0 := by
    intro x hx e
    rcases mem_set_of hx with hx | rfl
    · exact open_side h8 x hx (by rw [e])
    · simp only; omega
  have hob : ∀ x ∈ l.set (openB n l).toNat ⟨b.name, b.obj, b.frm, c⟩, x.obj = b.obj → x.to ≠ 0 := by
    intro x hx e h0
    obtain ⟨j, hj, rfl⟩ := List.mem_iff_getElem.1 hx
    obtain ⟨hi, e1⟩ := List.getElem?_eq_some_iff.1 hb
    by_cases hij : (openB n l).toNat = j
    · subst hij
      simp only [List.getElem_set_self] at h0
      omega
    · rw [List.getElem_set_ne hij] at e h0
      simp only [List.length_set] at hj
      have hd := List.pairwise_iff_getElem.1 h.vb.dup
      have hov : ovB l[j] b = true := by
        unfold ovB; rw [h0, hp.2]; rfl
      rcases Nat.lt_or_ge (openB n l).toNat j with g | g
      · exact hd _ j hi hj g ⟨by rw [e1]; exact e.symm, by rw [e1]; exact ovB_sym hov⟩
      · exact hd j _ hj hi (by omega) ⟨by rw [e1]; exact e, by rw [e1]; exact hov⟩
  refine ⟨add_VB hve (by cases hh : nameOk m <;> simp_all) hok.2.1 (by omega) hlt hnm hob, fun x hx => ?_, fun x hx => ?_, (end_Sm hb hp.2).trans add_Sm⟩
  · rcases mem_addB.1 hx with rfl | hx
    · simp only; omega
    · have := hlt x hx; omega
  · rcases mem_addB.1 hx with rfl | hx
    · exact h.ob b hbl
    · rcases mem_set_of hx with hx | rfl
      · exact h.ob x hx
      · exact h.ob b hbl
theorem step_MI {k : Int} {d : List Bd} {c o : Int} (h : MI d c o) : ((stepD k d c o).1.2 = 0 → MI (stepD k d c o).1.1 (c + 1) (stepD k d c o).2) ∧ MI d c (stepD k d c o).2 := by
  have hc := h.c1
  have ho := h.o1
  have hr : k % 4 = 0 ∨ k % 4 = 1 ∨ k % 4 = 2 ∨ k % 4 = 3 := by omega
  have hb : ((bindB d (nameK (k / 4 % 16)) o c).2 = 0 → MI (bindB d (nameK (k / 4 % 16)) o c).1 (c + 1) (o + 1)) ∧ MI d c (o + 1) := by
    refine ⟨fun he => ?_, ⟨h.vb, h.lt, fun b hb => by have := h.ob b hb; omega, hc, by omega⟩⟩
    obtain ⟨g1, g2, g3, _⟩ := bind_MI h ho (fun b hb e => by have := h.ob b hb; omega) he
    exact ⟨g1, g2, fun b hb => by have := g3 b hb; omega, by omega, by omega⟩
  rcases hr with hr | hr | hr | hr
  · rw [stepD_01 d c o (.inl hr)]; exact hb
  · rw [stepD_01 d c o (.inr hr)]; exact hb
  · rw [stepD_2 d c o hr]
    refine ⟨fun he => ?_, h⟩
    obtain ⟨g1, g2, g3, _⟩ := unbind_MI h he
    exact ⟨g1, g2, g3, by omega, ho⟩
  · rw [stepD_3 d c o hr]
    refine ⟨fun he => ?_, h⟩
    obtain ⟨g1, g2, g3, _⟩ := rename_MI h he
    exact ⟨g1, g2, g3, by omega, ho⟩
theorem made_MI : ∀ (l : List Int) (i : Nat) (d : List Bd) (c o : Int), MI d c o → o ≤ 1 + (i : Int) → i ≤ 10 → ∃ o', o' ≤ 11 ∧ MI (madeD l i d c o).1 (madeD l i d c o).2 o'
  | [], i, d, c, o, h, ho, hi => ⟨o, by omega, by simp only [madeD]; exact h⟩
  | k :: l, i, d, c, o, h, ho, hi => by
    rw [madeD]
    split
    · exact ⟨o, by omega, h⟩
    · have h1 := step_MI (k := k) h
      have h2 := stepD_len k d c o
      split
      · rename_i hz
        exact made_MI l (i + 1) _ _ _ (h1.1 hz) (by omega) (by omega)
      · exact made_MI l (i + 1) _ _ _ h1.2 (by omega) (by omega)
theorem made_ok (l : List Int) : ∃ o', o' ≤ 11 ∧ MI (madeD l 0 [] 1 1).1 (madeD l 0 [] 1 1).2 o' :=
  made_MI l 0 [] 1 1 ⟨⟨fun _ h => by simp at h, List.Pairwise.nil, List.Pairwise.nil⟩, fun _ h => by simp at h, fun _ h => by simp at h, by omega, by omega⟩ (by omega) (by omega)
/-- In a valid directory a name has one object at a commit. -/
theorem look_of : ∀ {l : List Bd} {n : ByteArray} {c : Int} {b : Bd}, VB l → b ∈ l → b.name = n → holdsB b.frm b.to c = true → lookB n c l = (b.obj, true)
  | [], _, _, _, _, h, _, _ => by simp at h
  | x :: l, n, c, b, hv, hb, hn, hh => by
    have hp := List.pairwise_cons.1 hv.asc
    rw [lookB]
    rcases List.mem_cons.1 hb with rfl | hb
    · rw [if_pos (by rw [hh, Bool.and_true]; exact eqN_iff.2 hn)]
    · have hx : ¬ (eqN x.name n && holdsB x.frm x.to c) = true := by
        intro g
        rw [Bool.and_eq_true] at g
        have e := eqN_iff.1 g.1
        rcases hp.1 b hb with h1 | ⟨_, h2, h3⟩
        · rw [e, hn, ltN_irrefl] at h1; cases h1
        · have g2 := g.2
          simp only [holdsB, Bool.and_eq_true, Bool.or_eq_true, decide_eq_true_eq, beq_iff_eq] at g2 hh
          omega
      rw [if_neg hx]
      exact look_of ⟨fun y hy => hv.ok y (List.mem_cons_of_mem _ hy), hp.2, (List.pairwise_cons.1 hv.dup).2⟩ hb hn hh
theorem mem_names {c : Int} {l : List Bd} {n : ByteArray} : n ∈ namesB c l ↔ ∃ b ∈ l, b.name = n ∧ holdsB b.frm b.to c = true := by
  unfold namesB
  simp only [List.mem_map, List.mem_filter]
  constructor
  · rintro ⟨b, ⟨h1, h2⟩, e⟩; exact ⟨b, h1, e, h2⟩
  · rintro ⟨b, h1, e, h2⟩; exact ⟨b, ⟨h1, h2⟩, e⟩
theorem list_same {l x : List Bd} {c d : Int} (hs : Sm l x c) (hd : d < c) : listP d x = listP d l := by
  obtain ⟨h1, h2⟩ := listP_spec d x
  obtain ⟨g1, g2⟩ := listP_spec d l
  refine asc_ext h1 g1 fun n => ?_
  rw [h2, g2, mem_names, mem_names]
  constructor
  · rintro ⟨y, hy, e, hh⟩
    obtain ⟨b, hb, e1, _, h3⟩ := hs.bw y hy d hd hh
    exact ⟨b, hb, e1.trans e, h3⟩
  · rintro ⟨y, hy, e, hh⟩
    obtain ⟨b, hb, e1, _, h3⟩ := hs.fw y hy d hd hh
    exact ⟨b, hb, e1.trans e, h3⟩
theorem look_same {l x : List Bd} {c d : Int} {n : ByteArray} (hl : VB l) (hx : VB x) (hs : Sm l x c) (hd : d < c) (hn : n ∈ listP d l) : ∃ o, lookB n d l = (o, true) ∧ lookB n d x = (o, true) := by
  rw [(listP_spec d l).2, mem_names] at hn
  obtain ⟨b, hb, e, hh⟩ := hn
  obtain ⟨y, hy, e1, e2, h3⟩ := hs.fw b hb d hd hh
  exact ⟨b.obj, look_of hl hb e hh, by rw [← e2]; exact look_of hx hy (e1.trans e) h3⟩
theorem prune_VB {l : List Bd} {p : List Pn} (h : VB l) : VB (pruneB p l) :=
  ⟨fun b hb => h.ok b (List.mem_filter.1 hb).1, h.asc.sublist List.filter_sublist, h.dup.sublist List.filter_sublist⟩
/-- Pruning changes nothing at a commit at which everything that holds is kept. -/
theorem prune_list {l : List Bd} {p : List Pn} {d : Int} (hk : ∀ b ∈ l, holdsB b.frm b.to d = true → keepB p b = true) : listP d (pruneB p l) = listP d l := by
  obtain ⟨h1, h2⟩ := listP_spec d (pruneB p l)
  obtain ⟨g1, g2⟩ := listP_spec d l
  refine asc_ext h1 g1 fun n => ?_
  rw [h2, g2, mem_names, mem_names]
  constructor
  · rintro ⟨y, hy, e, hh⟩
    exact ⟨y, (List.mem_filter.1 hy).1, e, hh⟩
  · rintro ⟨y, hy, e, hh⟩
    exact ⟨y, List.mem_filter.2 ⟨hy, hk y hy hh⟩, e, hh⟩
theorem prune_look {l : List Bd} {p : List Pn} {d : Int} {n : ByteArray} (hl : VB l) (hk : ∀ b ∈ l, holdsB b.frm b.to d = true → keepB p b = true) (hn : n ∈ listP d l) : ∃ o, lookB n d l = (o, true) ∧ lookB n d (pruneB p l) = (o, true) := by
  rw [(listP_spec d l).2, mem_names] at hn
  obtain ⟨b, hb, e, hh⟩ := hn
  exact ⟨b.obj, look_of hl hb e hh, look_of (prune_VB hl) (List.mem_filter.2 ⟨hb, hk b hb hh⟩) e hh⟩
theorem keep_now {l : List Bd} {p : List Pn} {c o : Int} (h : MI l c o) : ∀ b ∈ l, holdsB b.frm b.to c = true → keepB p b = true := by
  intro b hb hh
  have := h.lt b hb
  simp only [holdsB, Bool.and_eq_true, Bool.or_eq_true, decide_eq_true_eq, beq_iff_eq] at hh
  unfold keepB
  rw [beq_iff_eq.2 (by omega), Bool.true_or]
theorem keep_pin {l : List Bd} {d k : Int} : ∀ b ∈ l, holdsB b.frm b.to d = true → keepB [⟨d, k⟩] b = true := by
  intro b hb hh
  simp only [holdsB, Bool.and_eq_true, Bool.or_eq_true, decide_eq_true_eq, beq_iff_eq] at hh
  unfold keepB
  rw [coversP, if_pos hh, Bool.or_true]
end Go.Proofs.Ytpopgpjojbngcaa
