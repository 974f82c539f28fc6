/- Bytes read as numbers and strings (plain lemmas): reading is exact against writing. -/
import Derived.Test.YtnckgbmifigadaaZWs
set_option linter.unusedSimpArgs false
set_option linter.unusedVariables false
namespace Go.Proofs.Ytnckgbmifigadaa
open Go.RowKit Go.Avm
def BytesL (b : List Int) : Prop := ∀ z ∈ b, 0 ≤ z ∧ z ≤ 255
def valA : Int → List Int → Int
  | x, [] => x
  | x, c :: l => valA (x * 256 + c) l
def rdU (b : List Int) : Int × Int × Int :=
  if b.length = 0 then (0, 0, 3) else if b[0]?.getD 0 < 248 then (b[0]?.getD 0, 1, 0) else if (b.length : Int) < b[0]?.getD 0 - 246 then (0, 0, 3) else
  if b[1]?.getD 0 = 0 ∨ valA 0 ((b.drop 1).take (b[0]?.getD 0 - 247).toNat) < 248 ∨ 4611686018427387904 < valA 0 ((b.drop 1).take (b[0]?.getD 0 - 247).toNat) then (0, 0, 2) else (valA 0 ((b.drop 1).take (b[0]?.getD 0 - 247).toNat), b[0]?.getD 0 - 246, 0)
def rdT (b : List Int) : ByteArray × Int × Int :=
  if (rdU b).2.2 ≠ 0 then (.empty, 0, (rdU b).2.2) else if 65536 < (rdU b).1 then (.empty, 0, 2) else if (b.length : Int) - (rdU b).2.1 < (rdU b).1 then (.empty, 0, 3) else
  (strOfNums ((b.drop (rdU b).2.1.toNat).take (rdU b).1.toNat), (rdU b).2.1 + (rdU b).1, 0)
theorem BytesL.drop {b : List Int} (h : BytesL b) (n : Nat) : BytesL (b.drop n) := fun z hz => h z (List.mem_of_mem_drop hz)
theorem BytesL.take {b : List Int} (h : BytesL b) (n : Nat) : BytesL (b.take n) := fun z hz => h z (List.mem_of_mem_take hz)
theorem valA_snoc : ∀ (l : List Int) (x c : Int), valA x (l ++ [c]) = valA x l * 256 + c
  | [], _, _ => rfl
  | _ :: l, _, _ => valA_snoc l _ _
theorem valA_be : ∀ (n : Nat), valA 0 (be n) = n := fun n => by
  induction n using Nat.strongRecOn with
  | ind n ih =>
    by_cases h : n = 0
    · subst h; rw [be_zero]; rfl
    · rw [be_step h, valA_snoc, ih (n / 256) (by omega)]; omega
theorem be_head : ∀ (n : Nat), n ≠ 0 → ∃ c l, be n = c :: l ∧ c ≠ 0 := fun n => by
  induction n using Nat.strongRecOn with
  | ind n ih =>
    intro h
    rw [be_step h]
    by_cases h1 : n / 256 = 0
    · rw [h1, be_zero]; exact ⟨_, _, rfl, by omega⟩
    · obtain ⟨c, l, e, hc⟩ := ih (n / 256) (by omega) h1
      rw [e]; exact ⟨c, _, rfl, hc⟩
theorem be_bytes : ∀ (n : Nat), BytesL (be n) := fun n => by
  induction n using Nat.strongRecOn with
  | ind n ih =>
    by_cases h : n = 0
    · subst h; rw [be_zero]; intro z hz; cases hz
    · rw [be_step h]
      intro z hz
      rcases List.mem_append.1 hz with hz | hz
      · exact ih _ (by omega) z hz
      · simp only [List.mem_singleton] at hz; omega
theorem valA_nonneg : ∀ {l : List Int} {x : Int}, 0 ≤ x → BytesL l → 0 ≤ valA x l
  | [], _, h, _ => h
  | c :: l, x, h, hb => valA_nonneg (l := l) (by have := hb c (List.mem_cons_self ..); omega) (fun z hz => hb z (List.mem_cons_of_mem _ hz))
theorem valA_lt : ∀ {l : List Int}, BytesL l → valA 0 l < ((256 ^ l.length : Nat) : Int) := by
  intro l
  induction hn : l.length generalizing l with
  | zero => intro _; obtain rfl := List.eq_nil_of_length_eq_zero hn; decide
  | succ n ih =>
    intro hb
    rcases List.eq_nil_or_concat l with rfl | ⟨l', c, rfl⟩
    · simp at hn
    · simp only [List.concat_eq_append] at hb hn ⊢
      have h1 := ih (l := l') (by simpa using hn) (fun z hz => hb z (List.mem_append_left _ hz))
      have h2 := hb c (by simp)
      rw [valA_snoc, Nat.pow_succ]
      omega
theorem be_valA : ∀ {l : List Int}, BytesL l → l[0]? ≠ some 0 → be (valA 0 l).toNat = l := by
  intro l
  induction hn : l.length generalizing l with
  | zero => intro _ _; obtain rfl := List.eq_nil_of_length_eq_zero hn; exact be_zero
  | succ n ih =>
    intro hb h0
    rcases List.eq_nil_or_concat l with rfl | ⟨l', c, rfl⟩
    · simp at hn
    · simp only [List.concat_eq_append] at hb hn h0 ⊢
      have hb' : BytesL l' := fun z hz => hb z (List.mem_append_left _ hz)
      have h2 := hb c (by simp)
      have hv := valA_nonneg (Int.le_refl 0) hb'
      have hpos : (valA 0 (l' ++ [c])).toNat ≠ 0 := by
        rw [valA_snoc]
        rcases l' with _ | ⟨d, l'⟩
        · simp only [List.nil_append, List.getElem?_cons_zero, ne_eq, Option.some.injEq] at h0
          simp only [valA]; omega
        · have h1 := ih (l := d :: l') (by simpa using hn) hb' (by simpa using h0)
          intro e
          have : (valA 0 (d :: l')).toNat = 0 := by omega
          rw [this, be_zero] at h1; cases h1
      rw [be_step hpos, valA_snoc]
      have e1 : (valA 0 l' * 256 + c).toNat / 256 = (valA 0 l').toNat := by omega
      have e2 : (((valA 0 l' * 256 + c).toNat % 256 : Nat) : Int) = c := by omega
      rw [e1, e2]
      rcases l' with _ | ⟨d, l'⟩
      · simp [valA, be_zero]
      · rw [ih (l := d :: l') (by simpa using hn) hb' (by simpa using h0)]
theorem rdU_enc {n : Nat} (hn : n ≤ 4611686018427387904) (r : List Int) : rdU (uintB n ++ r) = ((n : Int), (((uintB n).length : Nat) : Int), (0 : Int)) := by
  by_cases h : n < 248
  · have e : uintB n = [(n : Int)] := if_pos h
    rw [e]
    simp only [rdU, List.cons_append, List.nil_append, List.length_cons, List.getElem?_cons_zero, Option.getD_some, List.length_nil]
    rw [if_neg (by omega), if_pos (by omega)]
    rfl
  · have e : uintB n = ((247 + (be n).length : Nat) : Int) :: be n := if_neg h
    have h8 := be_le 8 n (Nat.lt_of_le_of_lt hn (by decide))
    obtain ⟨c, l, ec, hc⟩ := be_head n (by omega)
    have hv := valA_be n
    rw [e]
    simp only [rdU, List.cons_append, List.length_cons, List.getElem?_cons_zero, Option.getD_some, List.drop_succ_cons, List.drop_zero, List.length_append]
    have et : ((((247 + (be n).length : Nat) : Int)) - 247).toNat = (be n).length := by omega
    have hl1 : 1 ≤ (be n).length := by rw [ec]; simp
    rw [if_neg (by omega), if_neg (by omega), if_neg (by omega), et, List.take_left, hv, if_neg]
    · refine Prod.ext rfl (Prod.ext ?_ rfl); simp only; omega
    · intro hh
      rcases hh with hh | hh | hh
      · rw [ec] at hh; simp only [List.cons_append, List.getElem?_cons_succ, List.getElem?_cons_zero, Option.getD_some] at hh; exact hc hh
      · omega
      · omega
theorem rdU_range {b : List Int} (hb : BytesL b) : 0 ≤ (rdU b).1 ∧ (rdU b).1 ≤ 4611686018427387904 ∧ 0 ≤ (rdU b).2.1 ∧ (rdU b).2.1 ≤ b.length ∧ (rdU b).2.1 ≤ 9 := by
  unfold rdU
  split
  · simp
  · rename_i h0
    obtain ⟨c, l, rfl⟩ : ∃ c l, b = c :: l := by cases b with | nil => exact absurd rfl h0 | cons c l => exact ⟨c, l, rfl⟩
    have hc := hb c (List.mem_cons_self ..)
    simp only [List.getElem?_cons_zero, Option.getD_some, List.length_cons]
    split
    · simp only; omega
    · split
      · simp only; omega
      · split
        · simp only; omega
        · rename_i h1 h2 h3
          have := valA_nonneg (Int.le_refl 0) (((hb.drop 1).take (c - 247).toNat))
          simp only; omega
theorem rdU_ok {b : List Int} (hb : BytesL b) (h : (rdU b).2.2 = 0) : b = uintB (rdU b).1.toNat ++ b.drop (rdU b).2.1.toNat := by
  unfold rdU at h ⊢
  by_cases h0 : b.length = 0
  · rw [if_pos h0] at h; simp at h
  rw [if_neg h0] at h ⊢
  obtain ⟨c, l, rfl⟩ : ∃ c l, b = c :: l := by cases b with | nil => exact absurd rfl h0 | cons c l => exact ⟨c, l, rfl⟩
  have hc := hb c (List.mem_cons_self ..)
  simp only [List.getElem?_cons_zero, Option.getD_some, List.length_cons, List.drop_succ_cons, List.drop_zero] at h ⊢
  by_cases h1 : c < 248
  · rw [if_pos h1]
    have e : uintB c.toNat = [((c.toNat : Nat) : Int)] := if_pos (by omega)
    simp only [e, Int.toNat_one, List.drop_succ_cons, List.drop_zero]
    rw [Int.toNat_of_nonneg hc.1]; rfl
  rw [if_neg h1] at h ⊢
  by_cases h2 : ((l.length + 1 : Nat) : Int) < c - 246
  · rw [if_pos h2] at h; simp at h
  rw [if_neg h2] at h ⊢
  by_cases h3 : (c :: l)[1]?.getD 0 = 0 ∨ valA 0 (l.take (c - 247).toNat) < 248 ∨ 4611686018427387904 < valA 0 (l.take (c - 247).toNat)
  · rw [if_pos h3] at h; simp at h
  rw [if_neg h3]
  have hbl : BytesL (l.take (c - 247).toNat) := fun z hz => hb z (List.mem_cons_of_mem _ (List.mem_of_mem_take hz))
  have hv := be_valA hbl (by
    intro e
    apply h3; left
    have hk : 0 < (c - 247).toNat := by omega
    rw [List.getElem?_take_of_lt hk] at e
    simp [e])
  have hlen := congrArg List.length hv
  rw [List.length_take, Nat.min_eq_left (by omega)] at hlen
  have hge : ¬ (valA 0 (l.take (c - 247).toNat)).toNat < 248 := by omega
  have e : uintB (valA 0 (l.take (c - 247).toNat)).toNat = _ := if_neg hge
  have hl2 : (l.take (c - 247).toNat).length = (c - 247).toNat := by rw [List.length_take]; omega
  simp only [e, hv, hl2]
  have e1 : (c - 246).toNat = (c - 247).toNat + 1 := by omega
  have e2 : (((247 + (c - 247).toNat : Nat)) : Int) = c := by omega
  rw [e1, e2, List.drop_succ_cons, List.cons_append, List.take_append_drop]
theorem strOfNums_bytes (s : ByteArray) : strOfNums (bytesB s) = s := by
  have : (strOfNums (bytesB s)).data.toList = s.data.toList := by
    rw [strOfNums_data, bytesB, List.map_map]
    conv => rhs; rw [← List.map_id s.data.toList]
    apply List.map_congr_left
    intro x _
    simp
  cases s with | mk d =>
    have h2 : (strOfNums (bytesB ⟨d⟩)).data = d := by rw [← Array.toList_inj]; exact this
    generalize strOfNums (bytesB ⟨d⟩) = t at h2
    cases t with | mk d' => simp only at h2; rw [h2]
theorem bytesB_str {l : List Int} (h : BytesL l) : bytesB (strOfNums l) = l := by
  rw [bytesB, strOfNums_data, List.map_map]
  conv => rhs; rw [← List.map_id l]
  apply List.map_congr_left
  intro x hx
  have := h x hx
  simp only [Function.comp, id]
  rw [UInt8.toNat_ofNat']
  omega
theorem rdT_enc {s : ByteArray} (hs : s.size ≤ 65536) (r : List Int) : rdT (textB s ++ r) = (s, (((textB s).length : Nat) : Int), (0 : Int)) := by
  have hu := rdU_enc (n := s.size) (by omega) (bytesB s ++ r)
  rw [← List.append_assoc] at hu
  change rdU (textB s ++ r) = _ at hu
  have hl := bytesB_len s
  have ht : (textB s).length = (uintB s.size).length + s.size := by simp only [textB, List.length_append, hl]
  simp only [rdT, hu]
  rw [if_neg (by simp), if_neg (by omega), if_neg (by rw [List.length_append]; omega)]
  refine Prod.ext ?_ (Prod.ext (by simp only; omega) rfl)
  simp only [Int.toNat_natCast]
  rw [textB, List.append_assoc, List.drop_left, ← hl, List.take_left, strOfNums_bytes]
theorem rdT_ok {b : List Int} (hb : BytesL b) (h : (rdT b).2.2 = 0) : b = textB (rdT b).1 ++ b.drop (rdT b).2.1.toNat ∧ (rdT b).1.size ≤ 65536 := by
  unfold rdT at h ⊢
  by_cases h1 : (rdU b).2.2 ≠ 0
  · rw [if_pos h1] at h; exact absurd h h1
  rw [if_neg h1] at h ⊢
  by_cases h2 : 65536 < (rdU b).1
  · rw [if_pos h2] at h; simp at h
  rw [if_neg h2] at h ⊢
  by_cases h3 : (b.length : Int) - (rdU b).2.1 < (rdU b).1
  · rw [if_pos h3] at h; simp at h
  rw [if_neg h3]
  have hu := rdU_ok hb (by omega)
  obtain ⟨r1, r2, r3, r4, _⟩ := rdU_range hb
  have hl : ((b.drop (rdU b).2.1.toNat).take (rdU b).1.toNat).length = (rdU b).1.toNat := by
    rw [List.length_take, List.length_drop]; omega
  refine ⟨?_, by simp only; rw [strOfNums_size, hl]; omega⟩
  simp only
  rw [textB, strOfNums_size, hl, bytesB_str ((hb.drop _).take _), List.append_assoc]
  have e : ((rdU b).2.1 + (rdU b).1).toNat = (rdU b).2.1.toNat + (rdU b).1.toNat := by omega
  rw [e, ← List.drop_drop, List.take_append_drop]
  exact hu
theorem rdT_range {b : List Int} (hb : BytesL b) : 0 ≤ (rdT b).2.1 ∧ (rdT b).2.1 ≤ b.length ∧ (rdT b).1.size ≤ 65536 := by
  obtain ⟨r1, r2, r3, r4, _⟩ := rdU_range hb
  unfold rdT
  split
  · simp
  · split
    · simp
    · split
      · simp
      · simp only [strOfNums_size, List.length_take, List.length_drop]; omega
end Go.Proofs.Ytnckgbmifigadaa
