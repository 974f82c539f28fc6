/- Frequent: Decode of the program and of the reference agree on any bytes, and read back what was written (plain). -/
import Derived.Test.YtpopgpjojbngcaaFrDc
set_option linter.unusedSimpArgs false
set_option linter.unusedVariables false
namespace Go.Proofs.Ytpopgpjojbngcaa
open Go.RowKit Go.Avm
theorem numR_back {b : List Int} {m : Int} {s : Int × Bool} (hb : BytesL b) (h0 : 0 ≤ s.1) (h : (numR b m s).2.2 = false) : s.2 = false ∧ 0 ≤ (numR b m s).1 ∧ (numR b m s).1 ≤ m ∧ s.1 ≤ (numR b m s).2.1 ∧ b.drop s.1.toNat = uintB (numR b m s).1.toNat ++ b.drop (numR b m s).2.1.toNat := by
  unfold numR at h ⊢
  split
  · rename_i hc; rw [if_pos hc] at h; simp at h
  · rename_i hc
    simp only [not_or, Decidable.not_not, Bool.not_eq_true] at hc
    obtain ⟨r1, r2, r3, r4, r5⟩ := rdU_range (hb.drop s.1.toNat)
    have hk := rdU_ok (hb.drop s.1.toNat) hc.2.1
    refine ⟨hc.1, r1, by simp only; omega, by simp only; omega, ?_⟩
    rw [List.drop_drop] at hk
    simp only
    rw [show (s.1 + (rdU (b.drop s.1.toNat)).2.1).toNat = s.1.toNat + (rdU (b.drop s.1.toNat)).2.1.toNat by omega]
    exact hk
theorem txtR_back {b : List Int} {s : Int × Bool} (hb : BytesL b) (h0 : 0 ≤ s.1) (h : (txtR b s).2.2 = false) : s.2 = false ∧ s.1 ≤ (txtR b s).2.1 ∧ b.drop s.1.toNat = textB (txtR b s).1 ++ b.drop (txtR b s).2.1.toNat := by
  unfold txtR at h ⊢
  split
  · rename_i hc; rw [if_pos hc] at h; simp at h
  · rename_i hc
    simp only [not_or, Decidable.not_not, Bool.not_eq_true] at hc
    obtain ⟨r1, r2, r3⟩ := rdT_range (hb.drop s.1.toNat)
    have hk := (rdT_ok (hb.drop s.1.toNat) hc.2).1
    refine ⟨hc.1, by simp only; omega, ?_⟩
    rw [List.drop_drop] at hk
    simp only
    rw [show (s.1 + (rdT (b.drop s.1.toNat)).2.1).toNat = s.1.toNat + (rdT (b.drop s.1.toNat)).2.1.toNat by omega]
    exact hk
theorem entsR_back {b : List Int} (hb : BytesL b) : ∀ (n : Nat) (s : Int × Bool) (l : List En), 0 ≤ s.1 → (entsR b n s l).1.2 = false → s.2 = false ∧ ∃ l', (entsR b n s l).2 = l ++ l' ∧ l'.length = n ∧ s.1 ≤ (entsR b n s l).1.1 ∧ b.drop s.1.toNat = entsB l' ++ b.drop (entsR b n s l).1.1.toNat
  | 0, s, l, h0, h => ⟨h, [], by simp [entsR], rfl, by simp [entsR], by simp [entsR, entsB]⟩
  | n + 1, s, l, h0, h => by
    rw [entsR] at h ⊢
    by_cases hs : s.2 = true
    · rw [if_pos hs] at h; rw [hs] at h; cases h
    · rw [if_neg hs] at h ⊢
      have hs' : s.2 = false := by simpa using hs
      have ha1 : 0 ≤ (txtR b s).2.1 := by
        unfold txtR
        have := rdT_range (hb.drop s.1.toNat)
        split <;> simp only <;> omega
      have ha2 : 0 ≤ (numR b 1099511627776 (txtR b s).2).2.1 := by
        unfold numR
        have := rdU_range (hb.drop (txtR b s).2.1.toNat)
        split <;> simp only <;> omega
      obtain ⟨h1, l', e1, e2, e3, e4⟩ := entsR_back hb n _ _ ha2 h
      obtain ⟨g1, g2, g3, g4, g5⟩ := numR_back hb ha1 h1
      obtain ⟨f1, f2, f3⟩ := txtR_back hb h0 g1
      refine ⟨hs', ⟨(txtR b s).1, (numR b 1099511627776 (txtR b s).2).1, 0⟩ :: l', by rw [e1]; simp, by simp [e2], by omega, ?_⟩
      rw [f3, g5, e4, entsB]
      simp only [List.append_assoc]
theorem numP_fwd {n : Nat} (hn : n ≤ 4611686018427387904) (r : List Int) : numP (uintB n ++ r, false) = ((n : Int), r, false) := by
  unfold numP
  rw [rdU_enc hn, if_neg (by simp)]
  simp
theorem txtP_fwd {s : ByteArray} (hs : s.size ≤ 65536) (r : List Int) : txtP (textB s ++ r, false) = (s, r, false) := by
  unfold txtP
  rw [rdT_enc hs, if_neg (by simp)]
  simp
theorem entsP_fwd : ∀ (l : List En) (r : List Int) (acc : List En), (∀ x ∈ l, keyOk x.key = true ∧ 1 ≤ x.count ∧ x.count ≤ 1099511627776 ∧ x.err = 0) → entsP l.length (entsB l ++ r, false) acc = ((r, false), acc ++ l)
  | [], r, acc, _ => by simp [entsP, entsB]
  | x :: l, r, acc, h => by
    have hx := h x (List.mem_cons_self ..)
    have hk := keyOk_size hx.1
    obtain ⟨k, c, e⟩ := x
    simp only at hx hk
    obtain ⟨C, rfl⟩ := Int.eq_ofNat_of_zero_le (show 0 ≤ c by omega)
    rw [List.length_cons, entsP, if_neg (by simp), entsB, List.append_assoc, txtP_fwd (by simp only; omega)]
    simp only [Int.toNat_natCast, List.append_assoc]
    rw [numP_fwd (by omega)]
    simp only
    rw [entsP_fwd l r _ (fun y hy => h y (List.mem_cons_of_mem _ hy))]
    simp [hx.2.2.2]
theorem numR_fwd {b : List Int} {m a : Int} {n : Nat} {r : List Int} (hn : n ≤ 4611686018427387904) (hm : (n : Int) ≤ m) (h0 : 0 ≤ a) (hb : b.drop a.toNat = uintB n ++ r) : ∃ a', numR b m (a, false) = ((n : Int), a', false) ∧ 0 ≤ a' ∧ b.drop a'.toNat = r := by
  refine ⟨a + ((uintB n).length : Nat), ?_, by omega, ?_⟩
  · unfold numR
    simp only
    rw [hb, rdU_enc hn, if_neg (by simp; omega)]
  · rw [show (a + ((uintB n).length : Nat)).toNat = a.toNat + (uintB n).length by omega, ← List.drop_drop, hb, List.drop_left]
theorem txtR_fwd {b : List Int} {a : Int} {s : ByteArray} {r : List Int} (hs : s.size ≤ 65536) (h0 : 0 ≤ a) (hb : b.drop a.toNat = textB s ++ r) : ∃ a', txtR b (a, false) = (s, a', false) ∧ 0 ≤ a' ∧ b.drop a'.toNat = r := by
  refine ⟨a + ((textB s).length : Nat), ?_, by omega, ?_⟩
  · unfold txtR
    simp only
    rw [hb, rdT_enc hs, if_neg (by simp)]
  · rw [show (a + ((textB s).length : Nat)).toNat = a.toNat + (textB s).length by omega, ← List.drop_drop, hb, List.drop_left]
theorem entsR_fwd {b : List Int} : ∀ (l : List En) (a : Int) (r : List Int) (acc : List En), (∀ x ∈ l, keyOk x.key = true ∧ 1 ≤ x.count ∧ x.count ≤ 1099511627776 ∧ x.err = 0) → 0 ≤ a → b.drop a.toNat = entsB l ++ r → ∃ a', entsR b l.length (a, false) acc = ((a', false), acc ++ l) ∧ 0 ≤ a' ∧ b.drop a'.toNat = r
  | [], a, r, acc, _, h0, hb => ⟨a, by simp [entsR], h0, hb⟩
  | x :: l, a, r, acc, h, h0, hb => by
    have hx := h x (List.mem_cons_self ..)
    have hk := keyOk_size hx.1
    obtain ⟨k, c, e⟩ := x
    simp only at hx hk
    obtain ⟨C, rfl⟩ := Int.eq_ofNat_of_zero_le (show 0 ≤ c by omega)
    rw [entsB, List.append_assoc] at hb
    simp only [Int.toNat_natCast, List.append_assoc] at hb
    obtain ⟨a1, e1, p1, d1⟩ := txtR_fwd (by omega) h0 hb
    obtain ⟨a2, e2, p2, d2⟩ := numR_fwd (m := 1099511627776) (by omega) hx.2.2.1 p1 d1
    obtain ⟨a3, e3, p3, d3⟩ := entsR_fwd l a2 r (acc ++ [⟨k, C, 0⟩]) (fun y hy => h y (List.mem_cons_of_mem _ hy)) p2 d2
    refine ⟨a3, ?_, p3, d3⟩
    rw [List.length_cons, entsR, if_neg (by simp), e1, e2]
    simp only
    rw [e3]
    simp [hx.2.2.2]
theorem entsR_le {b : List Int} (hb : BytesL b) : ∀ (n : Nat) (s : Int × Bool) (l : List En), 0 ≤ s.1 ∧ s.1 ≤ b.length → (entsR b n s l).1.1 ≤ b.length
  | 0, s, l, h => h.2
  | n + 1, s, l, h => by
    rw [entsR]
    split
    · exact h.2
    · exact entsR_le hb n _ _ (numR_ok (most := 1099511627776) hb (txtR_ok hb h).1 (by omega)).1
theorem encF_split (S T LO : Nat) (l : List En) (sat : Bool) : encB S T LO l sat = uintB S ++ (uintB T ++ (uintB LO ++ (uintB (if sat then 1 else 0) ++ (uintB l.length ++ (entsB l ++ []))))) := by
  simp [encB, headB, numsB]
theorem sat_if (sat : Bool) : decide (((if sat then 1 else 0 : Nat) : Int) = 1) = sat := by cases sat <;> rfl
theorem rawP_fwd {f : Fq} (hz : validF f = 0) : rawP (encF f) = (false, f) := by
  obtain ⟨s, t, lo, l, sat⟩ := f
  obtain ⟨ok, o1, o2, o3, o4, o5, o6, o7⟩ := validF_ok hz
  simp only at ok o1 o2 o3 o4 o5 o6 o7
  obtain ⟨S, rfl⟩ := Int.eq_ofNat_of_zero_le (show 0 ≤ s by omega)
  obtain ⟨T, rfl⟩ := Int.eq_ofNat_of_zero_le (show 0 ≤ t by omega)
  obtain ⟨L, rfl⟩ := Int.eq_ofNat_of_zero_le (show 0 ≤ lo by omega)
  simp only [encF, Int.toNat_natCast, encF_split, rawP]
  simp (disch := first | omega | (split <;> omega)) only [numP_fwd]
  rw [show (min ((l.length : Nat) : Int) 32).toNat = l.length by omega, entsP_fwd l [] [] ok.range]
  simp only [List.nil_append, sat_if]
theorem rawR_fwd {f : Fq} (hz : validF f = 0) : ∃ a, rawR (encF f) = ((a, false), f) ∧ a = ((encF f).length : Int) := by
  obtain ⟨s, t, lo, l, sat⟩ := f
  obtain ⟨ok, o1, o2, o3, o4, o5, o6, o7⟩ := validF_ok hz
  simp only at ok o1 o2 o3 o4 o5 o6 o7
  obtain ⟨S, rfl⟩ := Int.eq_ofNat_of_zero_le (show 0 ≤ s by omega)
  obtain ⟨T, rfl⟩ := Int.eq_ofNat_of_zero_le (show 0 ≤ t by omega)
  obtain ⟨L, rfl⟩ := Int.eq_ofNat_of_zero_le (show 0 ≤ lo by omega)
  have he := encF_split S T L l sat
  have hef : encF ⟨S, T, L, l, sat⟩ = encB S T L l sat := rfl
  rw [hef]
  generalize encB S T L l sat = b at *
  have hfl : (if sat then 1 else 0 : Nat) ≤ 1 := by split <;> omega
  obtain ⟨a1, e1, p1, d1⟩ := numR_fwd (b := b) (m := 32) (a := 0) (by omega) (by omega) (by omega) he
  obtain ⟨a2, e2, p2, d2⟩ := numR_fwd (m := 1099511627776) (by omega) (by omega) p1 d1
  obtain ⟨a3, e3, p3, d3⟩ := numR_fwd (m := 1099511627776) (by omega) (by omega) p2 d2
  obtain ⟨a4, e4, p4, d4⟩ := numR_fwd (m := 1) (by omega) (by omega) p3 d3
  obtain ⟨a5, e5, p5, d5⟩ := numR_fwd (m := 32) (by omega) (by omega) p4 d4
  obtain ⟨a6, e6, p6, d6⟩ := entsR_fwd l a5 [] [] ok.range p5 d5
  have hb : BytesL b := by rw [← hef, encF]; exact encB_bytes hz
  have hlen := congrArg List.length d6
  rw [List.length_drop] at hlen
  have hle : a6 ≤ b.length := by
    have q1 := numR_ok (most := 32) hb (s := (0, false)) ⟨by simp, by simp⟩ (by omega)
    rw [e1] at q1
    have q2 := numR_ok (most := 1099511627776) hb q1.1 (by omega)
    rw [e2] at q2
    have q3 := numR_ok (most := 1099511627776) hb q2.1 (by omega)
    rw [e3] at q3
    have q4 := numR_ok (most := 1) hb q3.1 (by omega)
    rw [e4] at q4
    have q5 := numR_ok (most := 32) hb q4.1 (by omega)
    rw [e5] at q5
    have := entsR_le hb l.length (a5, false) [] q5.1
    rw [e6] at this
    exact this
  refine ⟨a6, ?_, by simp only [List.length_nil] at hlen; omega⟩
  simp only [rawR, e1, e2, e3, e4, e5, Int.toNat_natCast, e6, List.nil_append, sat_if]
theorem rawR_back {b : List Int} (hb : BytesL b) (h : (rawR b).1.2 = false) (hl : (rawR b).1.1 = b.length) : encF (rawR b).2 = b := by
  simp only [rawR] at h hl ⊢
  have q1 := numR_ok (most := 32) hb (s := (0, false)) ⟨by simp, by simp⟩ (by omega)
  obtain ⟨n1, a1, k1, e1⟩ : ∃ n a k, numR b 32 (0, false) = (n, a, k) := ⟨_, _, _, rfl⟩
  rw [e1] at q1 h hl ⊢
  have q2 := numR_ok (most := 1099511627776) hb q1.1 (by omega)
  obtain ⟨n2, a2, k2, e2⟩ : ∃ n a k, numR b 1099511627776 (a1, k1) = (n, a, k) := ⟨_, _, _, rfl⟩
  rw [e2] at q2 h hl ⊢
  have q3 := numR_ok (most := 1099511627776) hb q2.1 (by omega)
  obtain ⟨n3, a3, k3, e3⟩ : ∃ n a k, numR b 1099511627776 (a2, k2) = (n, a, k) := ⟨_, _, _, rfl⟩
  rw [e3] at q3 h hl ⊢
  have q4 := numR_ok (most := 1) hb q3.1 (by omega)
  obtain ⟨n4, a4, k4, e4⟩ : ∃ n a k, numR b 1 (a3, k3) = (n, a, k) := ⟨_, _, _, rfl⟩
  rw [e4] at q4 h hl ⊢
  have q5 := numR_ok (most := 32) hb q4.1 (by omega)
  obtain ⟨n5, a5, k5, e5⟩ : ∃ n a k, numR b 32 (a4, k4) = (n, a, k) := ⟨_, _, _, rfl⟩
  rw [e5] at q5 h hl ⊢
  simp only at h hl q1 q2 q3 q4 q5 ⊢
  obtain ⟨f6, l', g1, g2, g3, g4⟩ := entsR_back hb _ _ _ (by simp only; omega) h
  have r5 := numR_back (b := b) (m := 32) (s := (a4, k4)) hb (by simp only; omega) (by rw [e5]; exact f6)
  rw [e5] at r5
  have r4 := numR_back (b := b) (m := 1) (s := (a3, k3)) hb (by simp only; omega) (by rw [e4]; exact r5.1)
  rw [e4] at r4
  have r3 := numR_back (b := b) (m := 1099511627776) (s := (a2, k2)) hb (by simp only; omega) (by rw [e3]; exact r4.1)
  rw [e3] at r3
  have r2 := numR_back (b := b) (m := 1099511627776) (s := (a1, k1)) hb (by simp only; omega) (by rw [e2]; exact r3.1)
  rw [e2] at r2
  have r1 := numR_back (b := b) (m := 32) (s := (0, false)) hb (by simp only; omega) (by rw [e1]; exact r2.1)
  rw [e1] at r1
  simp only [Int.toNat_zero, List.drop_zero] at r1 r2 r3 r4 r5 g4
  rw [hl, Int.toNat_natCast, List.drop_length] at g4
  rw [g1, List.nil_append, encF]
  simp only
  rw [encF_split, g2]
  have hn4 : (if decide (n4 = 1) = true then 1 else 0 : Nat) = n4.toNat := by
    by_cases h1 : n4 = 1
    · simp [h1]
    · simp [h1]; omega
  rw [hn4]
  rw [← g4, ← r5.2.2.2.2, ← r4.2.2.2.2, ← r3.2.2.2.2, ← r2.2.2.2.2, ← r1.2.2.2.2]
theorem decP_enc {f : Fq} (hz : validF f = 0) : decP (encF f) = (f, 0) := by
  unfold decP
  rw [rawP_fwd hz, if_pos ⟨rfl, hz, rfl⟩]
theorem dec_eq {b : List Int} (hb : BytesL b) : decR b = decP b := by
  by_cases h : ∃ f, validF f = 0 ∧ encF f = b
  · obtain ⟨f, hz, rfl⟩ := h
    rw [decP_enc hz]
    obtain ⟨a, ha, hl⟩ := rawR_fwd hz
    unfold decR
    rw [ha, if_pos ⟨⟨rfl, hl⟩, hz⟩]
  · unfold decR decP
    rw [if_neg, if_neg]
    · intro hc; exact h ⟨_, hc.2⟩
    · intro hc; exact h ⟨_, hc.2, rawR_back hb hc.1.1 hc.1.2⟩
end Go.Proofs.Ytpopgpjojbngcaa
