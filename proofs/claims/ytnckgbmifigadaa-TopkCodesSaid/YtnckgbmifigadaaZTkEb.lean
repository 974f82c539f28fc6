/- Topk: what Decode of the program and of the reference compute, and that they agree and read back what was written (plain). -/
import Derived.Test.YtnckgbmifigadaaZTkEa
set_option linter.unusedSimpArgs false
set_option linter.unusedVariables false
namespace Go.Proofs.Ytnckgbmifigadaa
open Go.RowKit Go.Avm
def entsPT : Nat → List Int × Bool → List En → (List Int × Bool) × List En
  | 0, s, l => (s, l)
  | n + 1, s, l => if s.2 = true then (s, l) else entsPT n (numP (numP (txtP s).2).2).2 (l ++ [⟨(txtP s).1, (numP (txtP s).2).1, (numP (numP (txtP s).2).2).1⟩])
def entsRT (b : List Int) : Nat → Int × Bool → List En → (Int × Bool) × List En
  | 0, s, l => (s, l)
  | n + 1, s, l => if s.2 = true then (s, l) else entsRT b n (numR b 1099511627776 (numR b 1099511627776 (txtR b s).2).2).2 (l ++ [⟨(txtR b s).1, (numR b 1099511627776 (txtR b s).2).1, (numR b 1099511627776 (numR b 1099511627776 (txtR b s).2).2).1⟩])
def rawRT (b : List Int) : (Int × Bool) × Tk :=
  let a1 := numR b 32 (0, false); let a2 := numR b 1099511627776 a1.2; let a4 := numR b 1 a2.2; let a5 := numR b 32 a4.2
  let z := entsRT b a5.1.toNat a5.2 []
  (z.1, ⟨a1.1, a2.1, z.2, decide (a4.1 = 1)⟩)
def decRT (b : List Int) : Tk × Int := if ((rawRT b).1.2 = false ∧ (rawRT b).1.1 = b.length) ∧ validT (rawRT b).2 = 0 then ((rawRT b).2, 0) else (zeroT, 2)
def encT (f : Tk) : List Int := encTB f.size.toNat f.total.toNat f.ents f.sat
def rawPT (b : List Int) : Bool × Tk :=
  let a1 := numP (b, false); let a2 := numP a1.2; let a4 := numP a2.2; let a5 := numP a4.2
  let z := entsPT (min a5.1 32).toNat a5.2 []
  (z.1.2, ⟨a1.1, a2.1, z.2, decide (a4.1 = 1)⟩)
def decPT (b : List Int) : Tk × Int := if (rawPT b).1 = false ∧ validT (rawPT b).2 = 0 ∧ encT (rawPT b).2 = b then ((rawPT b).2, 0) else (zeroT, 2)
theorem entsT_bytes : ∀ {l : List En}, (∀ x ∈ l, RtE x) → BytesL (entsT l)
  | [], _ => fun z hz => by cases hz
  | x :: l, h => by
    have hx := h x (List.mem_cons_self ..)
    have hk := keyOk_sizeT hx.1
    have hr := hx.2
    exact (textB_bytes (by omega)).append ((uintB_bytes (by omega)).append ((uintB_bytes (by omega)).append (entsT_bytes fun y hy => h y (List.mem_cons_of_mem _ hy))))
theorem entsT_len : ∀ {l : List En}, (∀ x ∈ l, RtE x) → (entsT l).length ≤ 60 * l.length
  | [], _ => by simp [entsT]
  | x :: l, h => by
    have hx := h x (List.mem_cons_self ..)
    have hk := keyOk_sizeT hx.1
    have hr := hx.2
    have h1 := entsT_len (l := l) fun y hy => h y (List.mem_cons_of_mem _ hy)
    have h2 := uintB_len (n := x.key.size) (by omega)
    have h3 := uintB_len (n := x.count.toNat) (by omega)
    have h4 := uintB_len (n := x.err.toNat) (by omega)
    simp only [entsT, textB, List.length_append, bytesB_len, List.length_cons]; omega
theorem encTB_bytes {S T : Nat} {l : List En} {sat : Bool} (hz : validT ⟨S, T, l, sat⟩ = 0) : BytesL (encTB S T l sat) := by
  obtain ⟨⟨o1, o2⟩, ⟨o3, o4⟩, o5, ok⟩ := validT_iff.1 hz
  simp only at ok o1 o2 o3 o4 o5
  refine BytesL.append ?_ (entsT_bytes ok.range)
  have h0 : BytesL [] := fun z hz => by cases hz
  exact (uintB_bytes (by omega)).append ((uintB_bytes (by omega)).append ((uintB_bytes (by split <;> omega)).append ((uintB_bytes (by omega)).append h0)))
theorem natT {f : Tk} (hz : validT f = 0) : ∃ S T : Nat, f = ⟨S, T, f.ents, f.sat⟩ ∧ S ≤ 32 ∧ T ≤ 1099511627776 ∧ f.ents.length ≤ S ∧ (∀ x ∈ f.ents, RtE x) := by
  obtain ⟨s, t, l, sat⟩ := f
  obtain ⟨⟨o1, o2⟩, ⟨o3, o4⟩, o5, ok⟩ := validT_iff.1 hz
  simp only at ok o1 o2 o3 o4 o5
  obtain ⟨S, rfl⟩ := Int.eq_ofNat_of_zero_le (show 0 ≤ s by omega)
  obtain ⟨T, rfl⟩ := Int.eq_ofNat_of_zero_le (show 0 ≤ t by omega)
  exact ⟨S, T, rfl, by omega, by omega, by simp only; omega, ok.range⟩
theorem encT_len {f : Tk} (hz : validT f = 0) : (encT f).length ≤ 2000 := by
  obtain ⟨S, T, e, h1, h2, h3, h4⟩ := natT hz
  rw [e]
  have h5 := entsT_len h4
  have h6 := headT_len (S := S) (T := T) (n := f.ents.length) (sat := f.sat) (by omega) (by omega) (by omega)
  simp only [encT, encTB, List.length_append, Int.toNat_natCast]; omega
theorem encT_bytes {f : Tk} (hz : validT f = 0) : BytesL (encT f) := by
  obtain ⟨S, T, e, h1, h2, h3, h4⟩ := natT hz
  have hz2 := hz
  rw [e] at hz2 ⊢
  exact encTB_bytes hz2
theorem entsRT_back {b : List Int} (hb : BytesL b) : ∀ (n : Nat) (s : Int × Bool) (l : List En), 0 ≤ s.1 → (entsRT b n s l).1.2 = false → s.2 = false ∧ ∃ l', (entsRT b n s l).2 = l ++ l' ∧ l'.length = n ∧ s.1 ≤ (entsRT b n s l).1.1 ∧ b.drop s.1.toNat = entsT l' ++ b.drop (entsRT b n s l).1.1.toNat
  | 0, s, l, h0, h => ⟨h, [], by simp [entsRT], rfl, by simp [entsRT], by simp [entsRT, entsT]⟩
  | n + 1, s, l, h0, h => by
    rw [entsRT] at h ⊢
    by_cases hs : s.2 = true
    · rw [if_pos hs] at h; rw [hs] at h; cases h
    · rw [if_neg hs] at h ⊢
      have hs' : s.2 = false := by simpa using hs
      have ha1 : 0 ≤ (txtR b s).2.1 := by
        unfold txtR
        have := rdT_range (hb.drop s.1.toNat)
        split <;> simp only <;> omega
      have hn : ∀ s : Int × Bool, 0 ≤ s.1 → 0 ≤ (numR b 1099511627776 s).2.1 := fun s h => by
        unfold numR
        have := rdU_range (hb.drop s.1.toNat)
        split <;> simp only <;> omega
      have ha2 := hn _ ha1
      have ha3 := hn _ ha2
      obtain ⟨h1, l', e1, e2, e3, e4⟩ := entsRT_back hb n _ _ ha3 h
      obtain ⟨k1, k2, k3, k4, k5⟩ := numR_back hb ha2 h1
      obtain ⟨g1, g2, g3, g4, g5⟩ := numR_back hb ha1 k1
      obtain ⟨f1, f2, f3⟩ := txtR_back hb h0 g1
      refine ⟨hs', ⟨(txtR b s).1, (numR b 1099511627776 (txtR b s).2).1, (numR b 1099511627776 (numR b 1099511627776 (txtR b s).2).2).1⟩ :: l', by rw [e1]; simp, by simp [e2], by omega, ?_⟩
      rw [f3, g5, k5, e4, entsT]
      simp only [List.append_assoc]
theorem entsPT_fwd : ∀ (l : List En) (r : List Int) (acc : List En), (∀ x ∈ l, RtE x) → entsPT l.length (entsT l ++ r, false) acc = ((r, false), acc ++ l)
  | [], r, acc, _ => by simp [entsPT, entsT]
  | x :: l, r, acc, h => by
    have hx := h x (List.mem_cons_self ..)
    have hk := keyOk_sizeT hx.1
    have hr := hx.2
    obtain ⟨k, c, e⟩ := x
    simp only at hr hk
    obtain ⟨C, rfl⟩ := Int.eq_ofNat_of_zero_le (show 0 ≤ c by omega)
    obtain ⟨E, rfl⟩ := Int.eq_ofNat_of_zero_le (show 0 ≤ e by omega)
    rw [List.length_cons, entsPT, if_neg (by simp), entsT, List.append_assoc, txtP_fwd (by simp only; omega)]
    simp only [Int.toNat_natCast, List.append_assoc]
    rw [numP_fwd (by omega)]
    simp only
    rw [numP_fwd (by omega)]
    simp only
    rw [entsPT_fwd l r _ (fun y hy => h y (List.mem_cons_of_mem _ hy))]
    simp
theorem entsRT_fwd {b : List Int} : ∀ (l : List En) (a : Int) (r : List Int) (acc : List En), (∀ x ∈ l, RtE x) → 0 ≤ a → b.drop a.toNat = entsT l ++ r → ∃ a', entsRT b l.length (a, false) acc = ((a', false), acc ++ l) ∧ 0 ≤ a' ∧ b.drop a'.toNat = r
  | [], a, r, acc, _, h0, hb => ⟨a, by simp [entsRT], h0, hb⟩
  | x :: l, a, r, acc, h, h0, hb => by
    have hx := h x (List.mem_cons_self ..)
    have hk := keyOk_sizeT hx.1
    have hr := hx.2
    obtain ⟨k, c, e⟩ := x
    simp only at hr hk
    obtain ⟨C, rfl⟩ := Int.eq_ofNat_of_zero_le (show 0 ≤ c by omega)
    obtain ⟨E, rfl⟩ := Int.eq_ofNat_of_zero_le (show 0 ≤ e by omega)
    rw [entsT, List.append_assoc] at hb
    simp only [Int.toNat_natCast, List.append_assoc] at hb
    obtain ⟨a1, e1, p1, d1⟩ := txtR_fwd (by omega) h0 hb
    obtain ⟨a2, e2, p2, d2⟩ := numR_fwd (m := 1099511627776) (by omega) (by omega) p1 d1
    obtain ⟨a4, e4, p4, d4⟩ := numR_fwd (m := 1099511627776) (by omega) (by omega) p2 d2
    obtain ⟨a3, e3, p3, d3⟩ := entsRT_fwd l a4 r (acc ++ [⟨k, C, E⟩]) (fun y hy => h y (List.mem_cons_of_mem _ hy)) p4 d4
    refine ⟨a3, ?_, p3, d3⟩
    rw [List.length_cons, entsRT, if_neg (by simp), e1]
    simp only [e2, e4]
    rw [e3]
    simp
theorem entsRT_le {b : List Int} (hb : BytesL b) : ∀ (n : Nat) (s : Int × Bool) (l : List En), 0 ≤ s.1 ∧ s.1 ≤ b.length → (entsRT b n s l).1.1 ≤ b.length
  | 0, s, l, h => h.2
  | n + 1, s, l, h => by
    rw [entsRT]
    split
    · exact h.2
    · exact entsRT_le hb n _ _ (numR_ok (most := 1099511627776) hb (numR_ok (most := 1099511627776) hb (txtR_ok hb h).1 (by omega)).1 (by omega)).1
theorem encT_split (S T : Nat) (l : List En) (sat : Bool) : encTB S T l sat = uintB S ++ (uintB T ++ (uintB (if sat then 1 else 0) ++ (uintB l.length ++ (entsT l ++ [])))) := by
  simp [encTB, headT, numsB]
theorem rawPT_fwd {f : Tk} (hz : validT f = 0) : rawPT (encT f) = (false, f) := by
  obtain ⟨S, T, e, h1, h2, h3, h4⟩ := natT hz
  obtain ⟨s, t, l, sat⟩ := f
  simp only [Tk.mk.injEq, true_and, and_true] at e
  obtain ⟨rfl, rfl⟩ := e
  simp only at h3 h4
  simp only [encT, Int.toNat_natCast, encT_split, rawPT]
  simp (disch := first | omega | (split <;> omega)) only [numP_fwd]
  rw [show (min ((l.length : Nat) : Int) 32).toNat = l.length by omega, entsPT_fwd l [] [] h4]
  simp only [List.nil_append, sat_if]
theorem rawRT_fwd {f : Tk} (hz : validT f = 0) : ∃ a, rawRT (encT f) = ((a, false), f) ∧ a = ((encT f).length : Int) := by
  have hb := encT_bytes hz
  obtain ⟨S, T, e, h1, h2, h3, h4⟩ := natT hz
  obtain ⟨s, t, l, sat⟩ := f
  simp only [Tk.mk.injEq, true_and, and_true] at e
  obtain ⟨rfl, rfl⟩ := e
  simp only at h3 h4
  have he := encT_split S T l sat
  have hef : encT ⟨S, T, l, sat⟩ = encTB S T l sat := rfl
  rw [hef] at hb ⊢
  generalize encTB S T l sat = b at *
  have hfl : (if sat then 1 else 0 : Nat) ≤ 1 := by split <;> omega
  obtain ⟨a1, e1, p1, d1⟩ := numR_fwd (b := b) (m := 32) (a := 0) (by omega) (by omega) (by omega) he
  obtain ⟨a2, e2, p2, d2⟩ := numR_fwd (m := 1099511627776) (by omega) (by omega) p1 d1
  obtain ⟨a4, e4, p4, d4⟩ := numR_fwd (m := 1) (by omega) (by omega) p2 d2
  obtain ⟨a5, e5, p5, d5⟩ := numR_fwd (m := 32) (by omega) (by omega) p4 d4
  obtain ⟨a6, e6, p6, d6⟩ := entsRT_fwd l a5 [] [] h4 p5 d5
  have hlen := congrArg List.length d6
  rw [List.length_drop] at hlen
  have hle : a6 ≤ b.length := by
    have q1 := numR_ok (most := 32) hb (s := (0, false)) ⟨by simp, by simp⟩ (by omega)
    rw [e1] at q1
    have q2 := numR_ok (most := 1099511627776) hb q1.1 (by omega)
    rw [e2] at q2
    have q4 := numR_ok (most := 1) hb q2.1 (by omega)
    rw [e4] at q4
    have q5 := numR_ok (most := 32) hb q4.1 (by omega)
    rw [e5] at q5
    have := entsRT_le hb l.length (a5, false) [] q5.1
    rw [e6] at this
    exact this
  refine ⟨a6, ?_, by simp only [List.length_nil] at hlen; omega⟩
  simp only [rawRT, e1, e2, e4, e5, Int.toNat_natCast, e6, List.nil_append, sat_if]
theorem rawRT_back {b : List Int} (hb : BytesL b) (h : (rawRT b).1.2 = false) (hl : (rawRT b).1.1 = b.length) : encT (rawRT b).2 = b := by
  simp only [rawRT] at h hl ⊢
  have q1 := numR_ok (most := 32) hb (s := (0, false)) ⟨by simp, by simp⟩ (by omega)
  obtain ⟨n1, a1, k1, e1⟩ : ∃ n a k, numR b 32 (0, false) = (n, a, k) := ⟨_, _, _, rfl⟩
  rw [e1] at q1 h hl ⊢
  have q2 := numR_ok (most := 1099511627776) hb q1.1 (by omega)
  obtain ⟨n2, a2, k2, e2⟩ : ∃ n a k, numR b 1099511627776 (a1, k1) = (n, a, k) := ⟨_, _, _, rfl⟩
  rw [e2] at q2 h hl ⊢
  have q4 := numR_ok (most := 1) hb q2.1 (by omega)
  obtain ⟨n4, a4, k4, e4⟩ : ∃ n a k, numR b 1 (a2, k2) = (n, a, k) := ⟨_, _, _, rfl⟩
  rw [e4] at q4 h hl ⊢
  have q5 := numR_ok (most := 32) hb q4.1 (by omega)
  obtain ⟨n5, a5, k5, e5⟩ : ∃ n a k, numR b 32 (a4, k4) = (n, a, k) := ⟨_, _, _, rfl⟩
  rw [e5] at q5 h hl ⊢
  simp only at h hl q1 q2 q4 q5 ⊢
  obtain ⟨f6, l', g1, g2, g3, g4⟩ := entsRT_back hb _ _ _ (by simp only; omega) h
  have r5 := numR_back (b := b) (m := 32) (s := (a4, k4)) hb (by simp only; omega) (by rw [e5]; exact f6)
  rw [e5] at r5
  have r4 := numR_back (b := b) (m := 1) (s := (a2, k2)) hb (by simp only; omega) (by rw [e4]; exact r5.1)
  rw [e4] at r4
  have r2 := numR_back (b := b) (m := 1099511627776) (s := (a1, k1)) hb (by simp only; omega) (by rw [e2]; exact r4.1)
  rw [e2] at r2
  have r1 := numR_back (b := b) (m := 32) (s := (0, false)) hb (by simp only; omega) (by rw [e1]; exact r2.1)
  rw [e1] at r1
  simp only [Int.toNat_zero, List.drop_zero] at r1 r2 r4 r5 g4
  rw [hl, Int.toNat_natCast, List.drop_length] at g4
  rw [g1, List.nil_append, encT]
  simp only
  rw [encT_split, g2]
  have hn4 : (if decide (n4 = 1) = true then 1 else 0 : Nat) = n4.toNat := by
    by_cases h1 : n4 = 1
    · simp [h1]
    · simp [h1]; omega
  rw [hn4]
  rw [← g4, ← r5.2.2.2.2, ← r4.2.2.2.2, ← r2.2.2.2.2, ← r1.2.2.2.2]
theorem decPT_enc {f : Tk} (hz : validT f = 0) : decPT (encT f) = (f, 0) := by
  unfold decPT
  rw [rawPT_fwd hz, if_pos ⟨rfl, hz, rfl⟩]
theorem decT_eq {b : List Int} (hb : BytesL b) : decRT b = decPT b := by
  by_cases h : ∃ f, validT f = 0 ∧ encT f = b
  · obtain ⟨f, hz, rfl⟩ := h
    rw [decPT_enc hz]
    obtain ⟨a, ha, hl⟩ := rawRT_fwd hz
    unfold decRT
    rw [ha, if_pos ⟨⟨rfl, hl⟩, hz⟩]
  · unfold decRT decPT
    rw [if_neg, if_neg]
    · intro hc; exact h ⟨_, hc.2⟩
    · intro hc; exact h ⟨_, hc.2, rawRT_back hb hc.1.1 hc.1.2⟩
theorem decPT_len (b : List Int) : (decPT b).1.ents.length ≤ 100000 := by
  unfold decPT
  split
  · rename_i h
    have := validT_iff.1 h.2.1
    simp only; omega
  · simp [zeroT]
end Go.Proofs.Ytnckgbmifigadaa
