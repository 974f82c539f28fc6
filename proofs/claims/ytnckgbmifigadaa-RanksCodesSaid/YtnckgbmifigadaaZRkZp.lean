/- Ranks: what is written of a summary, and what Decode of the program and of the reference compute; they agree and read back what was written (plain). -/
import Derived.Test.YtnckgbmifigadaaZRkT
import Derived.Test.YtnckgbmifigadaaZRd
set_option linter.unusedSimpArgs false
set_option linter.unusedVariables false
namespace Go.Proofs.Ytnckgbmifigadaa
open Go.RowKit Go.Avm
def keysB : List ByteArray → List Int
  | [] => []
  | x :: l => textB x ++ keysB l
def levsB : List (List ByteArray) → List Int
  | [] => []
  | l :: ls => uintB l.length ++ (keysB l ++ levsB ls)
def headR (S T L : Nat) (sat : Bool) (n : Nat) : List Int := numsB [S, T, L, if sat then 1 else 0, n]
def encRB (S T L : Nat) (ls : List (List ByteArray)) (sat : Bool) : List Int := headR S T L sat ls.length ++ levsB ls
theorem headR_len {S T L n : Nat} {sat : Bool} (h1 : S ≤ 4611686018427387904) (h2 : T ≤ 4611686018427387904) (h3 : L ≤ 4611686018427387904) (h4 : n ≤ 4611686018427387904) : (headR S T L sat n).length ≤ 45 := by
  have a1 := uintB_len h1; have a2 := uintB_len h2; have a3 := uintB_len h3; have a4 := uintB_len h4
  have a5 := uintB_len (n := if sat then 1 else 0) (by split <;> omega)
  simp only [headR, numsB, List.length_append, List.length_nil]; omega
def keysP : Nat → List Int × Bool → List ByteArray → (List Int × Bool) × List ByteArray
  | 0, s, l => (s, l)
  | n + 1, s, l => if s.2 = true then (s, l) else keysP n (txtP s).2 (l ++ [(txtP s).1])
def levsP : Nat → List Int × Bool → List (List ByteArray) → (List Int × Bool) × List (List ByteArray)
  | 0, s, l => (s, l)
  | n + 1, s, l => if s.2 = true then (s, l) else levsP n (keysP (numP s).1.toNat (numP s).2 []).1 (l ++ [(keysP (numP s).1.toNat (numP s).2 []).2])
def keysQ (b : List Int) : Nat → Int × Bool → List ByteArray → (Int × Bool) × List ByteArray
  | 0, s, l => (s, l)
  | n + 1, s, l => if s.2 = true then (s, l) else keysQ b n (txtR b s).2 (l ++ [(txtR b s).1])
def levsQ (b : List Int) : Nat → Int × Bool → List (List ByteArray) → (Int × Bool) × List (List ByteArray)
  | 0, s, l => (s, l)
  | n + 1, s, l => if s.2 = true then (s, l) else levsQ b n (keysQ b (numR b 32 s).1.toNat (numR b 32 s).2 []).1 (l ++ [(keysQ b (numR b 32 s).1.toNat (numR b 32 s).2 []).2])
def rawRR (b : List Int) : (Int × Bool) × Rk :=
  let a1 := numR b 32 (0, false); let a2 := numR b 1099511627776 a1.2; let a3 := numR b 1099511627776 a2.2; let a4 := numR b 1 a3.2; let a5 := numR b 41 a4.2
  let z := levsQ b a5.1.toNat a5.2 []
  (z.1, ⟨a1.1, a2.1, a3.1, z.2, decide (a4.1 = 1)⟩)
def decRR (b : List Int) : Rk × Int := if ((rawRR b).1.2 = false ∧ (rawRR b).1.1 = b.length) ∧ validR (rawRR b).2 = 0 then ((rawRR b).2, 0) else (zeroR, 2)
def encR (f : Rk) : List Int := encRB f.size.toNat f.total.toNat f.slack.toNat f.levels f.sat
def rawPR (b : List Int) : Bool × Rk :=
  let a1 := numP (b, false); let a2 := numP a1.2; let a3 := numP a2.2; let a4 := numP a3.2; let a5 := numP a4.2
  let z := levsP (min a5.1 41).toNat a5.2 []
  (z.1.2, ⟨a1.1, a2.1, a3.1, z.2, decide (a4.1 = 1)⟩)
def decPR (b : List Int) : Rk × Int := if (rawPR b).1 = false ∧ validR (rawPR b).2 = 0 ∧ encR (rawPR b).2 = b then ((rawPR b).2, 0) else (zeroR, 2)
def KeysOk (l : List ByteArray) : Prop := l.length ≤ 31 ∧ ∀ x ∈ l, 1 ≤ x.size ∧ x.size ≤ 32
theorem keysB_bytes : ∀ {l : List ByteArray}, (∀ x ∈ l, 1 ≤ x.size ∧ x.size ≤ 32) → BytesL (keysB l)
  | [], _ => fun z hz => by cases hz
  | x :: l, h => by
    have hx := h x (List.mem_cons_self ..)
    exact (textB_bytes (by omega)).append (keysB_bytes fun y hy => h y (List.mem_cons_of_mem _ hy))
theorem keysB_len : ∀ {l : List ByteArray}, (∀ x ∈ l, 1 ≤ x.size ∧ x.size ≤ 32) → (keysB l).length ≤ 50 * l.length
  | [], _ => by simp [keysB]
  | x :: l, h => by
    have hx := h x (List.mem_cons_self ..)
    have h1 := keysB_len (l := l) fun y hy => h y (List.mem_cons_of_mem _ hy)
    have h2 := uintB_len (n := x.size) (by omega)
    simp only [keysB, textB, List.length_append, bytesB_len, List.length_cons]; omega
theorem levsB_bytes : ∀ {ls : List (List ByteArray)}, (∀ l ∈ ls, KeysOk l) → BytesL (levsB ls)
  | [], _ => fun z hz => by cases hz
  | l :: ls, h => by
    have hx := h l (List.mem_cons_self ..)
    have := hx.1
    exact (uintB_bytes (by omega)).append ((keysB_bytes hx.2).append (levsB_bytes fun y hy => h y (List.mem_cons_of_mem _ hy)))
theorem levsB_len : ∀ {ls : List (List ByteArray)}, (∀ l ∈ ls, KeysOk l) → (levsB ls).length ≤ 1600 * ls.length
  | [], _ => by simp [levsB]
  | l :: ls, h => by
    have hx := h l (List.mem_cons_self ..)
    have h0 := hx.1
    have h1 := levsB_len (ls := ls) fun y hy => h y (List.mem_cons_of_mem _ hy)
    have h2 := uintB_len (n := l.length) (by omega)
    have h3 := keysB_len hx.2
    simp only [levsB, List.length_append, List.length_cons]; omega
theorem natR {f : Rk} (hz : validR f = 0) : ∃ S T L : Nat, f = ⟨S, T, L, f.levels, f.sat⟩ ∧ S ≤ 32 ∧ T ≤ 1099511627776 ∧ L ≤ 1099511627776 ∧ f.levels.length ≤ 41 ∧ ∀ l ∈ f.levels, KeysOk l := by
  obtain ⟨s, t, sl, ls, sat⟩ := f
  obtain ⟨s1, s2, s3, t1, t2, l1, l2, ln, lev, lst, wt⟩ := validR_ok hz
  simp only at s1 s2 s3 t1 t2 l1 l2 ln lev lst wt
  obtain ⟨S, rfl⟩ := Int.eq_ofNat_of_zero_le (show 0 ≤ s by omega)
  obtain ⟨T, rfl⟩ := Int.eq_ofNat_of_zero_le (show 0 ≤ t by omega)
  obtain ⟨L, rfl⟩ := Int.eq_ofNat_of_zero_le (show 0 ≤ sl by omega)
  refine ⟨S, T, L, rfl, by omega, by omega, by omega, ln, fun l hl => ⟨by have := (lev l hl).1; omega, fun x hx => ?_⟩⟩
  have := badL_ok l [] (lev l hl).2 x hx
  simp only [keyOk, Bool.and_eq_true, decide_eq_true_eq] at this
  omega
theorem encR_split (S T L : Nat) (ls : List (List ByteArray)) (sat : Bool) : encRB S T L ls sat = uintB S ++ (uintB T ++ (uintB L ++ (uintB (if sat then 1 else 0) ++ (uintB ls.length ++ (levsB ls ++ []))))) := by
  simp [encRB, headR, numsB]
theorem encR_len {f : Rk} (hz : validR f = 0) : (encR f).length ≤ 80000 := by
  obtain ⟨S, T, L, e, h1, h2, h3, h4, h5⟩ := natR hz
  rw [e]
  have h6 := levsB_len h5
  have h7 := headR_len (S := S) (T := T) (L := L) (n := f.levels.length) (sat := f.sat) (by omega) (by omega) (by omega) (by omega)
  simp only [encR, encRB, List.length_append, Int.toNat_natCast]; omega
theorem encR_bytes {f : Rk} (hz : validR f = 0) : BytesL (encR f) := by
  obtain ⟨S, T, L, e, h1, h2, h3, h4, h5⟩ := natR hz
  rw [e]
  simp only [encR, Int.toNat_natCast]
  refine BytesL.append ?_ (levsB_bytes h5)
  have h0 : BytesL [] := fun z hz => by cases hz
  exact (uintB_bytes (by omega)).append ((uintB_bytes (by omega)).append ((uintB_bytes (by omega)).append ((uintB_bytes (by split <;> omega)).append ((uintB_bytes (by omega)).append h0))))
theorem txtR_nn {b : List Int} (hb : BytesL b) {s : Int × Bool} (h : 0 ≤ s.1) : 0 ≤ (txtR b s).2.1 := by
  unfold txtR
  have := rdT_range (hb.drop s.1.toNat)
  split <;> simp only <;> omega
theorem numR_nn {b : List Int} (hb : BytesL b) {m : Int} {s : Int × Bool} (h : 0 ≤ s.1) : 0 ≤ (numR b m s).2.1 := by
  unfold numR
  have := rdU_range (hb.drop s.1.toNat)
  split <;> simp only <;> omega
theorem keysQ_nn {b : List Int} (hb : BytesL b) : ∀ (n : Nat) (s : Int × Bool) (l : List ByteArray), 0 ≤ s.1 → 0 ≤ (keysQ b n s l).1.1
  | 0, s, l, h => h
  | n + 1, s, l, h => by
    rw [keysQ]
    split
    · exact h
    · exact keysQ_nn hb n _ _ (txtR_nn hb h)
theorem keysQ_back {b : List Int} (hb : BytesL b) : ∀ (n : Nat) (s : Int × Bool) (l : List ByteArray), 0 ≤ s.1 → (keysQ b n s l).1.2 = false → s.2 = false ∧ ∃ l', (keysQ b n s l).2 = l ++ l' ∧ l'.length = n ∧ b.drop s.1.toNat = keysB l' ++ b.drop (keysQ b n s l).1.1.toNat
  | 0, s, l, h0, h => ⟨h, [], by simp [keysQ], rfl, by simp [keysQ, keysB]⟩
  | n + 1, s, l, h0, h => by
    rw [keysQ] at h ⊢
    by_cases hs : s.2 = true
    · rw [if_pos hs] at h; rw [hs] at h; cases h
    · rw [if_neg hs] at h ⊢
      obtain ⟨h1, l', e1, e2, e4⟩ := keysQ_back hb n _ _ (txtR_nn hb h0) h
      obtain ⟨f1, f2, f3⟩ := txtR_back hb h0 h1
      refine ⟨by simpa using hs, (txtR b s).1 :: l', by rw [e1]; simp, by simp [e2], ?_⟩
      rw [f3, e4, keysB]
      simp only [List.append_assoc]
theorem levsQ_back {b : List Int} (hb : BytesL b) : ∀ (n : Nat) (s : Int × Bool) (l : List (List ByteArray)), 0 ≤ s.1 → (levsQ b n s l).1.2 = false → s.2 = false ∧ ∃ l', (levsQ b n s l).2 = l ++ l' ∧ l'.length = n ∧ b.drop s.1.toNat = levsB l' ++ b.drop (levsQ b n s l).1.1.toNat
  | 0, s, l, h0, h => ⟨h, [], by simp [levsQ], rfl, by simp [levsQ, levsB]⟩
  | n + 1, s, l, h0, h => by
    rw [levsQ] at h ⊢
    by_cases hs : s.2 = true
    · rw [if_pos hs] at h; rw [hs] at h; cases h
    · rw [if_neg hs] at h ⊢
      have ha1 := numR_nn hb (m := 32) h0
      obtain ⟨h1, l', e1, e2, e4⟩ := levsQ_back hb n _ _ (keysQ_nn hb _ _ _ ha1) h
      obtain ⟨k1, k', k2, k3, k4⟩ := keysQ_back hb _ _ _ ha1 h1
      obtain ⟨g1, g2, g3, g4, g5⟩ := numR_back hb h0 k1
      rw [List.nil_append] at k2
      refine ⟨by simpa using hs, k' :: l', by rw [e1, k2]; simp, by simp [e2], ?_⟩
      rw [g5, k4, e4, levsB, k3]
      simp only [List.append_assoc]
theorem keysP_fwd : ∀ (l : List ByteArray) (r : List Int) (acc : List ByteArray), (∀ x ∈ l, 1 ≤ x.size ∧ x.size ≤ 32) → keysP l.length (keysB l ++ r, false) acc = ((r, false), acc ++ l)
  | [], r, acc, _ => by simp [keysP, keysB]
  | x :: l, r, acc, h => by
    have hx := h x (List.mem_cons_self ..)
    rw [List.length_cons, keysP, if_neg (by simp), keysB, List.append_assoc, txtP_fwd (by omega)]
    simp only
    rw [keysP_fwd l r _ (fun y hy => h y (List.mem_cons_of_mem _ hy))]
    simp
theorem levsP_fwd : ∀ (l : List (List ByteArray)) (r : List Int) (acc : List (List ByteArray)), (∀ x ∈ l, KeysOk x) → levsP l.length (levsB l ++ r, false) acc = ((r, false), acc ++ l)
  | [], r, acc, _ => by simp [levsP, levsB]
  | x :: l, r, acc, h => by
    have hx := h x (List.mem_cons_self ..)
    have hx1 := hx.1
    rw [List.length_cons, levsP, if_neg (by simp), levsB, List.append_assoc, List.append_assoc, numP_fwd (by omega)]
    simp only [Int.toNat_natCast]
    rw [keysP_fwd x _ _ hx.2]
    simp only [List.nil_append]
    rw [levsP_fwd l r _ (fun y hy => h y (List.mem_cons_of_mem _ hy))]
    simp
theorem keysQ_fwd {b : List Int} : ∀ (l : List ByteArray) (a : Int) (r : List Int) (acc : List ByteArray), (∀ x ∈ l, 1 ≤ x.size ∧ x.size ≤ 32) → 0 ≤ a → b.drop a.toNat = keysB l ++ r → ∃ a', keysQ b l.length (a, false) acc = ((a', false), acc ++ l) ∧ 0 ≤ a' ∧ b.drop a'.toNat = r
  | [], a, r, acc, _, h0, hb => ⟨a, by simp [keysQ], h0, hb⟩
  | x :: l, a, r, acc, h, h0, hb => by
    have hx := h x (List.mem_cons_self ..)
    rw [keysB, List.append_assoc] at hb
    obtain ⟨a1, e1, p1, d1⟩ := txtR_fwd (by omega) h0 hb
    obtain ⟨a3, e3, p3, d3⟩ := keysQ_fwd l a1 r (acc ++ [x]) (fun y hy => h y (List.mem_cons_of_mem _ hy)) p1 d1
    refine ⟨a3, ?_, p3, d3⟩
    rw [List.length_cons, keysQ, if_neg (by simp), e1]
    simp only
    rw [e3]
    simp
theorem levsQ_fwd {b : List Int} : ∀ (l : List (List ByteArray)) (a : Int) (r : List Int) (acc : List (List ByteArray)), (∀ x ∈ l, KeysOk x) → 0 ≤ a → b.drop a.toNat = levsB l ++ r → ∃ a', levsQ b l.length (a, false) acc = ((a', false), acc ++ l) ∧ 0 ≤ a' ∧ b.drop a'.toNat = r
  | [], a, r, acc, _, h0, hb => ⟨a, by simp [levsQ], h0, hb⟩
  | x :: l, a, r, acc, h, h0, hb => by
    have hx := h x (List.mem_cons_self ..)
    have hx1 := hx.1
    rw [levsB, List.append_assoc, List.append_assoc] at hb
    obtain ⟨a1, e1, p1, d1⟩ := numR_fwd (m := 32) (by omega) (by omega) h0 hb
    obtain ⟨a2, e2, p2, d2⟩ := keysQ_fwd x a1 _ [] hx.2 p1 d1
    obtain ⟨a3, e3, p3, d3⟩ := levsQ_fwd l a2 r (acc ++ [x]) (fun y hy => h y (List.mem_cons_of_mem _ hy)) p2 d2
    refine ⟨a3, ?_, p3, d3⟩
    rw [List.length_cons, levsQ, if_neg (by simp), e1]
    simp only [Int.toNat_natCast, e2, List.nil_append]
    rw [e3]
    simp
theorem keysQ_le {b : List Int} (hb : BytesL b) : ∀ (n : Nat) (s : Int × Bool) (l : List ByteArray), 0 ≤ s.1 ∧ s.1 ≤ b.length → 0 ≤ (keysQ b n s l).1.1 ∧ (keysQ b n s l).1.1 ≤ b.length
  | 0, s, l, h => h
  | n + 1, s, l, h => by
    rw [keysQ]
    split
    · exact h
    · exact keysQ_le hb n _ _ (txtR_ok hb h).1
theorem levsQ_le {b : List Int} (hb : BytesL b) : ∀ (n : Nat) (s : Int × Bool) (l : List (List ByteArray)), 0 ≤ s.1 ∧ s.1 ≤ b.length → (levsQ b n s l).1.1 ≤ b.length
  | 0, s, l, h => h.2
  | n + 1, s, l, h => by
    rw [levsQ]
    split
    · exact h.2
    · exact levsQ_le hb n _ _ (keysQ_le hb _ _ _ (numR_ok (most := 32) hb h (by omega)).1)
theorem rawPR_fwd {f : Rk} (hz : validR f = 0) : rawPR (encR f) = (false, f) := by
  obtain ⟨S, T, L, e, h1, h2, h3, h4, h5⟩ := natR hz
  obtain ⟨s, t, sl, ls, sat⟩ := f
  simp only [Rk.mk.injEq, true_and, and_true] at e
  obtain ⟨rfl, rfl, rfl⟩ := e
  simp only at h4 h5
  simp only [encR, Int.toNat_natCast, encR_split, rawPR]
  simp (disch := first | omega | (split <;> omega)) only [numP_fwd]
  rw [show (min ((ls.length : Nat) : Int) 41).toNat = ls.length by omega, levsP_fwd ls [] [] h5]
  simp only [List.nil_append, sat_if]
theorem rawRR_fwd {f : Rk} (hz : validR f = 0) : ∃ a, rawRR (encR f) = ((a, false), f) ∧ a = ((encR f).length : Int) := by
  have hb := encR_bytes hz
  obtain ⟨S, T, L, e, h1, h2, h3, h4, h5⟩ := natR hz
  obtain ⟨s, t, sl, ls, sat⟩ := f
  simp only [Rk.mk.injEq, true_and, and_true] at e
  obtain ⟨rfl, rfl, rfl⟩ := e
  simp only at h4 h5
  have he := encR_split S T L ls sat
  have hef : encR ⟨S, T, L, ls, sat⟩ = encRB S T L ls sat := rfl
  rw [hef] at hb ⊢
  generalize encRB S T L ls sat = b at *
  have hfl : (if sat then 1 else 0 : Nat) ≤ 1 := by split <;> omega
  obtain ⟨a1, e1, p1, d1⟩ := numR_fwd (b := b) (m := 32) (a := 0) (by omega) (by omega) (by omega) he
  obtain ⟨a2, e2, p2, d2⟩ := numR_fwd (m := 1099511627776) (by omega) (by omega) p1 d1
  obtain ⟨a3, e3, p3, d3⟩ := numR_fwd (m := 1099511627776) (by omega) (by omega) p2 d2
  obtain ⟨a4, e4, p4, d4⟩ := numR_fwd (m := 1) (by omega) (by omega) p3 d3
  obtain ⟨a5, e5, p5, d5⟩ := numR_fwd (m := 41) (by omega) (by omega) p4 d4
  obtain ⟨a6, e6, p6, d6⟩ := levsQ_fwd ls a5 [] [] h5 p5 d5
  have hlen := congrArg List.length d6
  rw [List.length_drop] at hlen
  have hle : a6 ≤ b.length := by
    have q1 := numR_ok (most := 32) hb (s := (0, false)) ⟨by simp, by simp⟩ (by omega)
    rw [e1] at q1
    have q2 := numR_ok (most := 1099511627776) hb q1.1 (by omega)
    rw [e2] at q2
    have q3 := numR_ok (most := 1099511627776) hb q2.1 (by omega)
    rw [e3] at q3
    have q4 := numR_ok (most := 1) hb q3.1 (by omega)
    rw [e4] at q4
    have q5 := numR_ok (most := 41) hb q4.1 (by omega)
    rw [e5] at q5
    have := levsQ_le hb ls.length (a5, false) [] q5.1
    rw [e6] at this
    exact this
  refine ⟨a6, ?_, by simp only [List.length_nil] at hlen; omega⟩
  simp only [rawRR, e1, e2, e3, e4, e5, Int.toNat_natCast, e6, List.nil_append, sat_if]
theorem rawRR_back {b : List Int} (hb : BytesL b) (h : (rawRR b).1.2 = false) (hl : (rawRR b).1.1 = b.length) : encR (rawRR b).2 = b := by
  simp only [rawRR] at h hl ⊢
  have q1 := numR_ok (most := 32) hb (s := (0, false)) ⟨by simp, by simp⟩ (by omega)
  obtain ⟨n1, a1, k1, e1⟩ : ∃ n a k, numR b 32 (0, false) = (n, a, k) := ⟨_, _, _, rfl⟩
  rw [e1] at q1 h hl ⊢
  have q2 := numR_ok (most := 1099511627776) hb q1.1 (by omega)
  obtain ⟨n2, a2, k2, e2⟩ : ∃ n a k, numR b 1099511627776 (a1, k1) = (n, a, k) := ⟨_, _, _, rfl⟩
  rw [e2] at q2 h hl ⊢
  have q3 := numR_ok (most := 1099511627776) hb q2.1 (by omega)
  obtain ⟨n3, a3, k3, e3⟩ : ∃ n a k, numR b 1099511627776 (a2, k2) = (n, a, k) := ⟨_, _, _, rfl⟩
  rw [e3] at q3 h hl ⊢
  have q4 := numR_ok (most := 1) hb q3.1 (by omega)
  obtain ⟨n4, a4, k4, e4⟩ : ∃ n a k, numR b 1 (a3, k3) = (n, a, k) := ⟨_, _, _, rfl⟩
  rw [e4] at q4 h hl ⊢
  have q5 := numR_ok (most := 41) hb q4.1 (by omega)
  obtain ⟨n5, a5, k5, e5⟩ : ∃ n a k, numR b 41 (a4, k4) = (n, a, k) := ⟨_, _, _, rfl⟩
  rw [e5] at q5 h hl ⊢
  simp only at h hl q1 q2 q3 q4 q5 ⊢
  obtain ⟨f6, l', g1, g2, g4⟩ := levsQ_back hb _ _ _ (by simp only; omega) h
  have r5 := numR_back (b := b) (m := 41) (s := (a4, k4)) hb (by simp only; omega) (by rw [e5]; exact f6)
  rw [e5] at r5
  have r4 := numR_back (b := b) (m := 1) (s := (a3, k3)) hb (by simp only; omega) (by rw [e4]; exact r5.1)
  rw [e4] at r4
  have r3 := numR_back (b := b) (m := 1099511627776) (s := (a2, k2)) hb (by simp only; omega) (by rw [e3]; exact r4.1)
  rw [e3] at r3
  have r2 := numR_back (b := b) (m := 1099511627776) (s := (a1, k1)) hb (by simp only; omega) (by rw [e2]; exact r3.1)
  rw [e2] at r2
  have r1 := numR_back (b := b) (m := 32) (s := (0, false)) hb (by simp only; omega) (by rw [e1]; exact r2.1)
  rw [e1] at r1
  simp only [Int.toNat_zero, List.drop_zero] at r1 r2 r3 r4 r5 g4
  rw [hl, Int.toNat_natCast, List.drop_length] at g4
  rw [g1, List.nil_append, encR]
  simp only
  rw [encR_split, g2]
  have hn4 : (if decide (n4 = 1) = true then 1 else 0 : Nat) = n4.toNat := by
    by_cases h1 : n4 = 1
    · simp [h1]
    · simp [h1]; omega
  rw [hn4]
  rw [← g4, ← r5.2.2.2.2, ← r4.2.2.2.2, ← r3.2.2.2.2, ← r2.2.2.2.2, ← r1.2.2.2.2]
theorem decPR_enc {f : Rk} (hz : validR f = 0) : decPR (encR f) = (f, 0) := by
  unfold decPR
  rw [rawPR_fwd hz, if_pos ⟨rfl, hz, rfl⟩]
theorem decR_eq {b : List Int} (hb : BytesL b) : decRR b = decPR b := by
  by_cases h : ∃ f, validR f = 0 ∧ encR f = b
  · obtain ⟨f, hz, rfl⟩ := h
    rw [decPR_enc hz]
    obtain ⟨a, ha, hl⟩ := rawRR_fwd hz
    unfold decRR
    rw [ha, if_pos ⟨⟨rfl, hl⟩, hz⟩]
  · unfold decRR decPR
    rw [if_neg, if_neg]
    · intro hc; exact h ⟨_, hc.2⟩
    · intro hc; exact h ⟨_, hc.2, rawRR_back hb hc.1.1 hc.1.2⟩
theorem decPR_small (b : List Int) : (decPR b).1.levels.length ≤ 1000 ∧ ∀ l ∈ (decPR b).1.levels, l.length ≤ 100000 ∧ ∀ x ∈ l, x.size ≤ 1000000000 := by
  unfold decPR
  split
  · rename_i h
    obtain ⟨S, T, L, e, h1, h2, h3, h4, h5⟩ := natR h.2.1
    exact ⟨by simp only; omega, fun l hl => ⟨by have := (h5 l hl).1; omega, fun x hx => by have := (h5 l hl).2 x hx; omega⟩⟩
  · exact ⟨by decide, by intro l h; cases h⟩
end Go.Proofs.Ytnckgbmifigadaa
