/- Ranks: what the settling keeps (plain). -/
import Derived.Test.YtnckgbmifigadaaZRkI
set_option linter.unusedSimpArgs false
set_option linter.unusedVariables false
namespace Go.Proofs.Ytnckgbmifigadaa
open Go.RowKit Go.Avm
theorem sortK_mem {l : List ByteArray} {x : ByteArray} : x ∈ sortK l ↔ x ∈ l := (sortK_perm l).mem_iff
theorem addH_mem {P : ByteArray → Prop} {u : List ByteArray} {ls : List (List ByteArray)} (hu : ∀ x ∈ u, P x) (hl : ∀ l ∈ ls, ∀ x ∈ l, P x) : ∀ l ∈ addH u ls, ∀ x ∈ l, P x := by
  cases ls with
  | nil => intro l h x hx; simp only [addH, List.mem_singleton] at h; subst h; exact hu x hx
  | cons y r =>
    intro l h x hx
    simp only [addH] at h
    rcases List.mem_cons.1 h with rfl | h
    · rcases List.mem_append.1 hx with hx | hx
      · exact hl y (List.mem_cons_self ..) x hx
      · exact hu x hx
    · exact hl l (List.mem_cons_of_mem _ h) x hx
/-- What a property of keys, of the levels' length, of their number becomes by the settling. -/
theorem setS_inv {P : ByteArray → Prop} {size : Int} {c : List Int} (h2 : 2 ≤ size) : ∀ (n i : Nat) (sl a : Int) (ls : List (List ByteArray)), keysN ls ≤ n → (∀ l ∈ ls, ∀ x ∈ l, P x) → wtL i ls ≤ 1099511627776 →
    (∀ l ∈ (setS size c i sl a ls).1, (l.length : Int) < size ∧ l.Pairwise leK ∧ ∀ x ∈ l, P x) ∧ wtL i (setS size c i sl a ls).1 = wtL i ls ∧ i + (setS size c i sl a ls).1.length ≤ max (i + ls.length) 41
  | n, i, sl, a, [], _, _, _ => by rw [setS_nil]; exact ⟨by simp, rfl, by simp; omega⟩
  | 0, i, sl, a, l :: ls, hn, _, _ => by simp only [keysN] at hn; omega
  | n + 1, i, sl, a, l :: ls, hn, hP, hw => by
    simp only [keysN] at hn
    by_cases hf : (l.length : Int) < size
    · rw [setS_keep hf]
      have ih := setS_inv (P := P) (c := c) h2 n (i + 1) sl a ls (by omega) (fun y hy => hP y (List.mem_cons_of_mem _ hy)) (Int.le_trans (wtL_tail i l ls) hw)
      refine ⟨fun y hy => ?_, ?_, ?_⟩
      · rcases List.mem_cons.1 hy with rfl | hy
        · exact ⟨by rw [sortK_len]; exact hf, sortK_sorted l, fun x hx => hP l (List.mem_cons_self ..) x (sortK_mem.1 hx)⟩
        · exact ih.1 y hy
      · simp only [wtL, sortK_len]; rw [ih.2.1]
      · have := ih.2.2
        simp only [List.length_cons]; omega
    · have hi := wt_two hw (by omega)
      have hb := bitN c a
      rw [setS_full (by omega) h2]
      have hup := upK_len (sortK l) hb
      have hsl := sortK_len l
      have hwf := wt_full l i hb ls
      have h0 : 0 ≤ ((stayK (sortK l)).length : Int) * 2 ^ i := Int.mul_nonneg (by omega) (by have := two_pos i; omega)
      have hk := keysN_addH (evK (lowK (sortK l)) (bitR c a).toNat) ls
      have ih := setS_inv (P := P) (c := c) h2 n (i + 1) (sumT sl (2 ^ i)).1 (a + 1) (addH (evK (lowK (sortK l)) (bitR c a).toNat) ls) (by omega)
        (addH_mem (fun x hx => hP l (List.mem_cons_self ..) x (sortK_mem.1 (List.mem_of_mem_take (evK_mem _ _ _ (Nat.le_refl _) x hx)))) (fun y hy => hP y (List.mem_cons_of_mem _ hy))) (by omega)
      refine ⟨fun y hy => ?_, ?_, ?_⟩
      · rcases List.mem_cons.1 hy with rfl | hy
        · refine ⟨by rw [stayK_len]; omega, ?_, fun x hx => hP l (List.mem_cons_self ..) x (sortK_mem.1 (List.mem_of_mem_drop hx))⟩
          exact (sortK_sorted l).sublist (List.drop_sublist _ _)
        · exact ih.1 y hy
      · simp only [wtL]; rw [ih.2.1]
        simp only [wtL] at hwf; omega
      · have := ih.2.2
        rw [addH_len] at this
        simp only [List.length_cons]; omega
/-- A summary of bounded form. -/
structure SmR (r : Rk) : Prop where
  tot : 0 ≤ r.total ∧ r.total ≤ 1099511627776
  len : r.levels.length ≤ 60
  lev : ∀ l ∈ r.levels, l.length ≤ 100 ∧ ∀ x ∈ l, x.size ≤ 1000000000
theorem SmR.h1 {r : Rk} (h : SmR r) : r.levels.length ≤ 1000 := by have := h.len; omega
theorem SmR.h2 {r : Rk} (h : SmR r) : ∀ l ∈ r.levels, l.length ≤ 100000 ∧ ∀ x ∈ l, x.size ≤ 1000000000 := fun l hl => ⟨by have := (h.lev l hl).1; omega, (h.lev l hl).2⟩
theorem addL_mem {P : ByteArray → Prop} {n : Nat} {u : List ByteArray} {ls : List (List ByteArray)} (hu : ∀ x ∈ u, P x) (hl : ∀ l ∈ ls, ∀ x ∈ l, P x) : ∀ l ∈ addL ls n u, ∀ x ∈ l, P x := by
  intro l h x hx
  obtain ⟨y, hy⟩ := get_lt (show n < (padL ls (n + 1)).length by rw [padL_len]; omega)
  have hp : ∀ z ∈ padL ls (n + 1), ∀ x ∈ z, P x := by
    intro z hz x hx
    rcases List.mem_append.1 hz with hz | hz
    · exact hl z hz x hx
    · rw [(List.mem_replicate.1 hz).2] at hx; cases hx
  rw [addL_at hy] at h
  rcases List.mem_or_eq_of_mem_set h with h | h
  · exact hp l h x hx
  · subst h
    rcases List.mem_append.1 hx with hx | hx
    · exact hp y (List.mem_of_getElem? hy) x hx
    · exact hu x hx
theorem putK_mem {P : ByteArray → Prop} {k : ByteArray} (hk : P k) : ∀ (ps : List Nat) {ls : List (List ByteArray)}, (∀ l ∈ ls, ∀ x ∈ l, P x) → ∀ l ∈ putK k ps ls, ∀ x ∈ l, P x
  | [], ls, h => h
  | p :: ps, ls, h => by
    rw [putK_cons]
    exact putK_mem hk ps (addL_mem (fun x hx => by rw [List.mem_singleton.1 hx]; exact hk) h)
theorem trimK_mem {F : List (List ByteArray)} {l : List ByteArray} (h : l ∈ trimK F) : l ∈ F := by rw [← (trimK_len F).2] at h; exact List.mem_of_mem_take h
theorem zeroR_small : SmR zeroR := ⟨by decide, by decide, by intro l h; cases h⟩
theorem insR_small {r : Rk} {k : ByteArray} {w a : Int} {c : List Int} (h : SmR r) (hk : k.size ≤ 1000000000) : SmR (insR r k w c a).1 := by
  rcases insR_cases r k w c a with ⟨_, e⟩ | ⟨_, _, e⟩ | ⟨_, _, _, e⟩ | ⟨_, _, _, _, e⟩ | ⟨h1, h2, _, h4, e⟩
  · rw [e]; exact zeroR_small
  · rw [e]; exact zeroR_small
  · rw [e]; exact zeroR_small
  · rw [e]; exact ⟨h.tot, h.len, h.lev⟩
  · rw [e]
    have ok := validR_ok h1
    have hi := itemE_okR h2
    have hW : w.toNat < 2 ^ 33 := by omega
    have hps := powS_lt 33 w.toNat 0 hW
    have hw : wtL 0 (putK k (powS w.toNat 0) r.levels) ≤ 1099511627776 := by
      rw [wtL_putK k 33 w.toNat 0 r.levels hW, ok.wt]; simp; omega
    have hs := setS_inv (P := fun x => x.size ≤ 1000000000) (size := r.size) (c := c) ok.s1 _ 0 r.slack a (putK k (powS w.toNat 0) r.levels) (Nat.le_refl _) (putK_mem hk _ (fun l hl => (h.lev l hl).2)) hw
    have hln := putK_len (k := k) (powS w.toNat 0) r.levels (fun p hp => by have := hps p hp; omega) ok.len
    have htl := (trimK_len (setS r.size c 0 r.slack a (putK k (powS w.toNat 0) r.levels)).1).1
    have ht := ok.t1
    refine ⟨⟨by simp only; omega, by simp only; omega⟩, ?_, fun l hl => ?_⟩
    · simp only [settleK]
      have := hs.2.2
      omega
    · have := hs.1 l (trimK_mem hl)
      have s2 := ok.s2
      exact ⟨by omega, this.2.2⟩
end Go.Proofs.Ytnckgbmifigadaa
