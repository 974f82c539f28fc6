/- Frequent: what an insertion keeps (plain laws). -/
import Derived.Test.YtpopgpjojbngcaaFrF
set_option linter.unusedSimpArgs false
set_option linter.unusedVariables false
namespace Go.Proofs.Ytpopgpjojbngcaa
open Go.RowKit Go.Avm
theorem keyOk_of {k : ByteArray} (h : 1 ≤ k.size ∧ k.size ≤ 32) : keyOk k = true := by
  simp only [keyOk, Bool.and_eq_true, decide_eq_true_eq]; omega
theorem keyOk_size {k : ByteArray} (h : keyOk k = true) : 1 ≤ k.size ∧ k.size ≤ 32 := by
  simp only [keyOk, Bool.and_eq_true, decide_eq_true_eq] at h; omega
theorem itemE_of {k : ByteArray} {w : Int} (h : (1 ≤ k.size ∧ k.size ≤ 32) ∧ 1 ≤ w ∧ w ≤ 4294967295) : itemE k w = 0 := by
  unfold itemE
  rw [if_neg (by rw [keyOk_of h.1]; simp), if_neg (by omega)]
theorem OkE.valid : ∀ {l : List En} (prev : Option En), OkE l → (∀ q, prev = some q → ∀ x ∈ l, Op.bytesLess q.key.toList x.key.toList = true) → validE prev l = 0
  | [], _, _, _ => rfl
  | v :: l, prev, ok, h => by
    obtain ⟨ok', hab⟩ := ok.tail
    have hr := ok.range v (by simp)
    have ih := OkE.valid (some v) ok' (fun q e => by cases e; exact hab)
    unfold validE
    rw [if_neg (by rw [hr.1]; simp), if_neg (by omega)]
    cases prev with
    | none => exact ih
    | some q =>
      have h1 := h q rfl v (by simp)
      simp only
      rw [if_neg (by intro e; rcases e with e | e; · rw [bl_asymm h1] at e; cases e
                     · exact bl_ne h1 e.symm)]
      exact ih
theorem OkE.nil : OkE [] := ⟨by simp, List.Pairwise.nil⟩
theorem OkE.cons {x : En} {l : List En} (hr : keyOk x.key = true ∧ 1 ≤ x.count ∧ x.count ≤ 1099511627776 ∧ x.err = 0) (h : ∀ y ∈ l, Op.bytesLess x.key.toList y.key.toList = true) (ok : OkE l) : OkE (x :: l) :=
  ⟨fun y hy => by rcases List.mem_cons.1 hy with rfl | hy; · exact hr
                  · exact ok.range y hy, List.Pairwise.cons h ok.asc⟩
theorem lower_ok {d : Int} (hd : 0 ≤ d) : ∀ {l : List En}, OkE l → OkE (lowerE d l)
  | [], _ => OkE.nil
  | x :: l, ok => by
    obtain ⟨ok', hab⟩ := ok.tail
    have hr := ok.range x (by simp)
    have ih := lower_ok hd ok'
    unfold lowerE
    split
    · refine OkE.cons ⟨hr.1, by simp only; omega, by simp only; omega, rfl⟩ (fun y hy => ?_) ih
      obtain ⟨z, hz, e⟩ := lower_mem hy
      rw [← e]; exact hab z hz
    · exact ih
theorem byKey_mem1 {x : En} : ∀ {l : List En} {y : En}, y ∈ byKeyE x l → y = x ∨ y ∈ l
  | [], y, h => by simp [byKeyE] at h; exact .inl h
  | z :: l, y, h => by
    unfold byKeyE at h
    split at h
    · rcases List.mem_cons.1 h with h | h
      · exact .inl h
      · exact .inr h
    · rcases List.mem_cons.1 h with rfl | h
      · exact .inr (by simp)
      · rcases byKey_mem1 h with h | h
        · exact .inl h
        · exact .inr (List.mem_cons_of_mem _ h)
theorem byKey_ok {x : En} (hr : keyOk x.key = true ∧ 1 ≤ x.count ∧ x.count ≤ 1099511627776 ∧ x.err = 0) : ∀ {l : List En}, OkE l → (∀ y ∈ l, y.key.toList ≠ x.key.toList) → OkE (byKeyE x l)
  | [], ok, _ => OkE.cons hr (by simp) OkE.nil
  | z :: l, ok, h => by
    obtain ⟨ok', hab⟩ := ok.tail
    have hrz := ok.range z (by simp)
    have hz := h z (by simp)
    unfold byKeyE
    split
    · rename_i hlt
      exact OkE.cons hr (fun y hy => by
        rcases List.mem_cons.1 hy with rfl | hy
        · exact hlt
        · exact bl_trans hlt (hab y hy)) ok
    · rename_i hlt
      have hlt' : Op.bytesLess z.key.toList x.key.toList = true := bl_of_not (by simpa using hlt) hz
      refine OkE.cons hrz (fun y hy => ?_) (byKey_ok hr ok' (fun y hy => h y (List.mem_cons_of_mem _ hy)))
      rcases byKey_mem1 hy with rfl | hy
      · exact hlt'
      · exact hab y hy
theorem set_ok {y : En} : ∀ {l : List En} {i : Nat} {x : En}, OkE l → l[i]? = some x → y.key = x.key → 1 ≤ y.count → y.count ≤ 1099511627776 → y.err = 0 → OkE (l.set i y)
  | [], _, _, _, h, _, _, _, _ => by simp at h
  | z :: l, 0, x, ok, h, hk, h1, h2, h3 => by
    obtain ⟨ok', hab⟩ := ok.tail
    have hrz := ok.range z (by simp)
    simp only [List.getElem?_cons_zero, Option.some.injEq] at h
    subst h
    exact OkE.cons ⟨by rw [hk]; exact hrz.1, h1, h2, h3⟩ (fun w hw => by rw [hk]; exact hab w hw) ok'
  | z :: l, i + 1, x, ok, h, hk, h1, h2, h3 => by
    obtain ⟨ok', hab⟩ := ok.tail
    have hrz := ok.range z (by simp)
    rw [List.getElem?_cons_succ] at h
    rw [List.set_cons_succ]
    refine OkE.cons hrz (fun w hw => ?_) (set_ok ok' h hk h1 h2 h3)
    rcases List.mem_or_eq_of_mem_set hw with hw | rfl
    · exact hab w hw
    · rw [hk]; exact hab x (List.mem_of_getElem? h)
theorem sumT_ge1 {a b : Int} (ha : 1 ≤ a) (hb : 1 ≤ b) : 1 ≤ (sumT a b).1 := by
  simp only [sumT, addSat]
  split <;> simp only <;> omega
theorem find_get {k : ByteArray} : ∀ {l : List En} (n : Nat), 0 ≤ findE k l n → ∃ j x, l[j]? = some x ∧ x.key.toList = k.toList ∧ findE k l n = ((n + j : Nat) : Int)
  | [], n, h => by simp [findE] at h
  | x :: l, n, h => by
    unfold findE at h ⊢
    by_cases hk : x.key.toList = k.toList
    · exact ⟨0, x, rfl, hk, by rw [if_pos hk]; simp⟩
    · rw [if_neg hk] at h ⊢
      obtain ⟨j, y, h1, h2, h3⟩ := find_get (n + 1) h
      exact ⟨j + 1, y, by simpa using h1, h2, by rw [h3]; congr 1; omega⟩
theorem find_lt {k : ByteArray} : ∀ {l : List En} (n : Nat), -1 ≤ findE k l n
  | [], n => by simp [findE]
  | x :: l, n => by
    unfold findE
    split
    · omega
    · exact find_lt (n + 1)
theorem min_some {d : Int} : ∀ {l : List En}, minE d l = d ∨ ∃ x ∈ l, x.count = minE d l
  | [] => .inl rfl
  | x :: l => by
    unfold minE
    rcases min_some (d := min d x.count) (l := l) with h | ⟨y, hy, e⟩
    · rw [h]
      by_cases hm : d ≤ x.count
      · left; omega
      · right; exact ⟨x, by simp, by omega⟩
    · exact .inr ⟨y, List.mem_cons_of_mem _ hy, e⟩
theorem lower_short {d : Int} : ∀ {l : List En} {x : En}, x ∈ l → x.count ≤ d → (lowerE d l).length < l.length
  | z :: l, x, hx, hd => by
    have h1 := lower_len d l
    rcases List.mem_cons.1 hx with rfl | hx
    · unfold lowerE
      rw [if_neg (by omega)]
      simp only [List.length_cons]; omega
    · have := lower_short hx hd
      unfold lowerE
      split <;> simp only [List.length_cons] <;> omega
/-- A valid summary stays one, and its size stays. -/
theorem insF_valid {f : Fq} {k : ByteArray} {w : Int} (hv : validF f = 0) (hi : itemE k w = 0) : validF (insF f k w).1 = 0 ∧ (insF f k w).1.size = f.size ∧ (insF f k w).2 = 0 := by
  obtain ⟨ok, o1, o2, o3, o4, o5, o6, o7⟩ := validF_ok hv
  obtain ⟨w1, w2, w3⟩ := itemE_ok hi
  have hs : sizeOk f.size = true := by simp only [sizeOk, Bool.and_eq_true, decide_eq_true_eq]; omega
  have hT := sumT_range f.total w
  have key : ∀ g : Fq, g.size = f.size → 0 ≤ g.total → g.total ≤ 1099511627776 → 0 ≤ g.lost → g.lost ≤ 1099511627776 → (g.ents.length : Int) ≤ f.size → OkE g.ents → validF g = 0 := by
    intro g g1 g2 g3 g4 g5 g6 g7
    unfold validF
    rw [g1, if_neg (by rw [hs]; simp; omega), if_neg (by omega)]
    exact OkE.valid none g7 (by simp)
  unfold insF
  rw [if_neg (by simp [hv]), if_neg (by simp [hi])]
  have hnew : ∀ c, 1 ≤ c → c ≤ 4294967295 → keyOk (En.mk k c 0).key = true ∧ 1 ≤ (En.mk k c 0).count ∧ (En.mk k c 0).count ≤ 1099511627776 ∧ (En.mk k c 0).err = 0 := fun c h1 h2 => ⟨w3, h1, by simp only; omega, rfl⟩
  split
  · rename_i hf
    obtain ⟨j, x, h1, h2, h3⟩ := find_get 0 hf
    rw [Nat.zero_add] at h3
    have hr := ok.range x (List.mem_of_getElem? h1)
    have hxT := sumT_range x.count w
    refine ⟨key _ rfl hT.1 hT.2 o5 o6 (by simpa using o7) ?_, rfl, rfl⟩
    simp only [h3, Int.toNat_natCast]
    have he : entE f.ents ((j : Nat) : Int) = x := by simp [entE, h1]
    rw [he]
    exact set_ok ok h1 rfl (sumT_ge1 hr.2.1 w1) hxT.2 hr.2.2.2
  · rename_i hf
    have hne := find_neg (k := k) 0 (show findE k f.ents 0 < 0 by omega)
    split
    · rename_i hlt
      refine ⟨key _ rfl hT.1 hT.2 o5 o6 (by simp only [byKey_len]; omega) (byKey_ok (hnew w w1 w2) ok hne), rfl, rfl⟩
    · rename_i hlt
      have hm1 := minE_le f.ents w
      have hm2 := minE_pos f.ents w w1 (fun x hx => (ok.range x hx).2.1)
      have hL := sumT_range f.lost (minE w f.ents)
      have hll := lower_len (minE w f.ents) f.ents
      refine ⟨key _ rfl hT.1 hT.2 hL.1 hL.2 ?_ ?_, rfl, rfl⟩
      · simp only
        split
        · rename_i hw
          rcases min_some (d := w) (l := f.ents) with h | ⟨x, hx, e⟩
          · omega
          · have := lower_short hx (Int.le_of_eq e)
            simp only [byKey_len]; omega
        · omega
      · simp only
        split
        · exact byKey_ok (hnew _ (by omega) (by omega)) (lower_ok (by omega) ok) (fun y hy => by obtain ⟨x, hx, ex⟩ := lower_mem hy; rw [← ex]; exact hne x hx)
        · exact lower_ok (by omega) ok
theorem newF_valid {n : Int} (h1 : 1 ≤ n) (h2 : n ≤ 32) : newF n = (⟨n, 0, 0, [], false⟩, 0) ∧ validF ⟨n, 0, 0, [], false⟩ = 0 := by
  have hs : sizeOk n = true := by simp only [sizeOk, Bool.and_eq_true, decide_eq_true_eq]; omega
  refine ⟨by simp [newF, hs], ?_⟩
  simp [validF, hs, validE]; omega
end Go.Proofs.Ytpopgpjojbngcaa
