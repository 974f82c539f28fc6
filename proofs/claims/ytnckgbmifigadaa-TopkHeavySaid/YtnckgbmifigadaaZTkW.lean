/- Topk: the bounds of SpaceSaving that an insertion and a merge keep (plain laws). -/
import Derived.Test.YtnckgbmifigadaaZTkM
set_option linter.unusedSimpArgs false
set_option linter.unusedVariables false
namespace Go.Proofs.Ytnckgbmifigadaa
open Go.RowKit Go.Avm
def totE : List En → Int
  | [] => 0
  | x :: l => x.count + totE l
theorem tot_nonneg : ∀ {l : List En}, (∀ x ∈ l, 0 ≤ x.count) → 0 ≤ totE l
  | [], _ => by simp [totE]
  | x :: l, h => by
    have := tot_nonneg fun y hy => h y (List.mem_cons_of_mem _ hy)
    have := h x (List.mem_cons_self ..)
    simp only [totE]; omega
theorem tot_app : ∀ (l m : List En), totE (l ++ m) = totE l + totE m
  | [], m => by simp [totE]
  | x :: l, m => by simp only [List.cons_append, totE, tot_app l m]; omega
theorem tot_perm {l m : List En} (h : l.Perm m) : totE l = totE m := by
  induction h with
  | nil => rfl
  | cons x _ ih => simp only [totE, ih]
  | swap x y l => simp only [totE]; omega
  | trans _ _ i1 i2 => rw [i1, i2]
theorem tot_set {y : En} : ∀ {l : List En} {i : Nat} {x : En}, l[i]? = some x → totE (l.set i y) = totE l + (y.count - x.count)
  | [], _, _, h => by simp at h
  | z :: l, 0, x, h => by
    simp at h; subst h
    simp only [List.set_cons_zero, totE]; omega
  | z :: l, i + 1, x, h => by
    have := tot_set (y := y) (l := l) (i := i) (x := x) (by simpa using h)
    simp only [List.set_cons_succ, totE, this]; omega
theorem tot_ge {m : Int} : ∀ {l : List En}, (∀ x ∈ l, m ≤ x.count) → m * l.length ≤ totE l
  | [], _ => by simp [totE]
  | x :: l, h => by
    have := tot_ge (l := l) fun y hy => h y (List.mem_cons_of_mem _ hy)
    have := h x (List.mem_cons_self ..)
    simp only [totE, List.length_cons]
    have e : m * ((l.length + 1 : Nat) : Int) = m * l.length + m := by push_cast; rw [Int.mul_add, Int.mul_one]
    omega
theorem tot_mem : ∀ {l : List En} {x : En}, (∀ x ∈ l, 0 ≤ x.count) → x ∈ l → x.count ≤ totE l
  | y :: l, x, h, hx => by
    have h0 := tot_nonneg (l := l) fun z hz => h z (List.mem_cons_of_mem _ hz)
    have hy := h y (List.mem_cons_self ..)
    simp only [totE]
    rcases List.mem_cons.1 hx with rfl | hx
    · omega
    · have := tot_mem (fun z hz => h z (List.mem_cons_of_mem _ hz)) hx; omega
theorem bef_le {x y : En} (h : befE x y = true) : y.count ≤ x.count := by
  simp only [befE, Bool.or_eq_true, Bool.and_eq_true, decide_eq_true_eq] at h
  rcases h with h | ⟨h, _⟩ <;> omega
/-- The last entry's count is the least. -/
theorem least_le {s : Int} {l : List En} (h : OkT l) (hx : ∀ x ∈ l, 0 ≤ x.count) : ∀ x ∈ l, leastT s l ≤ x.count := by
  intro x hxm
  unfold leastT
  split
  · exact hx x hxm
  · rename_i hn
    obtain ⟨z, hz⟩ := get_lt (show l.length - 1 < l.length by omega)
    rw [entE, show ((l.length : Int) - 1).toNat = l.length - 1 by omega, hz]
    simp only [Option.getD_some]
    obtain ⟨i, hi, rfl⟩ := List.mem_iff_getElem.1 hxm
    obtain ⟨hl, rfl⟩ := List.getElem?_eq_some_iff.1 hz
    by_cases e : i = l.length - 1
    · subst e; exact Int.le_refl _
    · exact bef_le (List.pairwise_iff_getElem.1 h.desc i (l.length - 1) hi hl (by omega))
/-- The least is below a bound that some entry of a full list meets. -/
theorem least_of {s m : Int} {l : List En} (h0 : (l.length : Int) = s → l.length ≠ 0 → ∀ x ∈ l, m ≤ x.count) (hf : (l.length : Int) = s) (hn : l.length ≠ 0) : m ≤ leastT s l := by
  unfold leastT
  rw [if_neg (by omega)]
  obtain ⟨z, hz⟩ := get_lt (show l.length - 1 < l.length by omega)
  rw [entE, show ((l.length : Int) - 1).toNat = l.length - 1 by omega, hz]
  exact h0 hf hn z (List.mem_of_getElem? hz)
/-- What a summary says of any list of distinct keys, no longer than itself, sums to no more than its own counts. -/
def gotM (m : Int) (l : List En) (k : ByteArray) : Int := if 0 ≤ findE k l 0 then (entE l (findE k l 0)).count else m
def sumM (m : Int) (l : List En) : List ByteArray → Int
  | [] => 0
  | k :: ks => gotM m l k + sumM m l ks
theorem gotM_cons (m : Int) (x : En) (l : List En) (k : ByteArray) : gotM m (x :: l) k = if x.key.toList = k.toList then x.count else gotM m l k := by
  unfold gotM
  by_cases h : x.key.toList = k.toList
  · rw [if_pos h, findE, if_pos h, if_pos (by omega)]; rfl
  · rw [if_neg h]
    have hs := findE_split k l 0
    have hc := findE_split k (x :: l) 0
    rcases hs with ⟨h1, h2⟩ | ⟨i, y, h1, h2, h3, h4⟩
    · have e : findE k (x :: l) 0 = -1 := findE_none 0 fun y hy => by
        rcases List.mem_cons.1 hy with rfl | hy
        · exact h
        · exact h2 y hy
      rw [e, h1]; simp
    · rcases hc with ⟨g1, g2⟩ | ⟨j, z, g1, g2, g3, g4⟩
      · exact absurd h2 (g2 y (List.mem_cons_of_mem _ (List.mem_of_getElem? h1)))
      · have hj : j = i + 1 := by
          rcases Nat.lt_trichotomy j (i + 1) with hh | hh | hh
          · cases j with
            | zero => simp at g1; subst g1; exact absurd g2 h
            | succ j => exact absurd g2 (h4 j z (by omega) (by simpa using g1))
          · exact hh
          · exact absurd h2 (g4 (i + 1) y hh (by simpa using h1))
        subst hj
        rw [g3, h3, if_pos (by omega), if_pos (by omega)]
        simp only [entE, Nat.zero_add, Int.toNat_natCast, List.getElem?_cons_succ]
theorem sumM_nil (m : Int) : ∀ ks : List ByteArray, sumM m [] ks = m * ks.length
  | [] => by simp [sumM]
  | k :: ks => by
    have e : m * ((ks.length + 1 : Nat) : Int) = m * ks.length + m := by push_cast; rw [Int.mul_add, Int.mul_one]
    have : gotM m [] k = m := by simp [gotM, findE]
    simp only [sumM, sumM_nil m ks, List.length_cons, this]; omega
theorem sumM_out {m : Int} {x : En} {l : List En} : ∀ {ks : List ByteArray}, (∀ k ∈ ks, k.toList ≠ x.key.toList) → sumM m (x :: l) ks = sumM m l ks
  | [], _ => rfl
  | k :: ks, h => by
    rw [sumM, sumM, gotM_cons, if_neg (fun e => h k (List.mem_cons_self ..) e.symm), sumM_out fun k hk => h k (List.mem_cons_of_mem _ hk)]
theorem sumM_in {m : Int} {x : En} {l : List En} (hx : gotM m l x.key = m) : ∀ {ks : List ByteArray}, ks.Nodup → x.key ∈ ks → sumM m (x :: l) ks = sumM m l ks + (x.count - m)
  | k :: ks, hn, hk => by
    rw [List.nodup_cons] at hn
    rw [sumM, sumM, gotM_cons]
    rcases List.mem_cons.1 hk with e | hk
    · subst e
      rw [if_pos rfl, sumM_out (fun k hk e => hn.1 (by rw [← key_injT e]; exact hk)), hx]; omega
    · rw [if_neg (fun e => hn.1 (by rw [← key_injT e]; exact hk)), sumM_in hx hn.2 hk]; omega
theorem sumM_le {m : Int} : ∀ {l : List En}, (∀ x ∈ l, m ≤ x.count) → l.Pairwise (fun a b => a.key.toList ≠ b.key.toList) → ∀ {ks : List ByteArray}, ks.Nodup → sumM m l ks + m * l.length ≤ totE l + m * ks.length
  | [], _, _, ks, _ => by rw [sumM_nil]; simp [totE]
  | x :: l, h, hk, ks, hn => by
    rw [List.pairwise_cons] at hk
    have ih := sumM_le (l := l) (fun y hy => h y (List.mem_cons_of_mem _ hy)) hk.2 hn
    have hx := h x (List.mem_cons_self ..)
    have e : m * ((l.length + 1 : Nat) : Int) = m * l.length + m := by push_cast; rw [Int.mul_add, Int.mul_one]
    have hg : gotM m l x.key = m := by
      unfold gotM
      rw [findE_none 0 (fun y hy => fun e => hk.1 y hy e.symm)]; simp
    simp only [List.length_cons, totE]
    by_cases hin : x.key ∈ ks
    · rw [sumM_in hg hn hin]; omega
    · rw [sumM_out (fun k hk' e => hin (by rw [← key_injT e]; exact hk'))]; omega
/-- What holds of a summary of size k whose total is all: own is the true weight of each key. -/
structure InvT (k : Int) (t : Tk) (own : ByteArray → Int) (all : Int) : Prop where
  valid : validT t = 0
  size : t.size = k
  sat : t.sat = false
  total : t.total = all
  bound : ∀ key, (gotT t key).count - (gotT t key).err ≤ own key ∧ own key ≤ (gotT t key).count
  sum : totE t.ents ≤ all
  errs : ∀ x ∈ t.ents, x.err * k ≤ all
theorem InvT.least {k : Int} {t : Tk} {own : ByteArray → Int} {all : Int} (h : InvT k t own all) : leastT t.size t.ents * k ≤ all := by
  obtain ⟨⟨s1, s2⟩, ⟨t1, t2⟩, l1, ok⟩ := validT_iff.1 h.valid
  have hs := h.size
  have hsum := h.sum
  have h0 : ∀ x ∈ t.ents, 0 ≤ x.count := fun x hx => by have := (ok.range x hx).2.1; omega
  by_cases hf : t.ents.length = 0 ∨ (t.ents.length : Int) ≠ t.size
  · rw [leastT, if_pos hf]; have := tot_nonneg h0; omega
  · have := tot_ge (l := t.ents) (m := leastT t.size t.ents) (least_le ok h0)
    rw [show (t.ents.length : Int) = k by omega] at this
    omega
theorem InvT.errs_all {k : Int} {t : Tk} {own : ByteArray → Int} {all : Int} (h : InvT k t own all) (key : ByteArray) : (gotT t key).err * k ≤ all := by
  by_cases hf : 0 ≤ findE key t.ents 0
  · obtain ⟨x, hx, e⟩ := findE_nonneg.1 hf
    have := key_injT e
    subst this
    rw [got_at (validT_iff.1 h.valid).2.2.2.keys hx]
    exact h.errs x hx
  · have e : (gotT t key).err = leastT t.size t.ents := by unfold gotT; rw [if_neg hf]
    rw [e]; exact h.least
theorem InvT.new {k : Int} (h1 : 1 ≤ k) (h2 : k ≤ 32) : InvT k ⟨k, 0, [], false⟩ (fun _ => 0) 0 :=
  ⟨(newT_valid h1 h2).2, rfl, rfl, rfl, fun key => by simp [gotT, findE, leastT], by simp [totE], by simp⟩
theorem sumT_exactT {a b : Int} (ha : 0 ≤ a) (hb : 0 ≤ b) (h : a + b ≤ 1099511627776) : sumT a b = (a + b, false) := by
  simp only [sumT, addSat]
  rw [if_neg (by omega)]
  rw [show max a 0 + max b 0 = a + b by omega]
/-- What is known of a key, by membership. -/
theorem got_cases (t : Tk) (hk : t.ents.Pairwise (fun a b => a.key.toList ≠ b.key.toList)) (key : ByteArray) : (∃ x ∈ t.ents, x.key = key ∧ gotT t key = x) ∨ ((∀ x ∈ t.ents, x.key ≠ key) ∧ gotT t key = ⟨key, leastT t.size t.ents, leastT t.size t.ents⟩) := by
  by_cases hf : 0 ≤ findE key t.ents 0
  · obtain ⟨x, hx, e⟩ := findE_nonneg.1 hf
    have e := key_injT e
    subst e
    exact .inl ⟨x, hx, rfl, got_at hk hx⟩
  · refine .inr ⟨fun x hx e => hf (findE_nonneg.2 ⟨x, hx, by rw [e]⟩), ?_⟩
    unfold gotT
    rw [if_neg hf]
/-- An inserted item: the new list, whatever its order, is the old one with one entry turned, added or put in the last one's place. -/
theorem InvT.insert {k : Int} {t : Tk} {own : ByteArray → Int} {all w : Int} {kk : ByteArray} (h : InvT k t own all) (hw : itemE kk w = 0) (hb : all + w ≤ 1099511627776) :
    InvT k (insT t kk w).1 (fun key => if key = kk then own key + w else own key) (all + w) := by
  obtain ⟨v1, v2, v3⟩ := insT_valid h.valid hw
  obtain ⟨⟨s1, s2⟩, ⟨t1, t2⟩, l1, ok⟩ := validT_iff.1 h.valid
  obtain ⟨w1, w2, w3⟩ := itemE_okT hw
  have hs := h.size; have hsum := h.sum; have htot := h.total; have hsat := h.sat
  have h0 : ∀ x ∈ t.ents, 0 ≤ x.count := fun x hx => by have := (ok.range x hx).2.1; omega
  have ht : sumT t.total w = (all + w, false) := by rw [htot]; exact sumT_exactT (by omega) (by omega) hb
  have hls := least_le (s := t.size) ok h0
  have hl0 := (leastT_rng (s := t.size) ok.range).1
  have hlk := h.least
  have htn := tot_nonneg h0
  have hkk := got_cases t ok.keys kk
  have hbd := h.bound
  -- what the law asks of a list that is sorted
  have key : ∀ (L : List En) (b : Bool), b = false → validT ⟨t.size, all + w, sortE [] L, b⟩ = 0 → L.Pairwise (fun a b => a.key.toList ≠ b.key.toList) → totE L ≤ all + w → (∀ x ∈ L, x.err * k ≤ all + w) →
      (∀ x ∈ L, x.count - x.err ≤ (if x.key = kk then own x.key + w else own x.key) ∧ (if x.key = kk then own x.key + w else own x.key) ≤ x.count) →
      (∀ q, (∀ x ∈ L, x.key ≠ q) → q ≠ kk ∧ 0 ≤ own q ∧ ((L.length : Int) = t.size → ∀ x ∈ L, own q ≤ x.count) ∧ ((L.length : Int) ≠ t.size → own q ≤ 0)) →
      InvT k ⟨t.size, all + w, sortE [] L, b⟩ (fun key => if key = kk then own key + w else own key) (all + w) := by
    intro L b hb1 hv hkL hsL heL hbL hoL
    subst hb1
    have hp : (sortE [] L).Perm L := by simpa using sortT_perm L []
    have ok2 := (validT_iff.1 hv).2.2.2
    simp only at ok2
    refine ⟨hv, hs, rfl, rfl, fun q => ?_, by rw [tot_perm hp]; exact hsL, fun x hx => heL x (hp.mem_iff.1 hx)⟩
    rcases got_cases ⟨t.size, all + w, sortE [] L, false⟩ ok2.keys q with ⟨x, hx, e, eg⟩ | ⟨hno, eg⟩
    · subst e
      rw [eg]
      exact hbL x (hp.mem_iff.1 hx)
    · rw [eg]
      obtain ⟨o1, o2, o3, o4⟩ := hoL q fun x hx => hno x (hp.mem_iff.2 hx)
      have hlen : (sortE [] L).length = L.length := hp.length_eq
      simp only [if_neg o1]
      refine ⟨by omega, ?_⟩
      by_cases hf : (sortE [] L).length = 0 ∨ ((sortE [] L).length : Int) ≠ t.size
      · rw [leastT, if_pos hf]
        rcases hf with hf | hf
        · exact o4 (by omega)
        · exact o4 (by omega)
      · exact least_of (fun _ _ x hx => o3 (by omega) x (hp.mem_iff.1 hx)) (by omega) (by omega)
  have hown : ∀ q, 0 ≤ own q := fun q => by
    have := hbd q
    rcases got_cases t ok.keys q with ⟨x, hx, e, eg⟩ | ⟨hno, eg⟩
    · rw [eg] at this
      have hr := (ok.range x hx)
      obtain ⟨r1, r2, r3, r4, r5⟩ := hr
      omega
    · rw [eg] at this; simp only at this; omega
  have hbin : ∀ x ∈ t.ents, x.count - x.err ≤ own x.key ∧ own x.key ≤ x.count := fun x hx => by
    have := hbd x.key
    rwa [got_at ok.keys hx] at this
  have hbout : ∀ q, (∀ x ∈ t.ents, x.key ≠ q) → own q ≤ leastT t.size t.ents := fun q hq => by
    have := hbd q
    rcases got_cases t ok.keys q with ⟨x, hx, e, eg⟩ | ⟨hno, eg⟩
    · exact absurd e (hq x hx)
    · rw [eg] at this; exact this.2
  have hlz : (t.ents.length : Int) ≠ t.size → leastT t.size t.ents = 0 := fun hf => by rw [leastT, if_pos (.inr hf)]
  unfold insT at v1 v2 ⊢
  rw [if_neg (by simp [h.valid]), if_neg (by simp [hw])] at v1 v2 ⊢
  by_cases hf : 0 ≤ findE kk t.ents 0
  · rw [if_pos hf] at v1 v2 ⊢
    rcases findE_split kk t.ents 0 with ⟨h1, _⟩ | ⟨i, x, hx, hxk, h3, _⟩
    · omega
    rw [Nat.zero_add] at h3
    have hxm := List.mem_of_getElem? hx
    have hxk := key_injT hxk
    have he : entE t.ents ((i : Nat) : Int) = x := by simp [entE, hx]
    obtain ⟨r1, r2, r3, r4, r5⟩ := ok.range x hxm
    have hxs := tot_mem h0 hxm
    have hxw : sumT x.count w = (x.count + w, false) := sumT_exactT (by omega) (by omega) (by omega)
    simp only [h3, Int.toNat_natCast, he, ht, hxw] at v1 v2 ⊢
    subst hxk
    have hne : ∀ j y, j ≠ i → t.ents[j]? = some y → y.key.toList ≠ x.key.toList := by
      intro j y hj hy
      obtain ⟨hjl, ej⟩ := List.getElem?_eq_some_iff.1 hy
      obtain ⟨hil, ei⟩ := List.getElem?_eq_some_iff.1 hx
      subst ej ei
      rcases Nat.lt_or_gt_of_ne hj with h | h
      · exact List.pairwise_iff_getElem.1 ok.keys j i hjl hil h
      · exact Ne.symm (List.pairwise_iff_getElem.1 ok.keys i j hil hjl h)
    have hmem : ∀ y ∈ t.ents.set i ⟨x.key, x.count + w, x.err⟩, (y ∈ t.ents ∧ y.key ≠ x.key) ∨ y = ⟨x.key, x.count + w, x.err⟩ := by
      intro y hy
      obtain ⟨j, hj, ej⟩ := List.mem_iff_getElem.1 hy
      rw [List.length_set] at hj
      rw [List.getElem_set] at ej
      split at ej
      · exact .inr ej.symm
      · rename_i hji
        exact .inl ⟨by rw [← ej]; exact List.getElem_mem _, fun e => hne j y (by omega) (by rw [← ej]; exact List.getElem?_eq_getElem hj) (by rw [e])⟩
    have hin2 : ∀ y ∈ t.ents, y.key ≠ x.key → y ∈ t.ents.set i ⟨x.key, x.count + w, x.err⟩ := by
      intro y hy hyk
      obtain ⟨j, hj, ej⟩ := List.mem_iff_getElem.1 hy
      refine List.mem_iff_getElem.2 ⟨j, by simpa using hj, ?_⟩
      rw [List.getElem_set, if_neg (fun e => hyk (by
        subst e; rw [← ej]
        obtain ⟨hil, ei⟩ := List.getElem?_eq_some_iff.1 hx
        rw [ei]))]
      exact ej
    have hself : (⟨x.key, x.count + w, x.err⟩ : En) ∈ t.ents.set i ⟨x.key, x.count + w, x.err⟩ := by
      obtain ⟨hil, ei⟩ := List.getElem?_eq_some_iff.1 hx
      exact List.mem_iff_getElem.2 ⟨i, by simpa using hil, by rw [List.getElem_set, if_pos rfl]⟩
    refine key _ _ (by simp [hsat]) v1 (keys_set ok.keys hne) (by rw [tot_set hx]; simp only; omega) (fun y hy => ?_) (fun y hy => ?_) (fun q hq => ?_)
    · rcases hmem y hy with ⟨h1, _⟩ | rfl
      · have := h.errs y h1; omega
      · have := h.errs x hxm; simp only; omega
    · rcases hmem y hy with ⟨h1, h2⟩ | rfl
      · rw [if_neg h2]; exact hbin y h1
      · have := hbin x hxm
        simp only [if_true]; omega
    · have hq1 : q ≠ x.key := fun e => hq _ hself e.symm
      have hq2 : ∀ y ∈ t.ents, y.key ≠ q := fun y hy e => by
        by_cases hyx : y.key = x.key
        · exact hq1 (by rw [← e, hyx])
        · exact hq y (hin2 y hy hyx) e
      have ho := hbout q hq2
      refine ⟨hq1, hown q, fun hlen y hy => ?_, fun hlen => ?_⟩
      · rcases hmem y hy with ⟨h1, _⟩ | rfl
        · have := hls y h1; omega
        · have := hls x hxm; simp only; omega
      · rw [List.length_set] at hlen
        rw [hlz hlen] at ho; exact ho
  · rw [if_neg hf] at v1 v2 ⊢
    have hne := findE_neg (k := kk) (l := t.ents) (by omega)
    have hnk : ∀ x ∈ t.ents, x.key ≠ kk := fun x hx e => hne x hx (by rw [e])
    have hokk := hbout kk hnk
    by_cases hlt : (t.ents.length : Int) < t.size
    · rw [if_pos hlt] at v1 v2 ⊢
      simp only [ht] at v1 v2 ⊢
      have hl00 := hlz (by omega)
      refine key _ _ (by simp [hsat]) v1 ?_ (by rw [tot_app]; simp only [totE]; omega) (fun y hy => ?_) (fun y hy => ?_) (fun q hq => ?_)
      · rw [List.pairwise_append]
        exact ⟨ok.keys, List.pairwise_singleton _ _, fun a ha b hb => by rw [List.mem_singleton] at hb; subst hb; exact hne a ha⟩
      · rcases List.mem_append.1 hy with hy | hy
        · have := h.errs y hy; omega
        · rw [List.mem_singleton] at hy; subst hy; simp only; omega
      · rcases List.mem_append.1 hy with hy | hy
        · rw [if_neg (hnk y hy)]; exact hbin y hy
        · rw [List.mem_singleton] at hy; subst hy
          have := hown kk
          simp only [if_true]; omega
      · have hq2 : ∀ y ∈ t.ents, y.key ≠ q := fun y hy => hq y (List.mem_append.2 (.inl hy))
        have hq1 : q ≠ kk := fun e => hq ⟨kk, w, 0⟩ (by simp) e.symm
        have ho := hbout q hq2
        rw [hl00] at ho
        refine ⟨hq1, hown q, fun hlen y hy => ?_, fun hlen => ho⟩
        rcases List.mem_append.1 hy with hy | hy
        · have := h0 y hy; omega
        · rw [List.mem_singleton] at hy; subst hy; simp only; omega
    · rw [if_neg hlt] at v1 v2 ⊢
      have hfull : (t.ents.length : Int) = t.size := by omega
      obtain ⟨z, hz⟩ := get_lt (show t.ents.length - 1 < t.ents.length by omega)
      have hzm := List.mem_of_getElem? hz
      have hlz2 : leastT t.size t.ents = z.count := by
        rw [leastT, if_neg (by omega), entE, show ((t.ents.length : Int) - 1).toNat = t.ents.length - 1 by omega, hz]; rfl
      have hzs := tot_mem h0 hzm
      obtain ⟨r1, r2, r3, r4, r5⟩ := ok.range z hzm
      have hzw : sumT z.count w = (z.count + w, false) := sumT_exactT (by omega) (by omega) (by omega)
      have hce : capE ⟨kk, z.count + w, z.count⟩ = ⟨kk, z.count + w, z.count⟩ := by
        simp only [capE]; rw [show min z.count (z.count + w - 1) = z.count from Int.min_eq_left (by omega)]
      rw [hlz2] at v1 v2 hlk hokk hls hbout ⊢
      simp only [ht, hzw, hce] at v1 v2 ⊢
      have hmem : ∀ y ∈ t.ents.set (t.ents.length - 1) ⟨kk, z.count + w, z.count⟩, y ∈ t.ents ∨ y = ⟨kk, z.count + w, z.count⟩ := fun y hy => List.mem_or_eq_of_mem_set hy
      have hself : (⟨kk, z.count + w, z.count⟩ : En) ∈ t.ents.set (t.ents.length - 1) ⟨kk, z.count + w, z.count⟩ :=
        List.mem_iff_getElem.2 ⟨t.ents.length - 1, by simp; omega, by rw [List.getElem_set, if_pos rfl]⟩
      refine key _ _ (by simp [hsat]) v1 (keys_set ok.keys fun j y hj hy => hne y (List.mem_of_getElem? hy)) (by rw [tot_set hz]; simp only; omega) (fun y hy => ?_) (fun y hy => ?_) (fun q hq => ?_)
      · rcases hmem y hy with h1 | rfl
        · have := h.errs y h1; omega
        · simp only; omega
      · rcases hmem y hy with h1 | rfl
        · rw [if_neg (hnk y h1)]; exact hbin y h1
        · have := hown kk
          simp only [if_true]; omega
      · have hq1 : q ≠ kk := fun e => hq _ hself e.symm
        have ho : own q ≤ z.count := by
          by_cases hm : ∃ x ∈ t.ents, x.key = q
          · obtain ⟨x, hx, rfl⟩ := hm
            -- only the last one was taken away
            obtain ⟨j, hj, ej⟩ := List.mem_iff_getElem.1 hx
            by_cases hjl : j = t.ents.length - 1
            · have : x = z := by
                obtain ⟨hl, el⟩ := List.getElem?_eq_some_iff.1 hz
                subst hjl; rw [← ej, ← el]
              subst this
              exact (hbin x hx).2
            · exact absurd rfl (hq x (List.mem_iff_getElem.2 ⟨j, by simpa using hj, by rw [List.getElem_set, if_neg (by omega)]; exact ej⟩))
          · exact hbout q fun x hx e => hm ⟨x, hx, e⟩
        refine ⟨hq1, hown q, fun hlen y hy => ?_, fun hlen => ?_⟩
        · rcases hmem y hy with h1 | rfl
          · have := hls y h1; omega
          · simp only; omega
        · rw [List.length_set] at hlen; omega
theorem sumM_got {t : Tk} (hk : t.ents.Pairwise (fun a b => a.key.toList ≠ b.key.toList)) (k : ByteArray) : gotM (leastT t.size t.ents) t.ents k = (gotT t k).count := by
  unfold gotM gotT
  split <;> rfl
theorem tot_map {a b : Tk} (f : ByteArray → En) (hf : ∀ k,(f k).count = (gotT a k).count + (gotT b k).count) (ha : a.ents.Pairwise (fun a b => a.key.toList ≠ b.key.toList)) (hb : b.ents.Pairwise (fun a b => a.key.toList ≠ b.key.toList)) : ∀ ks : List ByteArray,totE (ks.map f) = sumM (leastT a.size a.ents) a.ents ks + sumM (leastT b.size b.ents) b.ents ks
  | [] => by simp [totE, sumM]
  | k :: ks => by
    simp only [List.map_cons, totE, sumM, tot_map f hf ha hb ks, hf, sumM_got ha, sumM_got hb]; omega
/-- What a full or a short summary says of no more keys than its size. -/
theorem InvT.sumM {k : Int} {t : Tk} {own : ByteArray → Int} {all : Int} (h : InvT k t own all) {ks : List ByteArray} (hn : ks.Nodup) (hl : (ks.length : Int) ≤ k) : Proofs.Ytnckgbmifigadaa.sumM (leastT t.size t.ents) t.ents ks ≤ all := by
  obtain ⟨⟨s1, s2⟩, ⟨t1, t2⟩, l1, ok⟩ := validT_iff.1 h.valid
  have h0 : ∀ x ∈ t.ents, 0 ≤ x.count := fun x hx => by have := (ok.range x hx).2.1; omega
  have hs := h.size; have hsum := h.sum
  have hle := sumM_le (m := leastT t.size t.ents) (l := t.ents) (least_le ok h0) ok.keys hn
  by_cases hf : t.ents.length = 0 ∨ (t.ents.length : Int) ≠ t.size
  · have e : leastT t.size t.ents = 0 := by rw [leastT, if_pos hf]
    rw [e] at hle ⊢
    omega
  · have hm := (leastT_rng (s := t.size) ok.range).1
    have : leastT t.size t.ents * (ks.length : Int) ≤ leastT t.size t.ents * (t.ents.length : Int) := Int.mul_le_mul_of_nonneg_left (by omega) hm
    omega
theorem InvT.merge {k : Int} {a b : Tk} {own own2 : ByteArray → Int} {all all2 : Int} (h : InvT k a own all) (g : InvT k b own2 all2) (hb : all + all2 ≤ 1099511627776) :
    (mrgT a b).2 = 0 ∧ InvT k (mrgT a b).1 (fun q => own q + own2 q) (all + all2) := by
  obtain ⟨⟨s1, s2⟩, ⟨t1, t2⟩, l1, ok⟩ := validT_iff.1 h.valid
  obtain ⟨⟨s1', s2'⟩, ⟨t1', t2'⟩, l1', ok'⟩ := validT_iff.1 g.valid
  have hs := h.size; have hs' := g.size; have hsum := h.sum; have hsum' := g.sum
  have h0 : ∀ x ∈ a.ents, 0 ≤ x.count := fun x hx => by have := (ok.range x hx).2.1; omega
  have h0' : ∀ x ∈ b.ents, 0 ≤ x.count := fun x hx => by have := (ok'.range x hx).2.1; omega
  obtain ⟨m1, m2, m3, m4⟩ := mrgT_ok h.valid g.valid (by omega)
  have htot := tot_nonneg h0
  have htot' := tot_nonneg h0'
  -- no sum saturates
  have hc : ∀ q, (gotT a q).count ≤ all ∧ (gotT b q).count ≤ all2 := fun q => by
    constructor
    · rcases got_cases a ok.keys q with ⟨x, hx, _, e⟩ | ⟨_, e⟩
      · rw [e]; have := tot_mem h0 hx; omega
      · rw [e]
        by_cases hf : a.ents.length = 0 ∨ (a.ents.length : Int) ≠ a.size
        · simp only [leastT, if_pos hf]; omega
        · obtain ⟨x, hx⟩ := get_lt (show a.ents.length - 1 < a.ents.length by omega)
          have := least_le (s := a.size) ok h0 x (List.mem_of_getElem? hx)
          have := tot_mem h0 (List.mem_of_getElem? hx)
          simp only; omega
    · rcases got_cases b ok'.keys q with ⟨x, hx, _, e⟩ | ⟨_, e⟩
      · rw [e]; have := tot_mem h0' hx; omega
      · rw [e]
        by_cases hf : b.ents.length = 0 ∨ (b.ents.length : Int) ≠ b.size
        · simp only [leastT, if_pos hf]; omega
        · obtain ⟨x, hx⟩ := get_lt (show b.ents.length - 1 < b.ents.length by omega)
          have := least_le (s := b.size) ok' h0' x (List.mem_of_getElem? hx)
          have := tot_mem h0' (List.mem_of_getElem? hx)
          simp only; omega
  have hra := fun q => gotT_rng ok.range q
  have hrb := fun q => gotT_rng ok'.range q
  have hp : ∀ q, pairT a b q = ⟨q, (gotT a q).count + (gotT b q).count, (gotT a q).err + (gotT b q).err⟩ ∧ pairS a b q = false := fun q => by
    have c1 := hc q; have r1 := hra q; have r2 := hrb q
    have e1 := sumT_exactT (a := (gotT a q).count) (b := (gotT b q).count) (by omega) (by omega) (by omega)
    have e2 := sumT_exactT (a := (gotT a q).err) (b := (gotT b q).err) (by omega) (by omega) (by omega)
    simp only [pairT, pairS, e1, e2]; exact ⟨trivial, rfl⟩
  have hcap : ∀ q ∈ keysT a b, capE (pairT a b q) = ⟨q, (gotT a q).count + (gotT b q).count, (gotT a q).err + (gotT b q).err⟩ := fun q hq => by
    have r1 := hra q; have r2 := hrb q
    have hlt : (gotT a q).err + (gotT b q).err < (gotT a q).count + (gotT b q).count := by
      rcases keysT_mem.1 hq with ⟨x, hx, rfl⟩ | ⟨x, hx, rfl⟩
      · obtain ⟨_, _, _, _, r5⟩ := ok.range x hx
        rw [got_at ok.keys hx]; omega
      · obtain ⟨_, _, _, _, r5⟩ := ok'.range x hx
        rw [got_at ok'.keys hx]; omega
    rw [(hp q).1]
    simp only [capE]
    rw [Int.min_eq_left (by omega)]
  have hany : (keysT a b).any (pairS a b) = false := by
    rw [List.any_eq_false]
    intro q hq; simp [(hp q).2]
  have et := sumT_exactT (a := a.total) (b := b.total) t1 t1' (by rw [h.total, g.total]; exact hb)
  have pk := pair_ents_ok ok ok'
  have nd := keysT_nodup ok.keys ok'.keys
  have hpm : (sortE [] ((keysT a b).map fun q => capE (pairT a b q))).Perm ((keysT a b).map fun q => capE (pairT a b q)) := by simpa using sortT_perm ((keysT a b).map fun q => capE (pairT a b q)) []
  rw [m4] at m1 m2 m3 ⊢
  rw [et, hany] at m3 ⊢
  simp only at m3 ⊢
  generalize hL : sortE [] ((keysT a b).map fun q => capE (pairT a b q)) = L at *
  have hLc : ∀ x ∈ L, x.key ∈ keysT a b ∧ x = ⟨x.key, (gotT a x.key).count + (gotT b x.key).count, (gotT a x.key).err + (gotT b x.key).err⟩ := fun x hx => by
    obtain ⟨q, hq, e⟩ := List.mem_map.1 (hpm.mem_iff.1 hx)
    rw [hcap q hq] at e
    subst e
    exact ⟨hq, rfl⟩
  have hLall : ∀ q ∈ keysT a b, ∃ x ∈ L, x.key = q := fun q hq => ⟨capE (pairT a b q), hpm.mem_iff.2 (List.mem_map.2 ⟨q, hq, rfl⟩), rfl⟩
  have hkt : (a.size.toNat : Int) = k := by omega
  have hT0 : ∀ x ∈ L.take a.size.toNat, x ∈ L := fun x hx => List.mem_of_mem_take hx
  -- the keys of what is kept
  have hsumL : totE (L.take a.size.toNat) ≤ all + all2 := by
    have e : L.take a.size.toNat = ((L.take a.size.toNat).map (·.key)).map fun q => ⟨q, (gotT a q).count + (gotT b q).count, (gotT a q).err + (gotT b q).err⟩ := by
      rw [List.map_map]
      conv => lhs; rw [← List.map_id (L.take a.size.toNat)]
      exact List.map_congr_left fun x hx => (hLc x (hT0 x hx)).2
    have hnd : ((L.take a.size.toNat).map (·.key)).Nodup := by
      unfold List.Nodup
      rw [List.pairwise_map]
      exact ((pk.take _).keys).imp fun hh e => hh (by rw [e])
    have hln : (((L.take a.size.toNat).map (·.key)).length : Int) ≤ k := by simp only [List.length_map, List.length_take]; omega
    rw [e, tot_map (a := a) (b := b) _ (fun q => rfl) ok.keys ok'.keys]
    have q1 := h.sumM hnd hln
    have q2 := g.sumM hnd hln
    omega
  refine ⟨trivial, m3, hs, by simp [h.sat, g.sat], by rw [h.total, g.total], fun q => ?_, hsumL, fun x hx => ?_⟩
  · have b1 := h.bound q; have b2 := g.bound q
    rcases got_cases ⟨a.size, a.total + b.total, L.take a.size.toNat, (a.sat || b.sat) || false || false⟩ (pk.take _).keys q with ⟨x, hx, rfl, e⟩ | ⟨hno, e⟩
    · rw [e, (hLc x (hT0 x hx)).2]
      simp only; omega
    · rw [e]
      simp only at hno ⊢
      have ho0 : 0 ≤ own q + own2 q := by
        have r1 := hra q; have r2 := hrb q; omega
      refine ⟨by omega, ?_⟩
      by_cases hfull : (L.length : Int) < k
      · -- nothing was cut, and neither was full
        have hTL : L.take a.size.toNat = L := List.take_of_length_le (by omega)
        have hqn : q ∉ keysT a b := fun hq => by
          obtain ⟨x, hx, e⟩ := hLall q hq
          exact hno x (by rw [hTL]; exact hx) e
        have hlen : L.length = (keysT a b).length := by rw [hpm.length_eq, List.length_map]
        have hla : a.ents.length ≤ (keysT a b).length := by simp only [keysT, List.length_append, List.length_map]; omega
        have hlb : b.ents.length ≤ (keysT a b).length := by
          have hp2 := (keysT_comm ok ok').length_eq
          rw [hp2]; simp only [keysT, List.length_append, List.length_map]; omega
        have ga : gotT a q = ⟨q, leastT a.size a.ents, leastT a.size a.ents⟩ := by
          rcases got_cases a ok.keys q with ⟨x, hx, e, _⟩ | ⟨_, e⟩
          · exact absurd (keysT_mem.2 (.inl ⟨x, hx, e⟩)) hqn
          · exact e
        have gb : gotT b q = ⟨q, leastT b.size b.ents, leastT b.size b.ents⟩ := by
          rcases got_cases b ok'.keys q with ⟨x, hx, e, _⟩ | ⟨_, e⟩
          · exact absurd (keysT_mem.2 (.inr ⟨x, hx, e⟩)) hqn
          · exact e
        have za : leastT a.size a.ents = 0 := by rw [leastT, if_pos (.inr (by omega))]
        have zb : leastT b.size b.ents = 0 := by rw [leastT, if_pos (.inr (by omega))]
        rw [ga, za] at b1
        rw [gb, zb] at b2
        have hz : 0 ≤ leastT a.size (L.take a.size.toNat) := (leastT_rng (pk.take _).range).1
        simp only at b1 b2
        omega
      · have hTlen : ((L.take a.size.toNat).length : Int) = a.size := by rw [List.length_take]; omega
        refine Int.le_trans (show own q + own2 q ≤ (gotT a q).count + (gotT b q).count by omega) (least_of (fun _ _ x hx => ?_) hTlen (by omega))
        -- each kept entry's count is above what is known of q
        have hx1 := (hLc x (hT0 x hx))
        by_cases hq : q ∈ keysT a b
        · obtain ⟨y, hy, ey⟩ := hLall q hq
          have hy1 := (hLc y hy).2
          have hyc : y.count = (gotT a q).count + (gotT b q).count := by rw [hy1, ey]
          rw [← hyc]
          -- y lies behind x
          rcases List.mem_append.1 (by rw [List.take_append_drop]; exact hy : y ∈ L.take a.size.toNat ++ L.drop a.size.toNat) with hh | hh
          · exact absurd ey (hno y hh)
          · have hd := pk.desc
            rw [← List.take_append_drop a.size.toNat L, List.pairwise_append] at hd
            exact bef_le (hd.2.2 x hx y hh)
        · have ga : (gotT a q).count = leastT a.size a.ents := by
            rcases got_cases a ok.keys q with ⟨x, hx, e, _⟩ | ⟨_, e⟩
            · exact absurd (keysT_mem.2 (.inl ⟨x, hx, e⟩)) hq
            · rw [e]
          have gb : (gotT b q).count = leastT b.size b.ents := by
            rcases got_cases b ok'.keys q with ⟨x, hx, e, _⟩ | ⟨_, e⟩
            · exact absurd (keysT_mem.2 (.inr ⟨x, hx, e⟩)) hq
            · rw [e]
          have la : leastT a.size a.ents ≤ (gotT a x.key).count := by
            rcases got_cases a ok.keys x.key with ⟨y, hy, _, e⟩ | ⟨_, e⟩
            · rw [e]; exact least_le ok h0 y hy
            · rw [e]; exact Int.le_refl _
          have lb : leastT b.size b.ents ≤ (gotT b x.key).count := by
            rcases got_cases b ok'.keys x.key with ⟨y, hy, _, e⟩ | ⟨_, e⟩
            · rw [e]; exact least_le ok' h0' y hy
            · rw [e]; exact Int.le_refl _
          rw [hx1.2, ga, gb]
          simp only; omega
  · rw [(hLc x (hT0 x hx)).2]
    have e1 := h.errs_all x.key
    have e2 := g.errs_all x.key
    simp only [Int.add_mul]; omega
end Go.Proofs.Ytnckgbmifigadaa
