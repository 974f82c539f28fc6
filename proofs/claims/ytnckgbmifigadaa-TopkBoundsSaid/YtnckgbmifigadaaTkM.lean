/- Topk: the merge of two summaries, plain: keys of both once, in any order of the two. -/
import Derived.Test.YtnckgbmifigadaaTkI
set_option linter.unusedSimpArgs false
set_option linter.unusedVariables false
namespace Go.Proofs.Ytnckgbmifigadaa
open Go.RowKit Go.Avm
def ddE (f : ByteArray → En) : List En → List En → List En
  | out, [] => out
  | out, x :: l => if 0 ≤ findE x.key out 0 then ddE f out l else ddE f (out ++ [f x.key]) l
def ddS (f : ByteArray → En) (s : ByteArray → Bool) : List En → List En → Bool
  | _, [] => false
  | out, x :: l => if 0 ≤ findE x.key out 0 then ddS f s out l else s x.key || ddS f s (out ++ [f x.key]) l
theorem findE_nonneg {k : ByteArray} {l : List En} : 0 ≤ findE k l 0 ↔ ∃ x ∈ l, x.key.toList = k.toList := by
  rcases findE_split k l 0 with ⟨h1, h2⟩ | ⟨i, x, h1, h2, h3, _⟩
  · constructor
    · intro h; omega
    · rintro ⟨x, hx, e⟩; exact absurd e (h2 x hx)
  · exact ⟨fun _ => ⟨x, List.mem_of_getElem? h1, h2⟩, fun _ => by omega⟩
theorem findE_app {k : ByteArray} {l m : List En} : findE k (l ++ m) 0 < 0 ↔ findE k l 0 < 0 ∧ findE k m 0 < 0 := by
  have h0 := findE_nonneg (k := k) (l := l ++ m)
  have h1 := findE_nonneg (k := k) (l := l)
  have h2 := findE_nonneg (k := k) (l := m)
  have h3 : 0 ≤ findE k (l ++ m) 0 ↔ 0 ≤ findE k l 0 ∨ 0 ≤ findE k m 0 := by
    rw [h0, h1, h2]
    constructor
    · rintro ⟨x, hx, e⟩
      rcases List.mem_append.1 hx with h | h
      · exact .inl ⟨x, h, e⟩
      · exact .inr ⟨x, h, e⟩
    · rintro (⟨x, hx, e⟩ | ⟨x, hx, e⟩)
      · exact ⟨x, List.mem_append.2 (.inl hx), e⟩
      · exact ⟨x, List.mem_append.2 (.inr hx), e⟩
  omega
theorem findE_keys {k : ByteArray} {l : List En} {g : En → En} (hg : ∀ x, (g x).key = x.key) : findE k (l.map g) 0 < 0 ↔ findE k l 0 < 0 := by
  have h0 := findE_nonneg (k := k) (l := l.map g)
  have h1 := findE_nonneg (k := k) (l := l)
  have h3 : 0 ≤ findE k (l.map g) 0 ↔ 0 ≤ findE k l 0 := by
    rw [h0, h1]
    constructor
    · rintro ⟨x, hx, e⟩
      obtain ⟨y, hy, rfl⟩ := List.mem_map.1 hx
      exact ⟨y, hy, by rw [← hg y]; exact e⟩
    · rintro ⟨x, hx, e⟩
      exact ⟨g x, List.mem_map_of_mem hx, by rw [hg]; exact e⟩
  omega
theorem dd_split (f : ByteArray → En) (s : ByteArray → Bool) (hf : ∀ k, (f k).key = k) : ∀ (l out : List En), l.Pairwise (fun a b => a.key.toList ≠ b.key.toList) →
    ddE f out l = out ++ (l.filter fun y => decide (findE y.key out 0 < 0)).map (fun y => f y.key) ∧ ddS f s out l = (l.filter fun y => decide (findE y.key out 0 < 0)).any (fun y => s y.key)
  | [], out, _ => by simp [ddE, ddS]
  | x :: l, out, h => by
    rw [List.pairwise_cons] at h
    obtain ⟨hx, hl⟩ := h
    rw [ddE, ddS]
    by_cases hc : 0 ≤ findE x.key out 0
    · obtain ⟨i1, i2⟩ := dd_split f s hf l out hl
      have hd : ¬ findE x.key out 0 < 0 := by omega
      rw [if_pos hc, if_pos hc, i1, i2]
      simp [hd]
    · obtain ⟨i1, i2⟩ := dd_split f s hf l (out ++ [f x.key]) hl
      have hd : findE x.key out 0 < 0 := by omega
      have e : (l.filter fun y => decide (findE y.key (out ++ [f x.key]) 0 < 0)) = l.filter fun y => decide (findE y.key out 0 < 0) := by
        refine List.filter_congr fun y hy => ?_
        have h1 : findE y.key [f x.key] 0 < 0 := by
          rw [findE_none 0 (by intro z hz; rw [List.mem_singleton] at hz; subst hz; rw [hf]; exact hx y hy)]; omega
        have := findE_app (k := y.key) (l := out) (m := [f x.key])
        exact decide_eq_decide.2 (by rw [this]; exact ⟨fun h => h.1, fun h => ⟨h, h1⟩⟩)
      rw [if_neg hc, if_neg hc, i1, i2, e]
      simp [hd]
theorem dd_app (f : ByteArray → En) (s : ByteArray → Bool) : ∀ (l m out : List En), ddE f out (l ++ m) = ddE f (ddE f out l) m ∧ ddS f s out (l ++ m) = (ddS f s out l || ddS f s (ddE f out l) m)
  | [], m, out => by simp [ddE, ddS]
  | x :: l, m, out => by
    rw [List.cons_append, ddE, ddE, ddS, ddS]
    split
    · exact dd_app f s l m out
    · obtain ⟨i1, i2⟩ := dd_app f s l m (out ++ [f x.key])
      rw [i1, i2, Bool.or_assoc]
      exact ⟨rfl, rfl⟩
theorem filter_all {α : Type} {p : α → Bool} {l : List α} (h : ∀ x ∈ l, p x = true) : l.filter p = l := List.filter_eq_self.2 h
theorem dd_keys {a b : Tk} (f : ByteArray → En) (s : ByteArray → Bool) (hf : ∀ k, (f k).key = k) (ha : a.ents.Pairwise (fun a b => a.key.toList ≠ b.key.toList)) (hb : b.ents.Pairwise (fun a b => a.key.toList ≠ b.key.toList)) :
    ddE f [] (a.ents ++ b.ents) = (keysT a b).map f ∧ ddS f s [] (a.ents ++ b.ents) = (keysT a b).any s := by
  obtain ⟨p1, p2⟩ := dd_app f s a.ents b.ents []
  obtain ⟨q1, q2⟩ := dd_split f s hf a.ents [] ha
  have e1 : (a.ents.filter fun y => decide (findE y.key [] 0 < 0)) = a.ents := filter_all fun x _ => by simp [findE]
  rw [e1, List.nil_append] at q1
  rw [e1] at q2
  rw [p1, p2, q1, q2]
  obtain ⟨r1, r2⟩ := dd_split f s hf b.ents (a.ents.map fun y => f y.key) hb
  have e2 : (b.ents.filter fun y => decide (findE y.key (a.ents.map fun y => f y.key) 0 < 0)) = b.ents.filter fun y => decide (findE y.key a.ents 0 < 0) :=
    List.filter_congr fun y _ => decide_eq_decide.2 (findE_keys (fun x => hf x.key))
  rw [r1, r2, e2]
  simp [keysT, List.any_map, Function.comp_def]
theorem keysT_len (a b : Tk) : (keysT a b).length ≤ a.ents.length + b.ents.length := by
  have := List.length_filter_le (fun y : En => decide (findE y.key a.ents 0 < 0)) b.ents
  simp only [keysT, List.length_append, List.length_map]; omega
theorem keysT_mem {a b : Tk} {k : ByteArray} : k ∈ keysT a b ↔ (∃ x ∈ a.ents, x.key = k) ∨ ∃ y ∈ b.ents, y.key = k := by
  simp only [keysT, List.mem_append, List.mem_map, List.mem_filter, decide_eq_true_eq]
  constructor
  · rintro (⟨x, hx, e⟩ | ⟨y, ⟨hy, _⟩, e⟩)
    · exact .inl ⟨x, hx, e⟩
    · exact .inr ⟨y, hy, e⟩
  · rintro (⟨x, hx, e⟩ | ⟨y, hy, e⟩)
    · exact .inl ⟨x, hx, e⟩
    · by_cases h : 0 ≤ findE y.key a.ents 0
      · obtain ⟨x, hx, ex⟩ := findE_nonneg.1 h
        exact .inl ⟨x, hx, by rw [key_injT ex]; exact e⟩
      · exact .inr ⟨y, ⟨hy, by omega⟩, e⟩
theorem keysT_nodup {a b : Tk} (ha : a.ents.Pairwise (fun a b => a.key.toList ≠ b.key.toList)) (hb : b.ents.Pairwise (fun a b => a.key.toList ≠ b.key.toList)) : (keysT a b).Nodup := by
  unfold keysT List.Nodup
  rw [List.pairwise_append]
  refine ⟨?_, ?_, ?_⟩
  · rw [List.pairwise_map]
    exact ha.imp fun h e => h (by rw [e])
  · rw [List.pairwise_map]
    exact (hb.filter _).imp fun h e => h (by rw [e])
  · intro k hk k' hk' e
    obtain ⟨x, hx, rfl⟩ := List.mem_map.1 hk
    obtain ⟨y, hy, rfl⟩ := List.mem_map.1 hk'
    rw [List.mem_filter, decide_eq_true_eq] at hy
    exact findE_neg hy.2 x hx (by rw [e])
theorem gotT_key (t : Tk) (k : ByteArray) : (gotT t k).key = k := by
  unfold gotT
  split
  · rename_i h
    rcases findE_split k t.ents 0 with ⟨h1, _⟩ | ⟨i, x, hx, hxk, h3, _⟩
    · omega
    · rw [Nat.zero_add] at h3
      simp only [entE, h3, Int.toNat_natCast, hx, Option.getD_some]
      exact key_injT hxk
  · rfl
theorem leastT_rng {s : Int} {l : List En} (h : ∀ x ∈ l, RtE x) : 0 ≤ leastT s l ∧ leastT s l ≤ 1099511627776 := by
  unfold leastT
  split
  · omega
  · rename_i hn
    obtain ⟨x, hx⟩ := get_lt (show l.length - 1 < l.length by omega)
    have := h x (List.mem_of_getElem? hx)
    obtain ⟨r1, r2, r3, r4, r5⟩ := this
    rw [entE, show ((l.length : Int) - 1).toNat = l.length - 1 by omega, hx]
    simp only [Option.getD_some]; omega
theorem gotT_rng {t : Tk} (h : ∀ x ∈ t.ents, RtE x) (k : ByteArray) : 0 ≤ (gotT t k).count ∧ (gotT t k).count ≤ 1099511627776 ∧ 0 ≤ (gotT t k).err ∧ (gotT t k).err ≤ (gotT t k).count ∧ (0 ≤ findE k t.ents 0 → 1 ≤ (gotT t k).count) := by
  unfold gotT
  split
  · rename_i hf
    rcases findE_split k t.ents 0 with ⟨h1, _⟩ | ⟨i, x, hx, hxk, h3, _⟩
    · omega
    · rw [Nat.zero_add] at h3
      obtain ⟨r1, r2, r3, r4, r5⟩ := h x (List.mem_of_getElem? hx)
      simp only [entE, h3, Int.toNat_natCast, hx, Option.getD_some]
      omega
  · rename_i hf
    have := leastT_rng (s := t.size) h
    simp only; omega
theorem pairT_rng {a b : Tk} (ha : ∀ x ∈ a.ents, RtE x) (hb : ∀ x ∈ b.ents, RtE x) (k : ByteArray) : 0 ≤ (pairT a b k).count ∧ (pairT a b k).count ≤ 1099511627776 ∧ 0 ≤ (pairT a b k).err ∧ (pairT a b k).err ≤ 1099511627776 ∧ (k ∈ keysT a b → 1 ≤ (pairT a b k).count) := by
  have h1 := sumT_rngT (gotT a k).count (gotT b k).count
  have h2 := sumT_rngT (gotT a k).err (gotT b k).err
  have ga := gotT_rng ha k
  have gb := gotT_rng hb k
  refine ⟨h1.1, h1.2, h2.1, h2.2, fun hk => ?_⟩
  have h3 := sumT_geT (a := (gotT a k).count) (b := (gotT b k).count) ga.1 ga.2.1
  have h4 : (gotT b k).count ≤ (sumT (gotT a k).count (gotT b k).count).1 := by
    simp only [sumT, addSat]
    split <;> simp only <;> omega
  simp only [pairT]
  rcases keysT_mem.1 hk with ⟨x, hx, rfl⟩ | ⟨x, hx, rfl⟩
  · have := ga.2.2.2.2 (findE_nonneg.2 ⟨x, hx, rfl⟩); omega
  · have := gb.2.2.2.2 (findE_nonneg.2 ⟨x, hx, rfl⟩); omega
theorem pair_ents_ok {a b : Tk} (ha : OkT a.ents) (hb : OkT b.ents) : OkT (sortE [] ((keysT a b).map fun k => capE (pairT a b k))) := by
  refine sortT_ok (fun x hx => ?_) ?_
  · obtain ⟨k, hk, rfl⟩ := List.mem_map.1 hx
    obtain ⟨p1, p2, p3, p4, p5⟩ := pairT_rng ha.range hb.range k
    have p5 := p5 hk
    have hko : keyOk k = true := by
      rcases keysT_mem.1 hk with ⟨y, hy, rfl⟩ | ⟨y, hy, rfl⟩
      · exact (ha.range y hy).1
      · exact (hb.range y hy).1
    exact ⟨hko, p5, p2, by simp only [capE]; omega, by simp only [capE]; omega⟩
  · rw [List.pairwise_map]
    exact (keysT_nodup ha.keys hb.keys).imp fun h e => h (key_injT e)
theorem OkT.take {l : List En} (h : OkT l) (n : Nat) : OkT (l.take n) :=
  ⟨fun x hx => h.range x (List.mem_of_mem_take hx), h.keys.sublist (List.take_sublist ..), h.desc.sublist (List.take_sublist ..)⟩
theorem mrgT_ok {a b : Tk} (ha : validT a = 0) (hb : validT b = 0) (hs : a.size = b.size) : (mrgT a b).2 = 0 ∧ (mrgT a b).1.size = a.size ∧ validT (mrgT a b).1 = 0 ∧ mrgT a b = (⟨a.size, (sumT a.total b.total).1, (sortE [] ((keysT a b).map fun k => capE (pairT a b k))).take a.size.toNat, ((a.sat || b.sat) || (sumT a.total b.total).2) || (keysT a b).any (pairS a b)⟩, 0) := by
  obtain ⟨⟨s1, s2⟩, ⟨t1, t2⟩, l1, ok⟩ := validT_iff.1 ha
  obtain ⟨⟨s1', s2'⟩, ⟨t1', t2'⟩, l1', ok'⟩ := validT_iff.1 hb
  have e : mrgT a b = (⟨a.size, (sumT a.total b.total).1, (sortE [] ((keysT a b).map fun k => capE (pairT a b k))).take a.size.toNat, ((a.sat || b.sat) || (sumT a.total b.total).2) || (keysT a b).any (pairS a b)⟩, 0) := by
    unfold mrgT
    rw [if_neg (by simp [ha]), if_neg (by simp [hb]), if_neg (by simp [hs])]
  refine ⟨by rw [e], by rw [e], ?_, e⟩
  rw [e]
  exact validT_iff.2 ⟨⟨s1, s2⟩, sumT_rngT _ _, by simp only [List.length_take]; omega, (pair_ents_ok ok ok').take _⟩
theorem sumT_commT {a b : Int} (ha : 0 ≤ a) (ha' : a ≤ 1099511627776) (hb : 0 ≤ b) (hb' : b ≤ 1099511627776) : sumT a b = sumT b a := by
  simp only [sumT, addSat]
  by_cases h : a + b ≤ 1099511627776
  · rw [if_neg (by omega), if_neg (by omega)]
    rw [show max a 0 + max b 0 = max b 0 + max a 0 by omega]
  · rw [if_pos (by omega), if_pos (by omega)]
theorem sumT_zeroT {a : Int} (ha : 0 ≤ a) (ha' : a ≤ 1099511627776) : sumT a 0 = (a, false) := by
  simp only [sumT, addSat]
  rw [if_neg (by omega)]
  rw [show max a 0 + max (0 : Int) 0 = a by omega]
theorem keysT_comm {a b : Tk} (ha : OkT a.ents) (hb : OkT b.ents) : (keysT a b).Perm (keysT b a) := by
  rw [List.perm_ext_iff_of_nodup (keysT_nodup ha.keys hb.keys) (keysT_nodup hb.keys ha.keys)]
  intro k
  rw [keysT_mem, keysT_mem, or_comm]
theorem pairT_comm {a b : Tk} (ha : ∀ x ∈ a.ents, RtE x) (hb : ∀ x ∈ b.ents, RtE x) (k : ByteArray) : pairT a b k = pairT b a k ∧ pairS a b k = pairS b a k := by
  have ga := gotT_rng ha k
  have gb := gotT_rng hb k
  have h1 := sumT_commT (a := (gotT a k).count) (b := (gotT b k).count) (by omega) (by omega) (by omega) (by omega)
  have h2 := sumT_commT (a := (gotT a k).err) (b := (gotT b k).err) (by omega) (by omega) (by omega) (by omega)
  simp only [pairT, pairS, h1, h2, and_self]
theorem mrgT_comm {a b : Tk} (ha : validT a = 0) (hb : validT b = 0) (hs : a.size = b.size) : mrgT a b = mrgT b a := by
  obtain ⟨⟨s1, s2⟩, ⟨t1, t2⟩, l1, ok⟩ := validT_iff.1 ha
  obtain ⟨⟨s1', s2'⟩, ⟨t1', t2'⟩, l1', ok'⟩ := validT_iff.1 hb
  have hk := keysT_comm ok ok'
  have hp : (fun k => capE (pairT a b k)) = fun k => capE (pairT b a k) := by
    funext k; rw [(pairT_comm ok.range ok'.range k).1]
  have hs2 : pairS a b = pairS b a := by
    funext k; exact (pairT_comm ok.range ok'.range k).2
  have e1 : sortE [] ((keysT a b).map fun k => capE (pairT a b k)) = sortE [] ((keysT b a).map fun k => capE (pairT b a k)) := by
    have q1 := pair_ents_ok ok ok'
    have q2 := pair_ents_ok ok' ok
    refine desc_eq ?_ q1.desc q2.desc
    have p1 : (sortE [] ((keysT a b).map fun k => capE (pairT a b k))).Perm ((keysT a b).map fun k => capE (pairT a b k)) := by simpa using sortT_perm ((keysT a b).map fun k => capE (pairT a b k)) []
    have p2 : (sortE [] ((keysT b a).map fun k => capE (pairT b a k))).Perm ((keysT b a).map fun k => capE (pairT b a k)) := by simpa using sortT_perm ((keysT b a).map fun k => capE (pairT b a k)) []
    refine p1.trans (List.Perm.trans ?_ p2.symm)
    rw [hp]
    exact hk.map _
  have e2 : (keysT a b).any (pairS a b) = (keysT b a).any (pairS b a) := by
    rw [hs2, Bool.eq_iff_iff, List.any_eq_true, List.any_eq_true]
    constructor
    · rintro ⟨k, hk', h⟩; exact ⟨k, hk.mem_iff.1 hk', h⟩
    · rintro ⟨k, hk', h⟩; exact ⟨k, hk.mem_iff.2 hk', h⟩
  rw [(mrgT_ok ha hb hs).2.2.2, (mrgT_ok hb ha hs.symm).2.2.2, e1, e2, sumT_commT t1 t2 t1' t2', Bool.or_comm a.sat b.sat, hs]
theorem got_at {t : Tk} (h : t.ents.Pairwise (fun a b => a.key.toList ≠ b.key.toList)) {x : En} (hx : x ∈ t.ents) : gotT t x.key = x := by
  unfold gotT
  rw [if_pos (findE_nonneg.2 ⟨x, hx, rfl⟩)]
  rcases findE_split x.key t.ents 0 with ⟨h1, h2⟩ | ⟨i, y, hy, hyk, h3, _⟩
  · exact absurd rfl (h2 x hx)
  · rw [Nat.zero_add] at h3
    simp only [entE, h3, Int.toNat_natCast, hy, Option.getD_some]
    obtain ⟨j, hj, rfl⟩ := List.mem_iff_getElem.1 hx
    obtain ⟨hi, rfl⟩ := List.getElem?_eq_some_iff.1 hy
    rcases Nat.lt_trichotomy i j with hh | hh | hh
    · exact absurd hyk (List.pairwise_iff_getElem.1 h i j hi hj hh)
    · subst hh; rfl
    · exact absurd hyk.symm (List.pairwise_iff_getElem.1 h j i hj hi hh)
theorem mrgT_new {a : Tk} {n : Int} (ha : validT a = 0) (hn : n = a.size) : mrgT a ⟨n, 0, [], false⟩ = (a, 0) := by
  subst hn
  obtain ⟨⟨s1, s2⟩, ⟨t1, t2⟩, l1, ok⟩ := validT_iff.1 ha
  have hb := (newT_valid s1 s2).2
  have ek : keysT a ⟨a.size, 0, [], false⟩ = a.ents.map (·.key) := by simp [keysT]
  have hz : ∀ k, gotT ⟨a.size, 0, [], false⟩ k = ⟨k, 0, 0⟩ := fun k => by simp [gotT, findE, leastT]
  have hp : ∀ x ∈ a.ents, capE (pairT a ⟨a.size, 0, [], false⟩ x.key) = x ∧ pairS a ⟨a.size, 0, [], false⟩ x.key = false := by
    intro x hx
    obtain ⟨r1, r2, r3, r4, r5⟩ := ok.range x hx
    have z1 := sumT_zeroT (a := x.count) (by omega) (by omega)
    have z2 := sumT_zeroT (a := x.err) (by omega) (by omega)
    simp only [pairT, pairS, got_at ok.keys hx, hz, z1, z2, capE]
    refine ⟨?_, rfl⟩
    cases x
    simp only at r5 ⊢
    rw [show min _ _ = _ from Int.min_eq_left (by omega)]
  have e1 : (keysT a ⟨a.size, 0, [], false⟩).map (fun k => capE (pairT a ⟨a.size, 0, [], false⟩ k)) = a.ents := by
    rw [ek, List.map_map]
    conv => rhs; rw [← List.map_id a.ents]
    exact List.map_congr_left fun x hx => (hp x hx).1
  have e2 : (keysT a ⟨a.size, 0, [], false⟩).any (pairS a ⟨a.size, 0, [], false⟩) = false := by
    rw [ek, List.any_map, List.any_eq_false]
    intro x hx
    simp [(hp x hx).2]
  rw [(mrgT_ok ha hb rfl).2.2.2, e1, e2, sortT_same ok, sumT_zeroT t1 t2, List.take_of_length_le (by omega)]
  simp
end Go.Proofs.Ytnckgbmifigadaa
