/- Topk: the merge of two summaries, plain: keys of both once, in any order of the two. -/
import Derived.Test.YtnckgbmifigadaaZTkI
set_option linter.unusedSimpArgs false
set_option linter.unusedVariables false
namespace Go.Proofs.Ytnckgbmifigadaa
open Go.RowKit Go.Avm
def ddE (f : ByteArray → En) : List En → List En → List En
  | out, [] => out
  | out, x :: l => if 0 ≤ findE x.key out 0 then ddE f out l else ddE f (out ++ [f x.key]) l
def ddS (f : ByteArray → En) (s : ByteArray → Bool) : List En → List En → Bool
  | _, [] => false
  | out, x :: l => if 0 ≤ findE x.key out 0 then ddS f s out l else s x.key || ddS f s (out ++ [f x.key]) l
theorem findE_nonneg {k : ByteArray} {l : List En} : 0 ≤ findE k l 0 ↔ ∃ x ∈ l, x.key.toList = k.toList := by
  rcases findE_split k l 0 with ⟨h1, h2⟩ | ⟨i, x, h1, h2, h3, _⟩
  · constructor
    · intro h; omega
    · rintro ⟨x, hx, e⟩; exact absurd e (h2 x hx)
  · exact ⟨fun _ => ⟨x, List.mem_of_getElem? h1, h2⟩, fun _ => by omega⟩
theorem keysT_mem {a b : Tk} {k : ByteArray} : k ∈ keysT a b ↔ (∃ x ∈ a.ents, x.key = k) ∨ ∃ y ∈ b.ents, y.key = k := by
  simp only [keysT, List.mem_append, List.mem_map, List.mem_filter, decide_eq_true_eq]
  constructor
  · rintro (⟨x, hx, e⟩ | ⟨y, ⟨hy, _⟩, e⟩)
    · exact .inl ⟨x, hx, e⟩
    · exact .inr ⟨y, hy, e⟩
  · rintro (⟨x, hx, e⟩ | ⟨y, hy, e⟩)
    · exact .inl ⟨x, hx, e⟩
    · by_cases h : 0 ≤ findE y.key a.ents 0
      · obtain ⟨x, hx, ex⟩ := findE_nonneg.1 h
        exact .inl ⟨x, hx, by rw [key_injT ex]; exact e⟩
      · exact .inr ⟨y, ⟨hy, by omega⟩, e⟩
theorem keysT_nodup {a b : Tk} (ha : a.ents.Pairwise (fun a b => a.key.toList ≠ b.key.toList)) (hb : b.ents.Pairwise (fun a b => a.key.toList ≠ b.key.toList)) : (keysT a b).Nodup := by
  unfold keysT List.Nodup
  rw [List.pairwise_append]
  refine ⟨?_, ?_, ?_⟩
  · rw [List.pairwise_map]
    exact ha.imp fun h e => h (by rw [e])
  · rw [List.pairwise_map]
    exact (hb.filter _).imp fun h e => h (by rw [e])
  · intro k hk k' hk' e
    obtain ⟨x, hx, rfl⟩ := List.mem_map.1 hk
    obtain ⟨y, hy, rfl⟩ := List.mem_map.1 hk'
    rw [List.mem_filter, decide_eq_true_eq] at hy
    exact findE_neg hy.2 x hx (by rw [e])
theorem leastT_rng {s : Int} {l : List En} (h : ∀ x ∈ l, RtE x) : 0 ≤ leastT s l ∧ leastT s l ≤ 1099511627776 := by
  unfold leastT
  split
  · omega
  · rename_i hn
    obtain ⟨x, hx⟩ := get_lt (show l.length - 1 < l.length by omega)
    have := h x (List.mem_of_getElem? hx)
    obtain ⟨r1, r2, r3, r4, r5⟩ := this
    rw [entE, show ((l.length : Int) - 1).toNat = l.length - 1 by omega, hx]
    simp only [Option.getD_some]; omega
theorem gotT_rng {t : Tk} (h : ∀ x ∈ t.ents, RtE x) (k : ByteArray) : 0 ≤ (gotT t k).count ∧ (gotT t k).count ≤ 1099511627776 ∧ 0 ≤ (gotT t k).err ∧ (gotT t k).err ≤ (gotT t k).count ∧ (0 ≤ findE k t.ents 0 → 1 ≤ (gotT t k).count) := by
  unfold gotT
  split
  · rename_i hf
    rcases findE_split k t.ents 0 with ⟨h1, _⟩ | ⟨i, x, hx, hxk, h3, _⟩
    · omega
    · rw [Nat.zero_add] at h3
      obtain ⟨r1, r2, r3, r4, r5⟩ := h x (List.mem_of_getElem? hx)
      simp only [entE, h3, Int.toNat_natCast, hx, Option.getD_some]
      omega
  · rename_i hf
    have := leastT_rng (s := t.size) h
    simp only; omega
theorem pairT_rng {a b : Tk} (ha : ∀ x ∈ a.ents, RtE x) (hb : ∀ x ∈ b.ents, RtE x) (k : ByteArray) : 0 ≤ (pairT a b k).count ∧ (pairT a b k).count ≤ 1099511627776 ∧ 0 ≤ (pairT a b k).err ∧ (pairT a b k).err ≤ 1099511627776 ∧ (k ∈ keysT a b → 1 ≤ (pairT a b k).count) := by
  have h1 := sumT_rngT (gotT a k).count (gotT b k).count
  have h2 := sumT_rngT (gotT a k).err (gotT b k).err
  have ga := gotT_rng ha k
  have gb := gotT_rng hb k
  refine ⟨h1.1, h1.2, h2.1, h2.2, fun hk => ?_⟩
  have h3 := sumT_geT (a := (gotT a k).count) (b := (gotT b k).count) ga.1 ga.2.1
  have h4 : (gotT b k).count ≤ (sumT (gotT a k).count (gotT b k).count).1 := by
    simp only [sumT, addSat]
    split <;> simp only <;> omega
  simp only [pairT]
  rcases keysT_mem.1 hk with ⟨x, hx, rfl⟩ | ⟨x, hx, rfl⟩
  · have := ga.2.2.2.2 (findE_nonneg.2 ⟨x, hx, rfl⟩); omega
  · have := gb.2.2.2.2 (findE_nonneg.2 ⟨x, hx, rfl⟩); omega
theorem pair_ents_ok {a b : Tk} (ha : OkT a.ents) (hb : OkT b.ents) : OkT (sortE [] ((keysT a b).map fun k => capE (pairT a b k))) := by
  refine sortT_ok (fun x hx => ?_) ?_
  · obtain ⟨k, hk, rfl⟩ := List.mem_map.1 hx
    obtain ⟨p1, p2, p3, p4, p5⟩ := pairT_rng ha.range hb.range k
    have p5 := p5 hk
    have hko : keyOk k = true := by
      rcases keysT_mem.1 hk with ⟨y, hy, rfl⟩ | ⟨y, hy, rfl⟩
      · exact (ha.range y hy).1
      · exact (hb.range y hy).1
    exact ⟨hko, p5, p2, by simp only [capE]; omega, by simp only [capE]; omega⟩
  · rw [List.pairwise_map]
    exact (keysT_nodup ha.keys hb.keys).imp fun h e => h (key_injT e)
theorem OkT.take {l : List En} (h : OkT l) (n : Nat) : OkT (l.take n) :=
  ⟨fun x hx => h.range x (List.mem_of_mem_take hx), h.keys.sublist (List.take_sublist ..), h.desc.sublist (List.take_sublist ..)⟩
theorem mrgT_ok {a b : Tk} (ha : validT a = 0) (hb : validT b = 0) (hs : a.size = b.size) : (mrgT a b).2 = 0 ∧ (mrgT a b).1.size = a.size ∧ validT (mrgT a b).1 = 0 ∧ mrgT a b = (⟨a.size,(sumT a.total b.total).1,(sortE [] ((keysT a b).map fun k => capE (pairT a b k))).take a.size.toNat,((a.sat || b.sat) || (sumT a.total b.total).2) || (keysT a b).any (pairS a b)⟩,0) := by
  obtain ⟨⟨s1, s2⟩, ⟨t1, t2⟩, l1, ok⟩ := validT_iff.1 ha
  obtain ⟨⟨s1', s2'⟩, ⟨t1', t2'⟩, l1', ok'⟩ := validT_iff.1 hb
  have e : mrgT a b = (⟨a.size, (sumT a.total b.total).1, (sortE [] ((keysT a b).map fun k => capE (pairT a b k))).take a.size.toNat, ((a.sat || b.sat) || (sumT a.total b.total).2) || (keysT a b).any (pairS a b)⟩, 0) := by
    unfold mrgT
    rw [if_neg (by simp [ha]), if_neg (by simp [hb]), if_neg (by simp [hs])]
  refine ⟨by rw [e], by rw [e], ?_, e⟩
  rw [e]
  exact validT_iff.2 ⟨⟨s1, s2⟩, sumT_rngT _ _, by simp only [List.length_take]; omega, (pair_ents_ok ok ok').take _⟩
theorem keysT_comm {a b : Tk} (ha : OkT a.ents) (hb : OkT b.ents) : (keysT a b).Perm (keysT b a) := by
  rw [List.perm_ext_iff_of_nodup (keysT_nodup ha.keys hb.keys) (keysT_nodup hb.keys ha.keys)]
  intro k
  rw [keysT_mem, keysT_mem, or_comm]
theorem got_at {t : Tk} (h : t.ents.Pairwise (fun a b => a.key.toList ≠ b.key.toList)) {x : En} (hx : x ∈ t.ents) : gotT t x.key = x := by
  unfold gotT
  rw [if_pos (findE_nonneg.2 ⟨x, hx, rfl⟩)]
  rcases findE_split x.key t.ents 0 with ⟨h1, h2⟩ | ⟨i, y, hy, hyk, h3, _⟩
  · exact absurd rfl (h2 x hx)
  · rw [Nat.zero_add] at h3
    simp only [entE, h3, Int.toNat_natCast, hy, Option.getD_some]
    obtain ⟨j, hj, rfl⟩ := List.mem_iff_getElem.1 hx
    obtain ⟨hi, rfl⟩ := List.getElem?_eq_some_iff.1 hy
    rcases Nat.lt_trichotomy i j with hh | hh | hh
    · exact absurd hyk (List.pairwise_iff_getElem.1 h i j hi hj hh)
    · subst hh; rfl
    · exact absurd hyk.symm (List.pairwise_iff_getElem.1 h j i hj hi hh)
end Go.Proofs.Ytnckgbmifigadaa
