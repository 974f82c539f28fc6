/- The abstract machine, part M: from a law's contract to its row: the arguments opened, the world behind. -/
import Derived.Test.YtpopgpjojbngcaaAvmL
import Derived.OpenShut
namespace Go.Avm
set_option linter.unusedVariables false
set_option linter.unusedSimpArgs false
open Go.RowKit Go.ChangeShapes Go.WideShapes Go.ChangeAt

section
variable {H : Type} {enc : TypeId × Value → H} {P : Program}
theorem args_stay (hl : laidOutB P = true) {W W' : World} (hb : Below W.heap.size W W') : ∀ {ts : List TypeId} {vs : List Value} {ds : List (DataW H)} {ps : List MemPlace}, (∀ t ∈ ts, P.readableRec t = true ∧ t < P.types.size) →
    DataW.TrodAll enc P W 0 (fun _ => true) true ts vs ds ps → (∀ x ∈ ps, x.block < W.heap.size) → DataW.TrodAll enc P W' 0 (fun b => decide (b < W.heap.size)) true ts vs ds ps
  | [], vs, ds, ps, _, h, _ => by
    obtain ⟨rfl, rfl, rfl⟩ := trodAll_nil h
    exact trodAll_mk0
  | t :: ts, vs, ds, ps, hr, h, hlt => by
    obtain ⟨v, vs', d, ds', p, q, rfl, rfl, rfl, h1, h2⟩ := trodAll_cons h
    obtain ⟨r1, r2⟩ := hr t (by simp)
    exact trodAll_cons_mk (Below.trod hl r1 r2 h1 hb (fun x hx => hlt x (by simp [hx]))) (args_stay hl hb (fun t' ht' => hr t' (by simp [ht'])) h2 (fun x hx => hlt x (by simp [hx])))

theorem law_post {f : Func} {s : ChangeSpec} {W W' : World} {args : Array Value} {ds gs : List (DataW H)} {before : List MemPlace} {tb : TypeId} (hW : DataW.Whole enc P f.params.toList s.vars false W args.toList ds gs before) (hvars : s.vars = [])
    (hl : laidOutB P = true) (hr : f.params.toList.all (fun t => P.readableRec t && decide (t < P.types.size)) = true) (hs : ∀ gs', gs' = [] → s.fn H (ds ++ gs') = { results := [.lit (.bool true)], args := ds }) (hres : f.resultTypes = #[tb]) (htb : P.underlying tb = some .bool)
    (hb : Below W.heap.size W W') : s.post enc P f false true false false W args (.bool true) W' := by
  have hlt := hW.lt
  have hW' := hW
  obtain ⟨p, q, hA, hV, rfl, hz, hn⟩ := hW
  have hgs : gs = [] ∧ q = [] := by
    rw [hvars] at hV
    cases gs with
    | nil => simp only [DataW.TrodVars] at hV; exact ⟨rfl, hV⟩
    | cons x xs => simp [DataW.TrodVars] at hV
  obtain ⟨rfl, rfl⟩ := hgs
  have hspec := hs [] rfl
  have hargs := args_stay hl hb (fun t ht => by have := List.all_eq_true.1 hr t ht; simpa using this) hA (fun x hx => hlt x (by simp [hx]))
  refine ⟨ds, [], p ++ [], [], p, [], hW', ?_, ?_, ?_, World.keptBut_mono (fun x hx => ⟨hx, Or.inr (Or.inl (by simpa using hx))⟩) (hb.frame (· ∈ p ++ [])), fun h => by cases h⟩
  · rw [hspec, hres]
    exact trodAll_mk1 (shut_bool htb true)
  · rw [hspec]; exact hargs
  · rw [hspec, hvars]; rfl

/-- The law's step, off its contract by value. -/
theorem law_step {f : FuncId} {fn : Func} {s : ChangeSpec} {W : World} {args : Array Value} {ds gs : List (DataW H)} {before : List MemPlace} {tb : TypeId} {xs : List D} (hW : DataW.Whole enc P fn.params.toList s.vars false W args.toList ds gs before) (hvars : s.vars = [])
    (hl : laidOutB P = true) (hr : fn.params.toList.all (fun t => P.readableRec t && decide (t < P.types.size)) = true) (hs : ∀ gs', gs' = [] → s.fn H (ds ++ gs') = { results := [.lit (.bool true)], args := ds }) (hres : fn.resultTypes = #[tb]) (htb : P.underlying tb = some .bool)
    (hx : RL W (fun g => g < W.heap.size) (fun _ => none) xs args.toList) (hc : ACalls P f xs (.sc (.bool true)) []) : Calls P f args W fun e W' => ∃ v, e = .returned v ∧ s.post enc P fn false true false false W args v W' := by
  have h := hc.run W _ (fun _ => none) args.toList (fun g hg => hg) ⟨fun j => by simp [RO], fun j j' g h => by simp at h, fun j g h => by simp at h⟩ hx
  rw [Array.toArray_toList] at h
  refine h.mono ?_
  rintro e W' ⟨v, rfl, ρ, ho⟩
  have hret := ho.ret
  simp only [R] at hret
  subst hret
  exact ⟨_, rfl, law_post hW hvars hl hr hs hres htb ⟨ho.below.os, ho.below.tape, ho.below.output, ho.below.size, fun k hk => ho.below.block k hk (by rintro ⟨j, hj, _⟩; simp at hj)⟩⟩

/-- An integer argument. -/
theorem arg_int {W : World} {base : Nat} {t : TypeId} {k : IntKind} {v : Value} {d : DataW H} {ps : List MemPlace} (ht : P.underlying t = some (.int k)) (hv : Value.okWide P W .any base t v) (h : DataW.Trod enc P W 0 (fun _ => true) true t v d ps) :
    ∃ n, R W (fun g => g < W.heap.size) (fun _ => none) (.sc (.int k n)) v ∧ (Lit.int k n).wf = true := by
  obtain ⟨n, rfl, _, _, hw⟩ := open_int ht hv h
  exact ⟨n, by simp [R], hw⟩
/-- A slice of integers. -/
theorem arg_ints {W : World} {base : Nat} {t e : TypeId} {k : IntKind} {v : Value} {d : DataW H} {ps : List MemPlace} (ht : P.underlying t = some (.slice e)) (he : P.underlying e = some (.int k)) (hc : P.cellsOf e = 1)
    (hv : Value.okWide P W .any base t v) (h : DataW.Trod enc P W 0 (fun _ => true) true t v d ps) :
    ∃ zs : List Int, R W (fun g => g < W.heap.size) (fun _ => none) (.sl 1 (zs.map fun z => [.sc (.int k z)])) v ∧ (∀ z ∈ zs, (Lit.int k z).wf = true) ∧ zs.length ≤ maxLen := by
  obtain ⟨A, n, c, rfl⟩ := okWide_slice ht hv
  obtain ⟨fuel, hf⟩ := h
  rcases open_ints ht he hc hf with ⟨h1, _⟩ | ⟨a, len, cap, zs, h1, _, h2, h3, h4, _, h5, h6⟩
  · have e : Value.slice A n c = .slice none 0 0 := by simpa [Value.cells] using h1
    rw [e]
    exact ⟨[], by simp only [R]; exact ⟨none, 0, rfl, by simp, Nat.zero_le _, .inl rfl⟩, by simp, Nat.zero_le _⟩
  · have e : Value.slice A n c = .slice (some a) len cap := by simpa [Value.cells] using h1
    rw [e]
    have hlz : len ≤ zs.length := by rw [h4]; split <;> omega
    have hl : (zs.take len).length = len := by rw [List.length_take]; omega
    refine ⟨zs.take len, ?_, fun z hz => h6 z (List.mem_of_mem_take hz), by omega⟩
    simp only [R, List.length_map, hl]
    refine ⟨some a, cap, rfl, h2, h3, ?_⟩
    by_cases h0 : len = 0
    · left; simp [h0]
    · right
      have hc0 := h5 0 (by omega)
      obtain ⟨g, off, spot⟩ := a
      have hspot : spot = none := by
        cases spot with
        | none => rfl
        | some x => simp [Addr.add, World.cell?] at hc0; split at hc0 <;> simp at hc0
      subst hspot
      have hlt : g < W.heap.size := by
        have := World.block_lt_of_cell? W _ hc0
        rw [Addr.add_lit] at this; exact this
      refine ⟨g, off, rfl, hlt, ?_⟩
      have key : ∀ (l : List Int) (i : Nat), (∀ j z, l[j]? = some z → W.cell? ⟨g, off + i + j, none⟩ = some (.int k z)) → RR W (fun g => g < W.heap.size) 1 g (off + i) (l.map fun z => [.sc (.int k z)]) := by
        intro l
        induction l with
        | nil => intro i _; simp [RR]
        | cons z l ih =>
          intro i hl
          simp only [List.map_cons, RR, RC]
          refine ⟨rfl, ⟨⟨_, by simpa using hl 0 z (by simp), rfl, by simp [R]⟩, trivial⟩, ?_⟩
          have := ih (i + 1) (fun j z' hj => by
            have := hl (j + 1) z' (by simpa using hj)
            rwa [show off + i + (j + 1) = off + (i + 1) + j by omega] at this)
          rwa [show off + (i + 1) = off + i + 1 by omega] at this
      have := key (zs.take len) 0 (fun j z hj => by
        rw [List.getElem?_take] at hj
        split at hj
        · have h7 := h5 j (by omega)
          rw [Addr.add_lit] at h7
          simp only [List.getD, hj, Option.getD_some] at h7
          simpa using h7
        · cases hj)
      simpa using this
end
end Go.Avm
