/- FrequentCommutes: merging is commutative, and merging with an empty summary changes nothing. -/
import Derived.Test.YtpopgpjojbngcaaFrM
import Derived.Test.YtpopgpjojbngcaaFrQ
set_option linter.unusedSimpArgs false
set_option linter.unusedVariables false
namespace Go.Proofs.Ytpopgpjojbngcaa
open Go.RowKit Go.Avm Go.ChangeShapes Go.WideShapes Go.ChangeAt
theorem mrg_len {f g : Fq} : (mrgF f g).1.ents.length ≤ 100000 := by
  unfold mrgF
  split
  · simp [zeroF]
  · rename_i h1
    split
    · simp [zeroF]
    · rename_i h2
      split
      · simp [zeroF]
      · have q1 := validF_ok (f := f) (by omega)
        have q2 := validF_ok (f := g) (by omega)
        have h := join_len f.ents g.ents
        have h3 := lower_len (dP (joinE f.ents g.ents) f.size) (joinE f.ents g.ents)
        split <;> simp only <;> omega
theorem key_inj {a b : ByteArray} (h : a.toList = b.toList) : a = b := by
  rw [Go.ByteArray.toList_eq, Go.ByteArray.toList_eq] at h
  exact ByteArray.ext (Array.toList_inj.1 h)
theorem sumT_comm {a b : Int} (ha : 0 ≤ a) (ha' : a ≤ 1099511627776) (hb : 0 ≤ b) (hb' : b ≤ 1099511627776) : sumT a b = sumT b a := by
  simp only [sumT, addSat]
  by_cases h : a + b ≤ 1099511627776
  · rw [if_neg (by omega), if_neg (by omega)]
    rw [show max a 0 + max b 0 = max b 0 + max a 0 by omega]
  · rw [if_pos (by omega), if_pos (by omega)]
theorem sumT_zero {a : Int} (ha : 0 ≤ a) (ha' : a ≤ 1099511627776) : sumT a 0 = (a, false) := by
  simp only [sumT, addSat]
  rw [if_neg (by omega)]
  rw [show max a 0 + max (0 : Int) 0 = a by omega]
theorem join_comm : ∀ a b : List En, Rng a → Rng b → joinE a b = joinE b a ∧ joinS a b = joinS b a
  | [], b, _, _ => by rw [joinE_nil, joinS_nil]; simp [joinE, joinS]
  | x :: a, [], _, _ => by rw [joinE_nil, joinS_nil]; simp [joinE, joinS]
  | x :: a, y :: b, ha, hb => by
    have ha' : Rng a := fun z hz => ha z (List.mem_cons_of_mem _ hz)
    have hb' : Rng b := fun z hz => hb z (List.mem_cons_of_mem _ hz)
    have i1 := join_comm a (y :: b) ha' hb
    have i2 := join_comm (x :: a) b ha hb'
    have i3 := join_comm a b ha' hb'
    have hx := ha x (by simp)
    have hy := hb y (by simp)
    by_cases h1 : Op.bytesLess x.key.toList y.key.toList = true
    · have h2 : ¬ Op.bytesLess y.key.toList x.key.toList = true := by simp [bl_asymm h1]
      have e1 : joinE (x :: a) (y :: b) = x :: joinE a (y :: b) := by rw [joinE, if_pos h1]
      have e2 : joinE (y :: b) (x :: a) = x :: joinE (y :: b) a := by rw [joinE, if_neg h2, if_pos h1]
      have e3 : joinS (x :: a) (y :: b) = joinS a (y :: b) := by rw [joinS, if_pos h1]
      have e4 : joinS (y :: b) (x :: a) = joinS (y :: b) a := by rw [joinS, if_neg h2, if_pos h1]
      rw [e1, e2, e3, e4, i1.1, i1.2]
      exact ⟨rfl, rfl⟩
    · by_cases h2 : Op.bytesLess y.key.toList x.key.toList = true
      · have e1 : joinE (x :: a) (y :: b) = y :: joinE (x :: a) b := by rw [joinE, if_neg h1, if_pos h2]
        have e2 : joinE (y :: b) (x :: a) = y :: joinE b (x :: a) := by rw [joinE, if_pos h2]
        have e3 : joinS (x :: a) (y :: b) = joinS (x :: a) b := by rw [joinS, if_neg h1, if_pos h2]
        have e4 : joinS (y :: b) (x :: a) = joinS b (x :: a) := by rw [joinS, if_pos h2]
        rw [e1, e2, e3, e4, i2.1, i2.2]
        exact ⟨rfl, rfl⟩
      · have he : x.key.toList = y.key.toList := by
          rcases bl_total x.key.toList y.key.toList with h | h | h
          · exact absurd h h1
          · exact h
          · exact absurd h h2
        have hk := key_inj he
        have hc := sumT_comm (a := x.count) (b := y.count) (by omega) hx.2.2.1 (by omega) hy.2.2.1
        have e1 : joinE (x :: a) (y :: b) = ⟨x.key, (sumT x.count y.count).1, 0⟩ :: joinE a b := by rw [joinE, if_neg h1, if_neg h2]
        have e2 : joinE (y :: b) (x :: a) = ⟨y.key, (sumT y.count x.count).1, 0⟩ :: joinE b a := by rw [joinE, if_neg h2, if_neg h1]
        have e3 : joinS (x :: a) (y :: b) = ((sumT x.count y.count).2 || joinS a b) := by rw [joinS, if_neg h1, if_neg h2]
        have e4 : joinS (y :: b) (x :: a) = ((sumT y.count x.count).2 || joinS b a) := by rw [joinS, if_neg h2, if_neg h1]
        rw [e1, e2, e3, e4, i3.1, i3.2, hk, hc]
        exact ⟨rfl, rfl⟩
termination_by a b => a.length + b.length
theorem mrg_comm {f g : Fq} (hf : validF f = 0) (hg : validF g = 0) (hs : f.size = g.size) : mrgF f g = mrgF g f := by
  have q1 := validF_ok hf
  have q2 := validF_ok hg
  obtain ⟨j1, j2⟩ := join_comm f.ents g.ents q1.1.range q2.1.range
  have c1 := sumT_comm q1.2.2.2.1 q1.2.2.2.2.1 q2.2.2.2.1 q2.2.2.2.2.1
  have c2 := sumT_comm q1.2.2.2.2.2.1 q1.2.2.2.2.2.2.1 q2.2.2.2.2.2.1 q2.2.2.2.2.2.2.1
  have hm : mrgS f g = mrgS g f := by
    simp only [mrgS, c1, c2, j2, Bool.or_comm f.sat g.sat]
  have h1 : ¬ (validF f ≠ 0) := by simp [hf]
  have h2 : ¬ (validF g ≠ 0) := by simp [hg]
  have h3 : ¬ (f.size ≠ g.size) := by simp [hs]
  have h4 : ¬ (g.size ≠ f.size) := by simp [hs]
  unfold mrgF
  simp only [if_neg h1, if_neg h2, if_neg h3, if_neg h4]
  rw [hm, c1, c2, j1, hs]
theorem new_ok {f : Fq} {n : Int} (h : validF f = 0 ∧ f.size = 1 + n % 4) : newF f.size = (⟨f.size, 0, 0, [], false⟩, 0) ∧ validF (newF f.size).1 = 0 := by
  obtain ⟨e1, e2⟩ := newF_valid (n := f.size) (by omega) (by omega)
  rw [e1]
  exact ⟨rfl, e2⟩
theorem mrg_new {f : Fq} {n : Int} (h : validF f = 0 ∧ f.size = 1 + n % 4) : (mrgF f (newF f.size).1).1 = f := by
  obtain ⟨e1, e2⟩ := new_ok h
  have q1 := validF_ok h.1
  rw [e1] at e2 ⊢
  have c1 := sumT_zero q1.2.2.2.1 q1.2.2.2.2.1
  have c2 := sumT_zero q1.2.2.2.2.2.1 q1.2.2.2.2.2.2.1
  unfold mrgF
  simp only at e2 ⊢
  rw [if_neg (by simp [h.1]), if_neg (by simp [e2]), if_neg (by simp), joinE_nil, if_neg (by omega)]
  simp [mrgS, c1, c2, joinS_nil]
theorem mk_valid {f : Fq} {n : Int} (h : validF f = 0 ∧ f.size = 1 + n % 4) : validF f = 0 := h.1
theorem mk_swap {f g : Fq} {n : Int} (h : validF f = 0 ∧ f.size = 1 + n % 4) (h' : validF g = 0 ∧ g.size = 1 + n % 4) : (mrgF f g).1 = (mrgF g f).1 := by rw [mrg_comm h.1 h'.1 (by omega)]
theorem mk_size {f : Fq} {n : Int} (h : validF f = 0 ∧ f.size = 1 + n % 4) : sizeOk f.size = true := by simp [sizeOk]; omega
theorem mk_nsize {f : Fq} {n : Int} (h : validF f = 0 ∧ f.size = 1 + n % 4) : f.size = (newF f.size).1.size := by rw [(new_ok h).1]
theorem mrgv_calls {s t lo s' t' lo' : Int} {l l' : List En} {sat sat' : Bool} (hz : validF ⟨s, t, lo, l, sat⟩ = 0) (hz' : validF ⟨s', t', lo', l', sat'⟩ = 0) (hs : s = s') : ACalls Try.prog 28 [dF ⟨s, t, lo, l, sat⟩, dF ⟨s', t', lo', l', sat'⟩] (.tup [dF (mrgF ⟨s, t, lo, l, sat⟩ ⟨s', t', lo', l', sat'⟩).1, .sc (.int .i64 0)]) [] := by
  have q1 := validF_ok hz
  have q2 := validF_ok hz'
  have h := mrgf_calls (s := s) (t := t) (lo := lo) (l := l) (sat := sat) (s' := s') (t' := t') (lo' := lo') (l' := l') (sat' := sat') (by have := q1.2.2.1; have := q1.2.2.2.2.2.2.2; simp only at *; omega) (by have := q2.2.2.1; have := q2.2.2.2.2.2.2.2; simp only at *; omega) (fun x hx => by have := keyOk_size (q1.1.range x hx).1; omega) (fun x hx => by have := keyOk_size (q2.1.range x hx).1; omega)
  have e : (mrgF ⟨s, t, lo, l, sat⟩ ⟨s', t', lo', l', sat'⟩).2 = 0 := by
    unfold mrgF
    rw [if_neg (by simp [hz]), if_neg (by simp [hz']), if_neg (by simpa using hs)]
    split <;> rfl
  rw [e] at h
  exact h
theorem newv_calls {n : Int} (h : sizeOk n = true) : ACalls Try.prog 18 [.sc (.int .i64 n)] (.tup [dF (newF n).1, .sc (.int .i64 0)]) [] := by
  have h1 := newf_calls (n := n)
  rw [show (newF n).2 = 0 by simp [newF, h]] at h1
  exact h1
theorem samef_eq {f g : Fq} (h : f = g) (hl : g.ents.length ≤ 100000) : ACalls Try.prog 20 [dF f, dF g] (.sc (.bool true)) [] := by
  subst h
  exact samef_calls hl
theorem mk_len {f : Fq} {n : Int} (h : validF f = 0 ∧ f.size = 1 + n % 4) : f.ents.length ≤ 100000 := by have := validF_ok h.1; omega
set_option maxRecDepth 100000 in set_option maxHeartbeats 6400000 in
theorem frequentCommutes_calls {size : Int} {l m : List Int} : ACalls Try.prog 6 [.sc (.int .i64 size), .sl 1 (l.map rowJ), .sl 1 (m.map rowJ)] (.sc (.bool true)) [] := by
  refine of_tri [] [7, 8, 9, 11, 13, 15, 19, 22, 26, 32, 38, 44, 64, 69, 72] Try.func6 rfl call6 rfl (by decide) (by decide) rfl rfl Try.ntmps6 (by simp (disch := omega) only [seval, go_sem, cnd, intV, shV, convV, strV, List.replicate, List.zip_nil_left, List.zip_cons_cons]; rfl) (by simp (disch := omega) only [seval, go_sem, cnd, intV, shV, convV, strV, List.zip_nil_left, List.zip_cons_cons]; rfl) ?_
  ((repeat' (first | (with_reducible (first | refine Tri.seq ?_ | refine Tri.block ?_ | refine Tri.skip ?_ | refine Tri.exit ?_ | refine Tri.ret ?_ | refine TriD.nilP ?_ | refine TriD.nil ?_ | refine ListD.nil ?_ | refine thenQ_n ?_ | refine thenQ_r ?_ | refine thenQ_e ?_ | refine inBlockQ_n ?_ | refine inBlockQ_r ?_ | refine inBlockQ_e ?_ | refine inBlockQ_o (by decide) ?_ | refine loopQ_n ?_ | refine loopQ_r ?_ | refine loopQ_e ?_ | refine Tri.regionD (by simp only [List.map_cons, List.map_nil]; rfl) ?_)) | ((with_reducible refine isTriD ?_); first | (with_reducible refine TriD.step (by simp only [seval, go_sem, dF, beq_self_eq_true]; rfl) ?_) | ((with_reducible refine isCallD ?_); first | ((with_reducible (first | refine TriD.dE (by simp only [seval, go_sem, dF, beq_self_eq_true]; rfl) (by simp only [seval, go_sem, dF, beq_self_eq_true]; first | done | rfl) ?_ | refine TriD.dS (by simp only [seval, go_sem, dF, beq_self_eq_true]; rfl) (by simp only [seval, go_sem, dF, beq_self_eq_true]; first | done | rfl) ?_)); first | refine CallK.c [] (mrgv_calls ?_ ?_ ?_) (by simp only [seval, go_sem, dF, beq_self_eq_true]; rfl) ?_ | refine CallK.c [] (newv_calls ?_) (by simp only [seval, go_sem, dF, beq_self_eq_true]; rfl) ?_ | refine CallK.c [] (samef_eq ?_ ?_) (by simp only [seval, go_sem, dF, beq_self_eq_true]; rfl) ?_ | refine CallK.c [] (mrgf_calls ?_ ?_ ?_ ?_) (by simp only [seval, go_sem, dF, beq_self_eq_true]; rfl) ?_ | refine CallK.c [] (newf_calls) (by simp only [seval, go_sem, dF, beq_self_eq_true]; rfl) ?_ | refine CallK.c [] (samef_calls ?_) (by simp only [seval, go_sem, dF, beq_self_eq_true]; rfl) ?_ | refine CallK.c [] (known10_calls) (by simp only [seval, go_sem, dF, beq_self_eq_true]; rfl) ?_) | (with_reducible (first | (with_unfolding_all refine TriD.callX (dst := _) true [] [] (by simp only [seval, go_sem, dF, beq_self_eq_true]) rfl (madef_x) ⟨by simp only [seval, go_sem, dF, beq_self_eq_true]; first | done | rfl, rfl⟩ (by decide) (fun _ => rfl) rfl rfl (fun _ => by first | rfl | (simp only [seval, go_sem, dF, beq_self_eq_true]; first | done | fail)) (fun _ => by first | rfl | (simp only [seval, go_sem, dF, beq_self_eq_true]; first | done | fail)) (fun t ht => ?_); (try dsimp only at ht)) | (with_unfolding_all refine TriD.callX (dst := _) false [] [] (by simp only [seval, go_sem, dF, beq_self_eq_true]) rfl (madef_x) ⟨by simp only [seval, go_sem, dF, beq_self_eq_true]; first | done | rfl, rfl, (fun _ _ => flat_of (by first | rfl | (simp only [seval, go_sem, dF, beq_self_eq_true]; first | done | fail)) (by first | rfl | (simp only [seval, go_sem, dF, beq_self_eq_true]; first | done | fail)))⟩ (by decide) (fun _ => rfl) rfl rfl (fun _ => by first | rfl | (simp only [seval, go_sem, dF, beq_self_eq_true]; first | done | fail)) (fun _ => by first | rfl | (simp only [seval, go_sem, dF, beq_self_eq_true]; first | done | fail)) (fun t ht => ?_); (try dsimp only at ht))))) | (with_reducible refine TriD.step (by simp (disch := omega) only [seval, go_sem, cnd, intV, shV, convV, strV, dF, beq_self_eq_true]; rfl) ?_) | (with_reducible (first | refine isAnd2 52 ?_ | refine isAnd2 56 ?_ | refine isAnd2 60 ?_ | refine isAnd2 65 ?_ | refine isAnd2 70 ?_ | refine isAnd2 73 ?_); with_reducible refine TriD.and2 (by simp only [seval, go_sem, dF, beq_self_eq_true]; first | done | rfl) (by simp only [seval, go_sem, dF, beq_self_eq_true]; first | done | rfl) (by decide) (by simp only [seval, go_sem, dF, beq_self_eq_true, List.length_cons, List.length_nil]) (by simp only [seval, go_sem, dF, beq_self_eq_true]) (by first | (simp only [seval, go_sem, dF, beq_self_eq_true]; rfl) | (simp (disch := omega) only [seval, go_sem, cnd, intV, shV, convV, strV, dF, beq_self_eq_true]; rfl)) (by simp only [seval, go_sem, dF, beq_self_eq_true]; rfl) ?_) | (with_reducible refine TriD.byGuard (by simp only [seval, go_sem, dF, beq_self_eq_true]; rfl) (by simp only [seval, go_sem, dF, beq_self_eq_true]; rfl) (by (fail_if_success (with_reducible exact nlT)); (fail_if_success (with_reducible exact nlF)); exact nlI) (cvI ?_) (cvI ?_))) | ((with_reducible refine isListD ?_); first | (with_reducible refine ListD.step (by simp only [seval, go_sem, dF, beq_self_eq_true]; rfl) ?_) | (with_reducible refine ListD.step (by simp (disch := omega) only [seval, go_sem, cnd, intV, shV, convV, strV, dF, beq_self_eq_true]; rfl) ?_) | (with_reducible refine ListD.byGuard (by simp only [seval, go_sem, dF, beq_self_eq_true]; rfl) (by simp only [seval, go_sem, dF, beq_self_eq_true]; rfl) (by (fail_if_success (with_reducible exact nlT)); (fail_if_success (with_reducible exact nlF)); exact nlI) (cvI ?_) (cvI ?_))) | (with_reducible refine isCond ?_; with_reducible refine Tri.cond (by simp only [seval, go_sem, dF, beq_self_eq_true]; rfl) (cvI ?_) (cvI ?_)) | (with_reducible refine isCv ?_; intro hc; (try simp only [bls, reduceCtorEq] at hc); (try (exfalso; omega))) | (with_reducible refine isDrawn ?_; refine Tri.drawnD mix (by kernel_rfl) (by simp only [List.map_cons, List.map_nil]; rfl) ?_) | (with_reducible refine isRet ?_; refine RetOK.q rfl rfl (by simp only [seval, go_sem]; rfl) (by decide) (by simp only [seval, go_sem]; first | done | rfl) (by simp only [seval, go_sem]; first | done | rfl) rfl ?_ <;> (try simp only [seval, go_sem]) <;> (repeat' (with_reducible apply And.intro)) <;> (try rfl)))) <;> (try (first | (with_reducible assumption) | ((with_reducible show (_ : Int) ≤ _); omega) | ((with_reducible show (_ : Nat) ≤ _); omega))))
  all_goals first
    | exact mk_valid ‹validF _ = 0 ∧ _›
    | exact (new_ok ‹validF _ = 0 ∧ _›).2
    | exact mk_size ‹validF _ = 0 ∧ _›
    | exact mk_nsize ‹validF _ = 0 ∧ _›
    | exact mrg_new ‹validF _ = 0 ∧ _›
    | exact mk_swap ‹validF _ = 0 ∧ _› ‹validF _ = 0 ∧ _›
    | exact mrg_len
    | exact mk_len ‹validF _ = 0 ∧ _›
    | omega
    | (simp; done)
theorem frequentCommutes_own : ownKnob Try.prog.godebug = none := by kernel_rfl
theorem frequentCommutes_laid : laidOutB Try.prog = true := by kernel_rfl
set_option maxRecDepth 100000 in
theorem frequentCommutes_lifted (os : Os) (started : os.Started) (H : Type) (enc : TypeId × Value → H) :
    ReturnsInHanded {} Try.checked os 6 .any (Rows.frequentCommutesSpec.pre6 enc Try.prog Try.f6 Rows.frequentCommutesRow.domain false) (Rows.frequentCommutesSpec.post enc Try.prog Try.f6 false true false false) := by
  refine returnsInHanded_of_change (C := Try.checked) frequentCommutes_own started (by kernel_rfl) Try.func6
    (ChangeSpec.witness6 (enc := enc) (C := Try.checked) false ⟨#[], #[.int .i64 0, .slice none 0 0, .slice none 0 0], []⟩ 8 (by kernel_rfl) (by kernel_rfl) (by kernel_rfl) (by kernel_rfl)) ?_
  intro W base args ds gs before hval0 hW hcnd _
  have hval : ∀ (j : Nat) t v, Try.f6.params[j]? = some t → args[j]? = some v → Value.okWide Try.prog W .any base t v := hval0
  have hW' := hW
  obtain ⟨p, q, hA0, hV, rfl, hfz, hnd⟩ := hW
  have hA : DataW.TrodAll enc Try.prog W 0 (fun _ => true) true Try.f6.params.toList args.toList ds p := hA0
  rw [Try.params6] at hA hval
  obtain ⟨v0, vs0, d0, ds0, p0, q0, hargs, rfl, rfl, h0, r0⟩ := trodAll_cons hA
  obtain ⟨v1, vs1, d1, ds1, p1, q1, rfl, rfl, rfl, h1, r1⟩ := trodAll_cons r0
  obtain ⟨v2, vs2, d2, ds2, p2, q2, rfl, rfl, rfl, h2, r2⟩ := trodAll_cons r1
  obtain ⟨rfl, rfl, rfl⟩ := trodAll_nil r2
  obtain rfl : args = #[v0, v1, v2] := by cases args; simp_all
  obtain ⟨a0, x0, w0⟩ := arg_int Try.underlying3 (hval 0 3 v0 rfl rfl) h0
  obtain ⟨a1, x1, w1, l1⟩ := arg_ints Try.underlying22 Try.underlying3 (by kernel_rfl) (hval 1 22 v1 rfl rfl) h1
  obtain ⟨a2, x2, w2, l2⟩ := arg_ints Try.underlying22 Try.underlying3 (by kernel_rfl) (hval 2 22 v2 rfl rfl) h2
  exact law_step (xs := [.sc (.int .i64 a0), .sl 1 (a1.map fun z => [.sc (.int .i64 z)]), .sl 1 (a2.map fun z => [.sc (.int .i64 z)])]) hW' rfl frequentCommutes_laid (by kernel_rfl) (fun gs' h => by subst h; rfl) rfl Try.underlying4 (by simp only [RL]; exact ⟨_, _, rfl, x0, ⟨_, _, rfl, x1, ⟨_, _, rfl, x2, rfl⟩⟩⟩) (frequentCommutes_calls)
theorem frequentCommutes_over : Rows.frequentCommutesRow.holds Try.pinned (OpenSpec.ofChange Rows.frequentCommutesSpec) :=
  OpenClaim.holds_of_wide 6 Try.f6 rfl rfl rfl rfl rfl rfl rfl ⟨rfl, rfl, rfl, rfl, rfl⟩ rfl rfl rfl rfl rfl (by kernel_rfl) Try.func6 (by kernel_rfl)
    (of_decide_eq_true (by kernel_rfl)) (by unfold Func.isWrapper; first | (rw [if_pos (by decide +kernel)]; kernel_rfl) | (rw [if_neg (by decide +kernel)]; exact ⟨rfl, rfl⟩))
    (fun os started H enc _ => frequentCommutes_lifted os started H enc)
theorem frequentCommutes_holds : Rows.FrequentCommutesSaid := frequentCommutes_over

end Go.Proofs.Ytpopgpjojbngcaa
