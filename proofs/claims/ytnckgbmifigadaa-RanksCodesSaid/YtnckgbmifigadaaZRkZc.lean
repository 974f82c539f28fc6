/- Ranks: the readers of the program; Decode of the program and DecodeRanks of the reference walked. -/
import Derived.Test.YtnckgbmifigadaaZRkZa
import Derived.Test.YtnckgbmifigadaaZAvmR
set_option linter.unusedSimpArgs false
set_option linter.unusedVariables false
namespace Go.Proofs.Ytnckgbmifigadaa
open Go.RowKit Go.Avm
set_option maxRecDepth 100000 in set_option maxHeartbeats 3200000 in
theorem pnumr_calls {b : List Int} {bad : Bool} (hb : BytesL b) (hl : b.length ≤ 1000000) : MCalls Try.prog 103 [.box [.sl 1 (b.map rowB), .sc (.bool bad)]] [.ref 0 0] (.sc (.int .i64 (numP (b, bad)).1)) [.box [.sl 1 ((numP (b, bad)).2.1.map rowB), .sc (.bool (numP (b, bad)).2.2)]] := by
  have hr := rdU_range hb
  have hd : (b.map rowB).drop (rdU b).2.1.toNat = (b.drop (rdU b).2.1.toNat).map rowB := by rw [List.map_drop]
  by_cases h : bad = true ∨ (rdU b).2.2 ≠ 0
  · have e : numP (b, bad) = (0, b, true) := if_pos h
    rw [e]
    cases bad
    all_goals
      simp only [Bool.false_eq_true, false_or, true_or] at h
      refine of_tri [1000] [11] Try.func103 rfl call103 rfl (by decide) (by decide) rfl rfl Try.ntmps103 (by simp (disch := omega) only [seval,go_sem,cnd,intV,shV,convV,strV,List.replicate,List.zip_nil_left,List.zip_cons_cons];rfl) (by simp (disch := omega) only [seval,go_sem,cnd,intV,shV,convV,strV,List.zip_nil_left,List.zip_cons_cons];rfl) ?_
      ((repeat' (first|(with_reducible (first|refine Tri.seq ?_|refine Tri.ret ?_|refine TriD.nil ?_|refine thenQ_n ?_|refine thenQ_r ?_|refine Tri.regionD (by simp only [List.map_cons,List.map_nil];rfl) ?_))|((with_reducible refine isTriD ?_);first|(with_reducible refine TriD.step (by simp only [seval,go_sem];rfl) ?_)|((with_reducible refine isCallD ?_);first|((with_reducible (first|refine TriD.dE (by simp only [seval,go_sem];rfl) (by simp only [seval,go_sem];first|rfl) ?_));first|refine CallK.c [] (du_calls ?_ ?_) (by simp only [seval,go_sem];rfl) ?_))|(with_reducible refine TriD.step (by simp (disch := omega) only [seval,go_sem,cnd,intV,shV,convV,strV];rfl) ?_))|(with_reducible refine isCond ?_;with_reducible refine Tri.cond (by simp only [seval,go_sem];rfl) (cvI ?_) (cvI ?_))|(with_reducible refine isCv ?_;intro hc;(try simp only [bls,reduceCtorEq] at hc);(try (exfalso;omega)))|(with_reducible refine isRet ?_;refine RetOK.q rfl rfl (by simp only [seval,go_sem];rfl) (by decide) (by simp only [seval,go_sem];first|rfl) (by simp only [seval,go_sem];first|rfl) rfl ?_ <;> (try simp only [seval,go_sem]) <;> (repeat' (with_reducible apply And.intro)) <;> (try rfl)))) <;> (try (first|(with_reducible assumption))))
  · have e : numP (b, bad) = ((rdU b).1, b.drop (rdU b).2.1.toNat, false) := if_neg h
    rw [e]
    have h1 : bad = false := by cases bad <;> simp_all
    subst h1
    have h2 : (rdU b).2.2 = 0 := by simp at h; exact h
    refine of_tri [1000] [11] Try.func103 rfl call103 rfl (by decide) (by decide) rfl rfl Try.ntmps103 (by simp (disch := omega) only [seval,go_sem,cnd,intV,shV,convV,strV,List.replicate,List.zip_nil_left,List.zip_cons_cons];rfl) (by simp (disch := omega) only [seval,go_sem,cnd,intV,shV,convV,strV,List.zip_nil_left,List.zip_cons_cons];rfl) ?_
    (all_goals (try have hZ := (And.intro h2 hd));(repeat' (first|(with_reducible (first|refine Tri.seq ?_|refine Tri.skip ?_|refine Tri.ret ?_|refine TriD.nil ?_|refine thenQ_n ?_|refine Tri.regionD (by simp only [List.map_cons,List.map_nil];rfl) ?_))|((with_reducible refine isTriD ?_);first|(with_reducible refine TriD.step (by simp only [seval,go_sem,hZ];rfl) ?_)|((with_reducible refine isCallD ?_);first|((with_reducible (first|refine TriD.dE (by simp only [seval,go_sem,hZ];rfl) (by simp only [seval,go_sem,hZ];first|rfl) ?_));first|refine CallK.c [] (du_calls ?_ ?_) (by simp only [seval,go_sem,hZ];rfl) ?_))|(with_reducible refine TriD.step (by simp (disch := omega) only [seval,go_sem,cnd,intV,shV,convV,strV,hZ];rfl) ?_))|(with_reducible refine isCond ?_;with_reducible refine Tri.cond (by simp only [seval,go_sem,hZ];rfl) (cvI ?_) (cvI ?_))|(with_reducible refine isCv ?_;intro hc;(try simp only [bls,reduceCtorEq] at hc);(try (exfalso;omega)))|(with_reducible refine isRet ?_;refine RetOK.q rfl rfl (by simp only [seval,go_sem];rfl) (by decide) (by simp only [seval,go_sem];first|rfl) (by simp only [seval,go_sem];first|rfl) rfl ?_ <;> (try simp only [seval,go_sem]) <;> (repeat' (with_reducible apply And.intro)) <;> (try rfl)))) <;> (try (first|(with_reducible assumption)));all_goals (try clear hZ))
set_option maxRecDepth 100000 in set_option maxHeartbeats 3200000 in
theorem ptxtr_calls {b : List Int} {bad : Bool} (hb : BytesL b) (hl : b.length ≤ 1000000) : MCalls Try.prog 104 [.box [.sl 1 (b.map rowB), .sc (.bool bad)]] [.ref 0 0] (.sc (.string (txtP (b, bad)).1)) [.box [.sl 1 ((txtP (b, bad)).2.1.map rowB), .sc (.bool (txtP (b, bad)).2.2)]] := by
  have hr := rdT_range hb
  have hd : (b.map rowB).drop (rdT b).2.1.toNat = (b.drop (rdT b).2.1.toNat).map rowB := by rw [List.map_drop]
  by_cases h : bad = true ∨ (rdT b).2.2 ≠ 0
  · have e : txtP (b, bad) = (.empty, b, true) := if_pos h
    rw [e]
    cases bad
    all_goals
      simp only [Bool.false_eq_true, false_or, true_or] at h
      refine of_tri [1000] [11] Try.func104 rfl call104 rfl (by decide) (by decide) rfl rfl Try.ntmps104 (by simp (disch := omega) only [seval,go_sem,cnd,intV,shV,convV,strV,List.replicate,List.zip_nil_left,List.zip_cons_cons];rfl) (by simp (disch := omega) only [seval,go_sem,cnd,intV,shV,convV,strV,List.zip_nil_left,List.zip_cons_cons];rfl) ?_
      ((repeat' (first|(with_reducible (first|refine Tri.seq ?_|refine Tri.ret ?_|refine TriD.nil ?_|refine thenQ_n ?_|refine thenQ_r ?_|refine Tri.regionD (by simp only [List.map_cons,List.map_nil];rfl) ?_))|((with_reducible refine isTriD ?_);first|(with_reducible refine TriD.step (by simp only [seval,go_sem];rfl) ?_)|((with_reducible refine isCallD ?_);first|((with_reducible (first|refine TriD.dE (by simp only [seval,go_sem];rfl) (by simp only [seval,go_sem];first|rfl) ?_));first|refine CallK.c [] (dt_calls ?_ ?_) (by simp only [seval,go_sem];rfl) ?_))|(with_reducible refine TriD.step (by simp (disch := omega) only [seval,go_sem,cnd,intV,shV,convV,strV];rfl) ?_))|(with_reducible refine isCond ?_;with_reducible refine Tri.cond (by simp only [seval,go_sem];rfl) (cvI ?_) (cvI ?_))|(with_reducible refine isCv ?_;intro hc;(try simp only [bls,reduceCtorEq] at hc);(try (exfalso;omega)))|(with_reducible refine isRet ?_;refine RetOK.q rfl rfl (by simp only [seval,go_sem];rfl) (by decide) (by simp only [seval,go_sem];first|rfl) (by simp only [seval,go_sem];first|rfl) rfl ?_ <;> (try simp only [seval,go_sem]) <;> (repeat' (with_reducible apply And.intro)) <;> (try rfl)))) <;> (try (first|(with_reducible assumption))))
      all_goals (try rfl)
  · have e : txtP (b, bad) = ((rdT b).1, b.drop (rdT b).2.1.toNat, false) := if_neg h
    rw [e]
    have h1 : bad = false := by cases bad <;> simp_all
    subst h1
    have h2 : (rdT b).2.2 = 0 := by simp at h; exact h
    refine of_tri [1000] [11] Try.func104 rfl call104 rfl (by decide) (by decide) rfl rfl Try.ntmps104 (by simp (disch := omega) only [seval,go_sem,cnd,intV,shV,convV,strV,List.replicate,List.zip_nil_left,List.zip_cons_cons];rfl) (by simp (disch := omega) only [seval,go_sem,cnd,intV,shV,convV,strV,List.zip_nil_left,List.zip_cons_cons];rfl) ?_
    (all_goals (try have hZ := (And.intro h2 hd));(repeat' (first|(with_reducible (first|refine Tri.seq ?_|refine Tri.skip ?_|refine Tri.ret ?_|refine TriD.nil ?_|refine thenQ_n ?_|refine Tri.regionD (by simp only [List.map_cons,List.map_nil];rfl) ?_))|((with_reducible refine isTriD ?_);first|(with_reducible refine TriD.step (by simp only [seval,go_sem,hZ];rfl) ?_)|((with_reducible refine isCallD ?_);first|((with_reducible (first|refine TriD.dE (by simp only [seval,go_sem,hZ];rfl) (by simp only [seval,go_sem,hZ];first|rfl) ?_));first|refine CallK.c [] (dt_calls ?_ ?_) (by simp only [seval,go_sem,hZ];rfl) ?_))|(with_reducible refine TriD.step (by simp (disch := omega) only [seval,go_sem,cnd,intV,shV,convV,strV,hZ];rfl) ?_))|(with_reducible refine isCond ?_;with_reducible refine Tri.cond (by simp only [seval,go_sem,hZ];rfl) (cvI ?_) (cvI ?_))|(with_reducible refine isCv ?_;intro hc;(try simp only [bls,reduceCtorEq] at hc);(try (exfalso;omega)))|(with_reducible refine isRet ?_;refine RetOK.q rfl rfl (by simp only [seval,go_sem];rfl) (by decide) (by simp only [seval,go_sem];first|rfl) (by simp only [seval,go_sem];first|rfl) rfl ?_ <;> (try simp only [seval,go_sem]) <;> (repeat' (with_reducible apply And.intro)) <;> (try rfl)))) <;> (try (first|(with_reducible assumption)));all_goals (try clear hZ))
/-- A text that is read takes a byte at least. -/
theorem txtP_less {s : List Int × Bool} (hb : BytesL s.1) (h : (txtP s).2.2 = false) : s.2 = false ∧ (txtP s).2.1.length < s.1.length := by
  unfold txtP at h ⊢
  split
  · rename_i hc; rw [if_pos hc] at h; simp at h
  · rename_i hc
    simp only [not_or, Decidable.not_not, Bool.not_eq_true] at hc
    have hk := congrArg List.length (rdT_ok hb hc.2).1
    rw [List.length_append] at hk
    refine ⟨hc.1, ?_⟩
    have hu : 1 ≤ (textB (rdT s.1).1).length := by
      simp only [textB, List.length_append]
      have : 1 ≤ (uintB (rdT s.1).1.size).length := by unfold uintB; split <;> simp
      omega
    simp only; omega
theorem flatRB (E : List Int) : (List.map rowB E).all flatL = true := by simp [List.all_eq_true, rowB, flatL, flatD]
def KeyBd (l : List ByteArray) : Prop := l.length ≤ 100000 ∧ ∀ x ∈ l, x.size ≤ 1000000000
theorem keyBd_snoc {ls : List (List ByteArray)} {l : List ByteArray} (h : ∀ x ∈ ls, KeyBd x) (h1 : KeyBd l) : ∀ x ∈ ls ++ [l], KeyBd x := fun x hx => by
  rcases List.mem_append.1 hx with hx | hx
  · exact h x hx
  · rw [List.mem_singleton.1 hx]; exact h1
theorem size_snoc {l : List ByteArray} {s : ByteArray} (h : ∀ x ∈ l, x.size ≤ 65536) (hs : s.size ≤ 65536) : ∀ x ∈ l ++ [s], x.size ≤ 65536 := fun x hx => by
  rcases List.mem_append.1 hx with hx | hx
  · exact h x hx
  · rw [List.mem_singleton.1 hx]; exact hs
set_option maxRecDepth 100000 in set_option maxHeartbeats 6400000 in
theorem decrr_calls {b : List Int} (hb : BytesL b) (hl : b.length ≤ 90000) : ACalls Try.prog 56 [.sl 1 (b.map rowB)] (.tup [dR (decRR b).1, .sc (.int .i64 (decRR b).2)]) [] := by
  have hl6 : b.length ≤ 1000000 := by omega
  have q1 := numR_ok (most := 32) hb (s := (0, false)) ⟨by simp, by simp⟩ (by omega)
  obtain ⟨n1, a1, k1, e1⟩ : ∃ n a k, numR b 32 (0, false) = (n, a, k) := ⟨_, _, _, rfl⟩
  rw [e1] at q1
  have q2 := numR_ok (most := 1099511627776) hb q1.1 (by omega)
  obtain ⟨n2, a2, k2, e2⟩ : ∃ n a k, numR b 1099511627776 (a1, k1) = (n, a, k) := ⟨_, _, _, rfl⟩
  rw [e2] at q2
  have q3 := numR_ok (most := 1099511627776) hb q2.1 (by omega)
  obtain ⟨n3, a3, k3, e3⟩ : ∃ n a k, numR b 1099511627776 (a2, k2) = (n, a, k) := ⟨_, _, _, rfl⟩
  rw [e3] at q3
  have q4 := numR_ok (most := 1) hb q3.1 (by omega)
  obtain ⟨n4, a4, k4, e4⟩ : ∃ n a k, numR b 1 (a3, k3) = (n, a, k) := ⟨_, _, _, rfl⟩
  rw [e4] at q4
  have q5 := numR_ok (most := 41) hb q4.1 (by omega)
  obtain ⟨n5, a5, k5, e5⟩ : ∃ n a k, numR b 41 (a4, k4) = (n, a, k) := ⟨_, _, _, rfl⟩
  rw [e5] at q5
  obtain ⟨sat, hs⟩ : ∃ sat, (n4 == 1) = sat := ⟨_, rfl⟩
  have hs2 : decide (n4 = 1) = sat := hs
  have er : rawRR b = ((levsQ b n5.toNat (a5, k5) []).1, ⟨n1, n2, n3, (levsQ b n5.toNat (a5, k5) []).2, sat⟩) := by simp only [rawRR, e1, e2, e3, e4, e5, hs2]
  rw [decRR, er]
  simp only at q1 q2 q3 q4 q5
  refine of_tri [] [2,5,13,15,17,19,21,25,39,54,55,56,60,61,64,68] Try.func56 rfl call56 rfl (by decide) (by decide) rfl rfl Try.ntmps56 (by simp (disch := omega) only [seval,go_sem,cnd,intV,shV,convV,strV,List.replicate,List.zip_nil_left,List.zip_cons_cons];rfl) (by simp (disch := omega) only [seval,go_sem,cnd,intV,shV,convV,strV,List.zip_nil_left,List.zip_cons_cons];rfl) ?_
  ((repeat' (first|((with_reducible refine isTriD ?_);first|((with_reducible refine isCallD ?_);first|(with_reducible (first|(refine TriD.cI (dst := _) [] (by simp only [seval,go_sem,e1,e2,e3,e4,e5,hs];rfl) (by simp only [seval,go_sem,e1,e2,e3,e4,e5,hs];first|rfl) (rnum_calls ?_ ?_ ?_ ?_) (by simp only [seval,go_sem,e1,e2,e3,e4,e5,hs];first|rfl) (by simp only [seval,go_sem,e1,e2,e3,e4,e5,hs];first|rfl) (by simp only [seval,go_sem,e1,e2,e3,e4,e5,hs];rfl) (LVs (st := []) ?_))))))|(with_reducible (first|refine TVq (st := []) ?_))|simp only [seval,go_sem,e1,e2,e3,e4,e5,hs]|(with_reducible refine oV_st (by simp (disch := omega) only [seval,go_sem,cnd,intV,shV,convV,strV,e1,e2,e3,e4,e5,hs];rfl) ?_))) <;> (try (first|(with_reducible assumption)|((with_reducible show (_ : Int) ≤ _);omega))))
  (refine Tri.virtB 5 3 61 1 (by simp only [seval, go_sem]; rfl) (by simp only [seval, go_sem]; first | done) (by decide) (by first | (simp only [seval, go_sem]; first | done)) (by simp only [seval, go_sem]; rfl) ?_)
  (with_reducible refine Tri.loopU (fun (t : Nat × (Int × Bool) × List (List ByteArray)) => [(7,.sc (.int .i64 t.1)),(8,.any),(9,.any),(10,.any),(26,.any),(27,.any),(28,.any),(29,.any),(30,.any),(31,.any),(32,.any),(33,.any),(34,.any),(35,.any),(36,.any),(37,.any),(38,.any),(39,.any),(40,.any),(41,.any),(42,.any),(43,.any),(44,.any),(45,.any),(46,.any),(47,.any),(48,.any),(49,.any),(50,.any),(51,.any),(52,.any),(53,.any),(54,.any),(55,.any),(56,.any),(57,.any),(58,.any),(59,.any),(60,.any),(61,.any),(62,.any)]) (fun (t : Nat × (Int × Bool) × List (List ByteArray)) => [(13,.box [.sl 1 (b.map rowB),.sc (.int .i64 t.2.1.1),.sc (.bool t.2.1.2)]),(5,.box [.sc (.int .i64 n1),.sc (.int .i64 n2),.sc (.int .i64 n3),.slo 61 1 0 t.2.2.length,.sc (.bool sat)]),(61,.row 1 (t.2.2.map lvD)),(39,.dead),(54,.dead),(55,.dead),(56,.dead),(60,.dead)]) (fun (t : Nat × (Int × Bool) × List (List ByteArray)) => (t.1 ≤ n5 ∧ t.2.2.length ≤ t.1 ∧ ∀ l ∈ t.2.2,KeyBd l) ∧ (0 ≤ t.2.1.1 ∧ t.2.1.1 ≤ b.length) ∧ levsQ b (n5.toNat - t.1) t.2.1 t.2.2 = levsQ b n5.toNat (a5,k5) []) (fun (t : Nat × (Int × Bool) × List (List ByteArray)) => n5.toNat - t.1) ((0,(a5,k5),[])) (⟨⟨by omega,by simp,by simp⟩,q5.1,rfl⟩) (by intro _;simp (disch := omega) only [seval,go_sem,cnd,intV,shV,convV,strV];rfl) (by intro _;simp (disch := omega) only [seval,go_sem,cnd,intV,shV,convV,strV];rfl) (by (first|refine leQL_spec ?_);(try simp only [seval,go_sem]);first|done) (by (first|refine leQH_spec ?_);(try simp only [seval,go_sem]);first|done) (fun t hI => ?_))
  obtain ⟨i, ⟨a, k⟩, ls⟩ := t
  obtain ⟨⟨hi, hll, hkk⟩, ha, hz⟩ := hI
  simp only at hi hll hkk ha hz
  by_cases hgo : (i : Int) < n5 ∧ k = false
  · obtain ⟨hlt, rfl⟩ := hgo
    have g1 := numR_ok (most := 32) hb (s := (a, false)) ha (by omega)
    obtain ⟨kn, an, kb, en⟩ : ∃ n z k, numR b 32 (a, false) = (n, z, k) := ⟨_, _, _, rfl⟩
    rw [en] at g1
    simp only at g1
    obtain ⟨m, hm⟩ : ∃ m, n5.toNat - i = m + 1 := ⟨n5.toNat - i - 1, by omega⟩
    rw [hm] at hz
    simp only [levsQ, Bool.false_eq_true, if_false, en] at hz
    ((repeat' (first|((with_reducible refine isTriD ?_);first|((with_reducible refine isCallD ?_);first|(with_reducible (first|(refine TriD.cI (dst := _) [] (by simp only [seval,go_sem,en];rfl) (by simp only [seval,go_sem,en];first|rfl) (rnum_calls ?_ ?_ ?_ ?_) (by simp only [seval,go_sem,en];first|rfl) (by simp only [seval,go_sem,en];first|rfl) (by simp only [seval,go_sem,en];rfl) (LVs (st := []) ?_))))))|(with_reducible (first|refine TVq (st := []) ?_))|simp only [seval,go_sem,en]|(with_reducible refine oV_st (by simp (disch := omega) only [seval,go_sem,cnd,intV,shV,convV,strV,en];rfl) ?_))) <;> (try (first|(with_reducible assumption)|((with_reducible show (_ : Int) ≤ _);omega))))
    all_goals (refine Tri.virt 9 56 1 (by first | (simp only [seval, go_sem]; first | done)) (by first | (simp only [seval, go_sem]; first | done)) (by simp only [seval, go_sem]; rfl) ?_)
    all_goals (with_reducible refine Tri.loopU (fun (u : Nat × (Int × Bool) × List ByteArray) => [(10,.sc (.int .i64 u.1)),(9,.slo 56 1 0 u.2.2.length),(40,.any),(41,.any),(42,.any),(43,.any),(44,.any),(45,.any),(46,.any),(47,.any),(48,.any),(49,.any),(50,.any),(51,.any),(52,.any),(53,.any),(54,.any),(55,.any),(56,.any)]) (fun (u : Nat × (Int × Bool) × List ByteArray) => [(13,.box [.sl 1 (b.map rowB),.sc (.int .i64 u.2.1.1),.sc (.bool u.2.1.2)]),(56,.row 1 (u.2.2.map rowKr)),(54,.dead),(55,.dead)]) (fun (u : Nat × (Int × Bool) × List ByteArray) => (u.1 ≤ kn ∧ u.2.2.length ≤ u.1 ∧ ∀ x ∈ u.2.2,x.size ≤ 65536) ∧ (0 ≤ u.2.1.1 ∧ u.2.1.1 ≤ b.length) ∧ keysQ b (kn.toNat - u.1) u.2.1 u.2.2 = keysQ b kn.toNat (an,kb) []) (fun (u : Nat × (Int × Bool) × List ByteArray) => kn.toNat - u.1) ((0,(an,kb),[])) (⟨⟨by omega,by simp,by simp⟩,g1.1,rfl⟩) (by intro _;simp (disch := omega) only [seval,go_sem,cnd,intV,shV,convV,strV];rfl) (by intro _;simp (disch := omega) only [seval,go_sem,cnd,intV,shV,convV,strV];rfl) (by (first|refine leQL_spec ?_);(try simp only [seval,go_sem]);first|done) (by (first|refine leQH_spec ?_);(try simp only [seval,go_sem]);first|done) (fun u hI => ?_))
    all_goals
      obtain ⟨j, ⟨a', k'⟩, ks⟩ := u
      obtain ⟨⟨hj, hjl, hjk⟩, ha', hz'⟩ := hI
      simp only at hj hjl hjk ha' hz'
      by_cases hgo2 : (j : Int) < kn ∧ k' = false
      · obtain ⟨hlt2, rfl⟩ := hgo2
        have g2 := txtR_ok hb (s := (a', false)) ha'
        obtain ⟨s, at', kt, et⟩ : ∃ n z k, txtR b (a', false) = (n, z, k) := ⟨_, _, _, rfl⟩
        rw [et] at g2
        simp only at g2
        obtain ⟨m', hm'⟩ : ∃ m, kn.toNat - j = m + 1 := ⟨kn.toNat - j - 1, by omega⟩
        rw [hm'] at hz'
        simp only [keysQ, Bool.false_eq_true, if_false, et] at hz'
        ((repeat' (first|((with_reducible refine isTriD ?_);first|((with_reducible refine isCallD ?_);first|(with_reducible (first|(refine TriD.cI (dst := _) [] (by simp only [seval,go_sem,et,rowKr];rfl) (by simp only [seval,go_sem,et,rowKr];first|rfl) (rtxt_calls ?_ ?_ ?_ ?_) (by simp only [seval,go_sem,et,rowKr];first|done) (by simp only [seval,go_sem,et,rowKr];first|rfl) (by simp only [seval,go_sem,et,rowKr];rfl) (LVs (st := []) ?_))))))|(with_reducible (first|refine TVq (st := []) ?_))|simp only [seval,go_sem,et,rowKr]|(with_reducible refine oV_st (by simp (disch := omega) only [seval,go_sem,cnd,intV,shV,convV,strV,et,rowKr];rfl) ?_))) <;> (try (first|(with_reducible assumption)|((with_reducible show (_ : Int) ≤ _);omega))))
        all_goals (refine isNextM ((j + 1,(at',kt),ks ++ [s])) (by (first|refine leQL_spec ?_);(try simp only [seval,go_sem,rowKr]);first|((repeat' (with_reducible apply And.intro)) <;> first|rfl|(simp [rowKr];done));first|done) (by (first|refine leQH_spec ?_);(try simp only [seval,go_sem,rowKr]);first|((repeat' (with_reducible apply And.intro)) <;> first|(simp [rowKr];done));first|done) ?_ ?_ <;> (try (first|omega)))
        all_goals (refine ⟨⟨by simp only; omega, by simp only [List.length_append, List.length_cons, List.length_nil]; omega, size_snoc hjk g2.2⟩, g2.1, ?_⟩)
        all_goals (simp only; rw [show kn.toNat - (j + 1) = m' by omega]; exact hz')
      · have hz2 : keysQ b kn.toNat (an, kb) [] = ((a', k'), ks) := by
          rw [← hz']
          by_cases hlt2 : (j : Int) < kn
          · have hk : k' = true := by cases k' <;> simp_all
            subst hk
            obtain ⟨m', hm'⟩ : ∃ m, kn.toNat - j = m + 1 := ⟨kn.toNat - j - 1, by omega⟩
            rw [hm']; simp [keysQ]
          · rw [show kn.toNat - j = 0 by omega]; rfl
        rw [hz2] at hz
        simp only at hz
        have hbd : KeyBd ks := ⟨by omega, fun x hx => by have := hjk x hx; omega⟩
        have hx2 : k' = false → ¬ (j : Int) < kn := fun h1 h2 => hgo2 ⟨h2, h1⟩
        cases k'
        · all_goals (have hx3 := hx2; (try simp only [true_implies, reduceCtorEq, false_implies] at hx3))
          all_goals (refine Tri.frz 56 (by simp only [seval, go_sem]; rfl) (by simp only [seval, go_sem]; rfl) ?_)
          all_goals ((repeat' (first | (with_reducible (first | refine TVq (st := []) ?_)) | simp only [seval, go_sem] | (with_reducible refine oV_st (by simp (disch := omega) only [seval, go_sem, cnd, intV, shV, convV, strV]; rfl) ?_))) <;> (try (fail)))
          all_goals (refine isNextM ((i + 1,(a',false),ls ++ [ks])) (by (first|refine leQL_spec ?_);(try simp only [seval,go_sem,lvD,List.length_append,List.length_map,List.length_cons,List.length_nil,List.map_append,List.map_cons,List.map_nil]);first|((repeat' (with_reducible apply And.intro)) <;> first|rfl);first|done) (by (first|refine leQH_spec ?_);(try simp only [seval,go_sem,lvD,List.length_append,List.length_map,List.length_cons,List.length_nil,List.map_append,List.map_cons,List.map_nil]);first|done) ?_ ?_ <;> (try (first|omega)))
          all_goals (refine ⟨⟨by simp only; omega, by simp only [List.length_append, List.length_cons, List.length_nil]; omega, keyBd_snoc hkk hbd⟩, ha', ?_⟩)
          all_goals (simp only; rw [show n5.toNat - (i + 1) = m by omega]; exact hz)
        · all_goals (have hx3 := hx2; (try simp only [true_implies, reduceCtorEq, false_implies] at hx3))
          all_goals (refine Tri.frz 56 (by simp only [seval, go_sem]; rfl) (by simp only [seval, go_sem]; rfl) ?_)
          all_goals ((repeat' (first|(with_reducible refine isCv ?_;intro hc;(try simp only [bls,reduceCtorEq] at hc);(try (exfalso;omega)))|(with_reducible (first|refine TVq (st := []) ?_))|simp only [seval,go_sem]|(with_reducible refine oV_st (by simp (disch := omega) only [seval,go_sem,cnd,intV,shV,convV,strV];rfl) ?_)|(with_reducible refine gV_split (by simp only [seval,go_sem];rfl) (by simp only [seval,go_sem];rfl) (by simp only [seval,go_sem];first|done) (cvI ?_) (cvI ?_) (by simp only [seval,go_sem])))) <;> (try (fail)))
          all_goals (refine isNextM ((i + 1,(a',true),ls ++ [ks])) (by (first|refine leQL_spec ?_);(try simp only [seval,go_sem,lvD,List.length_append,List.length_map,List.length_cons,List.length_nil,List.map_append,List.map_cons,List.map_nil]);first|((repeat' (with_reducible apply And.intro)) <;> first|rfl);first|done) (by (first|refine leQH_spec ?_);(try simp only [seval,go_sem,lvD,List.length_append,List.length_map,List.length_cons,List.length_nil,List.map_append,List.map_cons,List.map_nil]);first|done) ?_ ?_ <;> (try (first|omega)))
          all_goals (refine ⟨⟨by simp only; omega, by simp only [List.length_append, List.length_cons, List.length_nil]; omega, keyBd_snoc hkk hbd⟩, ha', ?_⟩)
          all_goals (simp only; rw [show n5.toNat - (i + 1) = m by omega]; exact hz)
  · have hz2 : levsQ b n5.toNat (a5, k5) [] = ((a, k), ls) := by
      rw [← hz]
      by_cases hlt : (i : Int) < n5
      · have hk : k = true := by cases k <;> simp_all
        subst hk
        obtain ⟨m, hm⟩ : ∃ m, n5.toNat - i = m + 1 := ⟨n5.toNat - i - 1, by omega⟩
        rw [hm]; simp [levsQ]
      · rw [show n5.toNat - i = 0 by omega]; rfl
    rw [hz2]
    simp only
    have hvd := validr2_calls (r := ⟨n1, n2, n3, ls, sat⟩) (by simp only; omega) hkk
    simp only [dR] at hvd ⊢
    cases k
    · have hnlt : ¬ (i : Int) < n5 := fun h => hgo ⟨h, rfl⟩
      by_cases hv : validR ⟨n1, n2, n3, ls, sat⟩ = 0
      · rw [hv] at hvd
        by_cases hab : a = (b.length : Int)
        · rw [if_pos ⟨⟨rfl, hab⟩, hv⟩]
          ((repeat' (first|(with_reducible refine isCv ?_;intro hc;(try simp only [bls,reduceCtorEq] at hc);(try (exfalso;omega)))|((with_reducible refine isTriD ?_);first|((with_reducible refine isCallD ?_);first|((with_reducible refine LVcall (st := []) ?_);simp only [seval,go_sem,hv];first|(refine CallL.c (hvd) ?_))|(with_reducible (first|(refine TriD.cI (dst := _) [] (by simp only [seval,go_sem,hv];rfl) (by simp only [seval,go_sem,hv];first|rfl) (rdone_calls ?_ ?_ ?_) (by simp only [seval,go_sem,hv];first|done) (by simp only [seval,go_sem,hv];first|rfl) (by simp only [seval,go_sem,hv];rfl) (LVs (st := []) ?_))))))|(with_reducible refine isRet ?_;(refine RetOK.frz 61 (by simp only [seval,go_sem];rfl) (by simp only [seval,go_sem,hv];rfl) ?_);(with_reducible refine isRet ?_;refine RetOK.q rfl (by with_unfolding_all (show retD _ _ [.cell 2 50,.tmp 3] = _);simp only [seval,go_sem];rfl) (by simp only [seval,go_sem];rfl) (by decide) (by simp only [seval,go_sem];first|rfl) (by simp only [seval,go_sem];first|rfl) rfl ?_ <;> (try simp only [seval,go_sem,hv]) <;> (repeat' (with_reducible apply And.intro)) <;> (try rfl)))|(with_reducible (first|refine TVq (st := []) ?_))|simp only [seval,go_sem,hv]|(with_reducible refine oV_st (by simp (disch := omega) only [seval,go_sem,cnd,intV,shV,convV,strV,hv];rfl) ?_)|(with_reducible refine gV_split (by simp only [seval,go_sem,hv];rfl) (by simp only [seval,go_sem,hv];rfl) (by simp only [seval,go_sem,hv];first|done) (cvI ?_) (cvI ?_) (by simp only [seval,go_sem,hv])))) <;> (try (first|(with_reducible assumption)|((with_reducible show (_ : Int) ≤ _);omega))))
        · rw [if_neg (fun h => hab h.1.2)]
          ((repeat' (first|(with_reducible refine isCv ?_;intro hc;(try simp only [bls,reduceCtorEq] at hc);(try (exfalso;omega)))|((with_reducible refine isTriD ?_);first|((with_reducible refine isCallD ?_);first|(with_reducible (first|(refine TriD.cI (dst := _) [] (by simp only [seval,go_sem,hv,zeroR,List.map_nil];rfl) (by simp only [seval,go_sem,hv,zeroR,List.map_nil];first|rfl) (rdone_calls ?_ ?_ ?_) (by simp only [seval,go_sem,hv,zeroR,List.map_nil];first|done) (by simp only [seval,go_sem,hv,zeroR,List.map_nil];first|rfl) (by simp only [seval,go_sem,hv,zeroR,List.map_nil];rfl) (LVs (st := []) ?_))))))|(with_reducible refine isRet ?_;(refine RetOK.frz 61 (by simp only [seval,go_sem];rfl) (by simp only [seval,go_sem,hv,zeroR,List.map_nil];rfl) ?_);(with_reducible refine isRet ?_;refine RetOK.q rfl (by with_unfolding_all (show retD _ _ [.cell 2 50,.tmp 3] = _);simp only [seval,go_sem];rfl) (by simp only [seval,go_sem];rfl) (by decide) (by simp only [seval,go_sem];first|rfl) (by simp only [seval,go_sem];first|rfl) rfl ?_ <;> (try simp only [seval,go_sem,hv,zeroR,List.map_nil]) <;> (repeat' (with_reducible apply And.intro)) <;> (try rfl)))|(with_reducible (first|refine TVq (st := []) ?_))|simp only [seval,go_sem,hv,zeroR,List.map_nil]|(with_reducible refine oV_st (by simp (disch := omega) only [seval,go_sem,cnd,intV,shV,convV,strV,hv,zeroR,List.map_nil];rfl) ?_)|(with_reducible refine gV_split (by simp only [seval,go_sem,hv,zeroR,List.map_nil];rfl) (by simp only [seval,go_sem,hv,zeroR,List.map_nil];rfl) (by simp only [seval,go_sem,hv,zeroR,List.map_nil];first|done) (cvI ?_) (cvI ?_) (by simp only [seval,go_sem,hv,zeroR,List.map_nil])))) <;> (try (first|(with_reducible assumption)|((with_reducible show (_ : Int) ≤ _);omega))))
      · rw [if_neg (fun h => hv h.2)]
        ((repeat' (first|(with_reducible refine isCv ?_;intro hc;(try simp only [bls,reduceCtorEq] at hc);(try (exfalso;omega)))|((with_reducible refine isTriD ?_);first|((with_reducible refine isCallD ?_);first|((with_reducible refine LVcall (st := []) ?_);simp only [seval,go_sem,hv,zeroR,List.map_nil];first|(refine CallL.c (hvd) ?_))|(with_reducible (first|(refine TriD.cI (dst := _) [] (by simp only [seval,go_sem,hv,zeroR,List.map_nil];rfl) (by simp only [seval,go_sem,hv,zeroR,List.map_nil];first|rfl) (rdone_calls ?_ ?_ ?_) (by simp only [seval,go_sem,hv,zeroR,List.map_nil];first|done) (by simp only [seval,go_sem,hv,zeroR,List.map_nil];first|rfl) (by simp only [seval,go_sem,hv,zeroR,List.map_nil];rfl) (LVs (st := []) ?_))))))|(with_reducible refine isRet ?_;(refine RetOK.frz 61 (by simp only [seval,go_sem];rfl) (by simp only [seval,go_sem,hv,zeroR,List.map_nil];rfl) ?_);(with_reducible refine isRet ?_;refine RetOK.q rfl (by with_unfolding_all (show retD _ _ [.cell 2 50,.tmp 3] = _);simp only [seval,go_sem];rfl) (by simp only [seval,go_sem];rfl) (by decide) (by simp only [seval,go_sem];first|rfl) (by simp only [seval,go_sem];first|rfl) rfl ?_ <;> (try simp only [seval,go_sem,hv,zeroR,List.map_nil]) <;> (repeat' (with_reducible apply And.intro)) <;> (try rfl)))|(with_reducible (first|refine TVq (st := []) ?_))|simp only [seval,go_sem,hv,zeroR,List.map_nil]|(with_reducible refine oV_st (by simp (disch := omega) only [seval,go_sem,cnd,intV,shV,convV,strV,hv,zeroR,List.map_nil];rfl) ?_)|(with_reducible refine gV_split (by simp only [seval,go_sem,hv,zeroR,List.map_nil];rfl) (by simp only [seval,go_sem,hv,zeroR,List.map_nil];rfl) (by simp only [seval,go_sem,hv,zeroR,List.map_nil];first|done) (cvI ?_) (cvI ?_) (by simp only [seval,go_sem,hv,zeroR,List.map_nil])))) <;> (try (first|(with_reducible assumption)|((with_reducible show (_ : Int) ≤ _);omega))))
    · rw [if_neg (fun h => by simp at h)]
      ((repeat' (first|(with_reducible refine isCv ?_;intro hc;(try simp only [bls,reduceCtorEq] at hc);(try (exfalso;omega)))|((with_reducible refine isTriD ?_);first|((with_reducible refine isCallD ?_);first|(with_reducible (first|(refine TriD.cI (dst := _) [] (by simp only [seval,go_sem,zeroR,List.map_nil];rfl) (by simp only [seval,go_sem,zeroR,List.map_nil];first|rfl) (rdone_calls ?_ ?_ ?_) (by simp only [seval,go_sem,zeroR,List.map_nil];first|done) (by simp only [seval,go_sem,zeroR,List.map_nil];first|rfl) (by simp only [seval,go_sem,zeroR,List.map_nil];rfl) (LVs (st := []) ?_))))))|(with_reducible refine isRet ?_;(refine RetOK.frz 61 (by simp only [seval,go_sem];rfl) (by simp only [seval,go_sem,zeroR,List.map_nil];rfl) ?_);(with_reducible refine isRet ?_;refine RetOK.q rfl (by with_unfolding_all (show retD _ _ [.cell 2 50,.tmp 3] = _);simp only [seval,go_sem];rfl) (by simp only [seval,go_sem];rfl) (by decide) (by simp only [seval,go_sem];first|rfl) (by simp only [seval,go_sem];first|rfl) rfl ?_ <;> (try simp only [seval,go_sem,zeroR,List.map_nil]) <;> (repeat' (with_reducible apply And.intro)) <;> (try rfl)))|(with_reducible (first|refine TVq (st := []) ?_))|simp only [seval,go_sem,zeroR,List.map_nil]|(with_reducible refine oV_st (by simp (disch := omega) only [seval,go_sem,cnd,intV,shV,convV,strV,zeroR,List.map_nil];rfl) ?_)|(with_reducible refine gV_split (by simp only [seval,go_sem,zeroR,List.map_nil];rfl) (by simp only [seval,go_sem,zeroR,List.map_nil];rfl) (by simp only [seval,go_sem,zeroR,List.map_nil];first|done) (cvI ?_) (cvI ?_) (by simp only [seval,go_sem,zeroR,List.map_nil])))) <;> (try (first|(with_reducible assumption)|((with_reducible show (_ : Int) ≤ _);omega))))
set_option maxRecDepth 100000 in set_option maxHeartbeats 6400000 in
theorem decpr_calls {b : List Int} (hb : BytesL b) (hl : b.length ≤ 90000) : ACalls Try.prog 55 [.sl 1 (b.map rowB)] (.tup [dR (decPR b).1, .sc (.int .i64 (decPR b).2)]) [] := by
  have q1 := numP_ok (m := b.length) (s := (b, false)) ⟨hb, Nat.le_refl _⟩
  obtain ⟨n1, a1, k1, e1⟩ : ∃ n a k, numP (b, false) = (n, a, k) := ⟨_, _, _, rfl⟩
  rw [e1] at q1
  have q2 := numP_ok q1.1
  obtain ⟨n2, a2, k2, e2⟩ : ∃ n a k, numP (a1, k1) = (n, a, k) := ⟨_, _, _, rfl⟩
  rw [e2] at q2
  have q3 := numP_ok q2.1
  obtain ⟨n3, a3, k3, e3⟩ : ∃ n a k, numP (a2, k2) = (n, a, k) := ⟨_, _, _, rfl⟩
  rw [e3] at q3
  have q4 := numP_ok q3.1
  obtain ⟨n4, a4, k4, e4⟩ : ∃ n a k, numP (a3, k3) = (n, a, k) := ⟨_, _, _, rfl⟩
  rw [e4] at q4
  have q5 := numP_ok q4.1
  obtain ⟨n5, a5, k5, e5⟩ : ∃ n a k, numP (a4, k4) = (n, a, k) := ⟨_, _, _, rfl⟩
  rw [e5] at q5
  obtain ⟨sat, hs⟩ : ∃ sat, (n4 == 1) = sat := ⟨_, rfl⟩
  have hs2 : decide (n4 = 1) = sat := hs
  have er : rawPR b = ((levsP (min n5 41).toNat (a5, k5) []).1.2, ⟨n1, n2, n3, (levsP (min n5 41).toNat (a5, k5) []).2, sat⟩) := by simp only [rawPR, e1, e2, e3, e4, e5, hs2]
  obtain ⟨N1, rfl⟩ := Int.eq_ofNat_of_zero_le q1.2.1
  obtain ⟨N2, rfl⟩ := Int.eq_ofNat_of_zero_le q2.2.1
  obtain ⟨N3, rfl⟩ := Int.eq_ofNat_of_zero_le q3.2.1
  rw [decPR, er]
  obtain ⟨q1a, q1b, q1c⟩ := q1
  obtain ⟨q2a, q2b, q2c⟩ := q2
  obtain ⟨q3a, q3b, q3c⟩ := q3
  obtain ⟨q4a, q4b, q4c⟩ := q4
  obtain ⟨q5a, q5b, q5c⟩ := q5
  obtain ⟨q1d, q1e⟩ := q1a
  obtain ⟨q2d, q2e⟩ := q2a
  obtain ⟨q3d, q3e⟩ := q3a
  obtain ⟨q4d, q4e⟩ := q4a
  simp only at q1b q1c q1d q1e q2b q2c q2d q2e q3b q3c q3d q3e q4b q4c q4d q4e q5b q5c
  refine of_tri [] [2,5,14,16,18,20,23,27,45,59,60,61,65,66,70] Try.func55 rfl call55 rfl (by decide) (by decide) rfl rfl Try.ntmps55 (by simp (disch := omega) only [seval,go_sem,cnd,intV,shV,convV,strV,List.replicate,List.zip_nil_left,List.zip_cons_cons];rfl) (by simp (disch := omega) only [seval,go_sem,cnd,intV,shV,convV,strV,List.zip_nil_left,List.zip_cons_cons];rfl) ?_
  ((repeat' (first|(with_reducible (first|refine Tri.seq ?_|refine Tri.block ?_|refine TriD.nil ?_|refine thenQ_n ?_|refine Tri.regionD (by simp only [List.map_cons,List.map_nil];rfl) ?_))|((with_reducible refine isTriD ?_);first|(with_reducible refine TriD.step (by simp only [seval,go_sem,e1,e2,e3,e4,e5,hs];rfl) ?_)|((with_reducible refine isCallD ?_);first|(with_reducible (first|(refine TriD.cI (dst := _) [] (by simp only [seval,go_sem,e1,e2,e3,e4,e5,hs];rfl) (by simp only [seval,go_sem,e1,e2,e3,e4,e5,hs];first|rfl) (pnumr_calls ?_ ?_) (by simp only [seval,go_sem,e1,e2,e3,e4,e5,hs];first|done) (by simp only [seval,go_sem,e1,e2,e3,e4,e5,hs];first|rfl) (by simp only [seval,go_sem,e1,e2,e3,e4,e5,hs];rfl) ?_))))|(with_reducible refine TriD.step (by simp (disch := omega) only [seval,go_sem,cnd,intV,shV,convV,strV,e1,e2,e3,e4,e5,hs];rfl) ?_)))) <;> (try (first|(with_reducible assumption)|((with_reducible show (_ : Nat) ≤ _);omega))))
  (refine Tri.virtB 5 3 66 1 (by simp only [seval, go_sem]; rfl) (by simp only [seval, go_sem]; first | done) (by decide) (by first | (simp only [seval, go_sem]; first | done)) (by simp only [seval, go_sem]; rfl) ?_)
  (with_reducible refine Tri.loopU (fun (t : Nat × (List Int × Bool) × List (List ByteArray)) => [(7,.sc (.int .i64 t.1)),(8,.any),(9,.any),(28,.any),(29,.any),(30,.any),(31,.any),(32,.any),(33,.any),(34,.any),(35,.any),(36,.any),(37,.any),(38,.any),(39,.any),(40,.any),(41,.any),(42,.any),(43,.any),(44,.any),(45,.any),(46,.any),(47,.any),(48,.any),(49,.any),(50,.any),(51,.any),(52,.any),(53,.any),(54,.any),(55,.any),(56,.any),(57,.any),(58,.any),(59,.any),(60,.any),(61,.any),(62,.any),(63,.any),(64,.any),(65,.any),(66,.any),(67,.any)]) (fun (t : Nat × (List Int × Bool) × List (List ByteArray)) => [(14,.box [.sl 1 (t.2.1.1.map rowB),.sc (.bool t.2.1.2)]),(5,.box [.sc (.int .i64 N1),.sc (.int .i64 N2),.sc (.int .i64 N3),.slo 66 1 0 t.2.2.length,.sc (.bool sat)]),(66,.row 1 (t.2.2.map lvD)),(45,.dead),(59,.dead),(60,.dead),(61,.dead),(65,.dead)]) (fun (t : Nat × (List Int × Bool) × List (List ByteArray)) => (t.1 ≤ min n5 41 ∧ t.2.2.length ≤ t.1 ∧ ∀ l ∈ t.2.2,KeyBd l) ∧ OkS b.length t.2.1 ∧ levsP ((min n5 41).toNat - t.1) t.2.1 t.2.2 = levsP (min n5 41).toNat (a5,k5) []) (fun (t : Nat × (List Int × Bool) × List (List ByteArray)) => 41 - t.1) ((0,(a5,k5),[])) (⟨⟨by simp;omega,by simp,by simp⟩,q5a,rfl⟩) (by intro _;simp (disch := omega) only [seval,go_sem,cnd,intV,shV,convV,strV];rfl) (by intro _;simp (disch := omega) only [seval,go_sem,cnd,intV,shV,convV,strV];rfl) (by (first|refine leQL_spec ?_);(try simp only [seval,go_sem]);first|done) (by (first|refine leQH_spec ?_);(try simp only [seval,go_sem]);first|((repeat' (with_reducible apply And.intro)) <;> first|omega);first|done) (fun t hI => ?_))
  obtain ⟨i, ⟨a, k⟩, ls⟩ := t
  obtain ⟨⟨hi, hll, hkk⟩, ha, hz⟩ := hI
  simp only at hi hll hkk ha hz
  by_cases hgo : ((i : Int) < n5 ∧ (i : Int) < 41) ∧ k = false
  · obtain ⟨⟨hlt, hlt2⟩, rfl⟩ := hgo
    have g1 := numP_ok ha
    obtain ⟨kn, an, kb, en⟩ : ∃ n z k, numP (a, false) = (n, z, k) := ⟨_, _, _, rfl⟩
    rw [en] at g1
    obtain ⟨g1a, g1b, g1c⟩ := g1
    obtain ⟨ha1, ha2⟩ := ha
    simp only at g1b g1c ha1 ha2
    have hanl := g1a.2
    simp only at hanl
    obtain ⟨m, hm⟩ : ∃ m, (min n5 41).toNat - i = m + 1 := ⟨(min n5 41).toNat - i - 1, by omega⟩
    rw [hm] at hz
    simp only [levsP, Bool.false_eq_true, if_false, en] at hz
    ((repeat' (first|(with_reducible (first|refine Tri.seq ?_|refine Tri.block ?_|refine Tri.skip ?_|refine TriD.nil ?_|refine thenQ_n ?_|refine Tri.regionD (by simp only [List.map_cons,List.map_nil];rfl) ?_))|((with_reducible refine isTriD ?_);first|(with_reducible refine TriD.step (by simp only [seval,go_sem,en];rfl) ?_)|((with_reducible refine isCallD ?_);first|(with_reducible (first|(refine TriD.cI (dst := _) [] (by simp only [seval,go_sem,en];rfl) (by simp only [seval,go_sem,en];first|rfl) (pnumr_calls ?_ ?_) (by simp only [seval,go_sem,en];first|done) (by simp only [seval,go_sem,en];first|rfl) (by simp only [seval,go_sem,en];rfl) ?_))))|(with_reducible refine TriD.step (by simp (disch := omega) only [seval,go_sem,cnd,intV,shV,convV,strV,en];rfl) ?_))|(with_reducible refine isCond ?_;with_reducible refine Tri.cond (by simp only [seval,go_sem,en];rfl) (cvI ?_) (cvI ?_))|(with_reducible refine isCv ?_;intro hc;(try simp only [bls,reduceCtorEq] at hc);(try (exfalso;omega))))) <;> (try (first|(with_reducible assumption)|((with_reducible show (_ : Nat) ≤ _);omega))))
    all_goals (refine Tri.virt 8 61 1 (by first | (simp only [seval, go_sem]; first | done)) (by first | (simp only [seval, go_sem]; first | done)) (by simp only [seval, go_sem]; rfl) ?_)
    all_goals (with_reducible refine Tri.loopU (fun (u : Nat × (List Int × Bool) × List ByteArray) => [(9,.sc (.int .i64 (kn - u.1))),(8,.slo 61 1 0 u.2.2.length),(46,.any),(47,.any),(48,.any),(49,.any),(50,.any),(51,.any),(52,.any),(53,.any),(54,.any),(55,.any),(56,.any),(57,.any),(58,.any),(59,.any),(60,.any),(61,.any)]) (fun (u : Nat × (List Int × Bool) × List ByteArray) => [(14,.box [.sl 1 (u.2.1.1.map rowB),.sc (.bool u.2.1.2)]),(61,.row 1 (u.2.2.map rowKr)),(59,.dead),(60,.dead)]) (fun (u : Nat × (List Int × Bool) × List ByteArray) => (u.1 ≤ kn ∧ (if u.2.1.2 = true then u.2.2.length ≤ b.length + 1 else u.2.2.length + u.2.1.1.length ≤ b.length) ∧ ∀ x ∈ u.2.2,x.size ≤ 65536) ∧ OkS b.length u.2.1 ∧ keysP (kn.toNat - u.1) u.2.1 u.2.2 = keysP kn.toNat (an,kb) []) (fun (u : Nat × (List Int × Bool) × List ByteArray) => kn.toNat - u.1) ((0,(an,kb),[])) (⟨⟨by simp;omega,by simp only [List.length_nil];split <;> omega,by simp⟩,g1a,rfl⟩) (by intro _;simp (disch := omega) only [seval,go_sem,cnd,intV,shV,convV,strV];rfl) (by intro _;simp (disch := omega) only [seval,go_sem,cnd,intV,shV,convV,strV];rfl) (by (first|refine leQL_spec ?_);(try simp only [seval,go_sem]);first|((repeat' (with_reducible apply And.intro)) <;> first|omega);first|done) (by (first|refine leQH_spec ?_);(try simp only [seval,go_sem]);first|done) (fun u hI => ?_))
    all_goals
      obtain ⟨j, ⟨a', k'⟩, ks⟩ := u
      obtain ⟨⟨hj, hjl, hjk⟩, ha', hz'⟩ := hI
      simp only at hj hjl hjk ha' hz'
      by_cases hgo2 : 0 < kn - (j : Int) ∧ k' = false
      · obtain ⟨hlt3, rfl⟩ := hgo2
        have g2 := txtP_ok ha'
        have hles := txtP_less (s := (a', false)) ha'.1
        obtain ⟨s, at', kt, et⟩ : ∃ n z k, txtP (a', false) = (n, z, k) := ⟨_, _, _, rfl⟩
        rw [et] at g2 hles
        obtain ⟨g2a, g2c⟩ := g2
        obtain ⟨hb1, hb2⟩ := ha'
        simp only at g2c hles hb1 hb2
        simp only [Bool.false_eq_true, if_false] at hjl
        obtain ⟨m', hm'⟩ : ∃ m, kn.toNat - j = m + 1 := ⟨kn.toNat - j - 1, by omega⟩
        rw [hm'] at hz'
        simp only [keysP, Bool.false_eq_true, if_false, et] at hz'
        have hnx : if kt = true then (ks ++ [s]).length ≤ b.length + 1 else (ks ++ [s]).length + at'.length ≤ b.length := by
          rw [len1]
          cases kt
          · have := (hles rfl).2; simp; omega
          · simp; omega
        ((repeat' (first|(with_reducible (first|refine Tri.seq ?_|refine Tri.block ?_|refine Tri.skip ?_|refine TriD.nil ?_|refine thenQ_n ?_|refine inBlockQ_n ?_|refine loopQ_n ?_|refine Tri.regionD (by simp only [List.map_cons,List.map_nil];rfl) ?_))|((with_reducible refine isTriD ?_);first|(with_reducible refine TriD.step (by simp only [seval,go_sem,et,rowKr];rfl) ?_)|((with_reducible refine isCallD ?_);first|(with_reducible (first|(refine TriD.cI (dst := _) [] (by simp only [seval,go_sem,et,rowKr];rfl) (by simp only [seval,go_sem,et,rowKr];first|rfl) (ptxtr_calls ?_ ?_) (by simp only [seval,go_sem,et,rowKr];first|done) (by simp only [seval,go_sem,et,rowKr];first|rfl) (by simp only [seval,go_sem,et,rowKr];rfl) ?_))))|(with_reducible refine TriD.step (by simp (disch := omega) only [seval,go_sem,cnd,intV,shV,convV,strV,et,rowKr];rfl) ?_))|(with_reducible refine isCond ?_;with_reducible refine Tri.cond (by simp only [seval,go_sem,et,rowKr];rfl) (cvI ?_) (cvI ?_))|(with_reducible refine isCv ?_;intro hc;(try simp only [bls,reduceCtorEq] at hc);(try (exfalso;omega))))) <;> (try (first|(with_reducible assumption)|((with_reducible show (_ : Nat) ≤ _);omega))))
        all_goals (refine isNextM ((j + 1,(at',kt),ks ++ [s])) (by (first|refine leQL_spec ?_);(try simp only [seval,go_sem,rowKr]);first|((repeat' (with_reducible apply And.intro)) <;> first|omega|(simp [rowKr];done));first|done) (by (first|refine leQH_spec ?_);(try simp only [seval,go_sem,rowKr]);first|((repeat' (with_reducible apply And.intro)) <;> first|(simp [rowKr];done));first|done) ?_ ?_ <;> (try (first|omega)))
        all_goals (refine ⟨⟨by simp only; omega, hnx, size_snoc hjk g2c⟩, g2a, ?_⟩)
        all_goals (simp only; rw [show kn.toNat - (j + 1) = m' by omega]; exact hz')
      · have hz2 : keysP kn.toNat (an, kb) [] = ((a', k'), ks) := by
          rw [← hz']
          by_cases hlt3 : 0 < kn - (j : Int)
          · have hk : k' = true := by cases k' <;> simp_all
            subst hk
            obtain ⟨m', hm'⟩ : ∃ m, kn.toNat - j = m + 1 := ⟨kn.toNat - j - 1, by omega⟩
            rw [hm']; simp [keysP]
          · rw [show kn.toNat - j = 0 by omega]; rfl
        rw [hz2] at hz
        simp only at hz
        have hbd : KeyBd ks := ⟨by split at hjl <;> omega, fun x hx => by have := hjk x hx; omega⟩
        have hx2 : k' = false → ¬ 0 < kn - (j : Int) := fun h1 h2 => hgo2 ⟨h2, h1⟩
        cases k'
        · all_goals (have hx3 := hx2; (try simp only [true_implies, reduceCtorEq, false_implies] at hx3))
          all_goals (refine Tri.frz 61 (by simp only [seval, go_sem]; rfl) (by simp only [seval, go_sem]; rfl) ?_)
          all_goals ((repeat' (first|(with_reducible (first|refine Tri.seq ?_|refine Tri.exit ?_|refine TriD.nil ?_|refine thenQ_n ?_|refine thenQ_e ?_|refine inBlockQ_n ?_|refine inBlockQ_e ?_|refine loopQ_n ?_|refine loopQ_e ?_|refine Tri.regionD (by simp only [List.map_cons,List.map_nil];rfl) ?_))|((with_reducible refine isTriD ?_);first|(with_reducible refine TriD.step (by simp only [seval,go_sem];rfl) ?_)|(with_reducible refine TriD.step (by simp (disch := omega) only [seval,go_sem,cnd,intV,shV,convV,strV];rfl) ?_))|(with_reducible refine isCond ?_;with_reducible refine Tri.cond (by simp only [seval,go_sem];rfl) (cvI ?_) (cvI ?_))|(with_reducible refine isCv ?_;intro hc;(try simp only [bls,reduceCtorEq] at hc);(try (exfalso;omega))))) <;> (try (fail)))
          all_goals (refine isNextM ((i + 1,(a',false),ls ++ [ks])) (by (first|refine leQL_spec ?_);(try simp only [seval,go_sem,lvD,List.length_append,List.length_map,List.length_cons,List.length_nil,List.map_append,List.map_cons,List.map_nil]);first|((repeat' (with_reducible apply And.intro)) <;> first|rfl);first|done) (by (first|refine leQH_spec ?_);(try simp only [seval,go_sem,lvD,List.length_append,List.length_map,List.length_cons,List.length_nil,List.map_append,List.map_cons,List.map_nil]);first|done) ?_ ?_ <;> (try (first|omega)))
          all_goals (refine ⟨⟨by simp only; omega, by simp only [List.length_append, List.length_cons, List.length_nil]; omega, keyBd_snoc hkk hbd⟩, ha', ?_⟩)
          all_goals (simp only; rw [show (min n5 41).toNat - (i + 1) = m by omega]; exact hz)
        · all_goals (have hx3 := hx2; (try simp only [true_implies, reduceCtorEq, false_implies] at hx3))
          all_goals (refine Tri.frz 61 (by simp only [seval, go_sem]; rfl) (by simp only [seval, go_sem]; rfl) ?_)
          all_goals ((repeat' (first|(with_reducible (first|refine Tri.seq ?_|refine Tri.exit ?_|refine TriD.nil ?_|refine thenQ_n ?_|refine thenQ_e ?_|refine inBlockQ_n ?_|refine inBlockQ_e ?_|refine loopQ_n ?_|refine loopQ_e ?_|refine Tri.regionD (by simp only [List.map_cons,List.map_nil];rfl) ?_))|((with_reducible refine isTriD ?_);first|(with_reducible refine TriD.step (by simp only [seval,go_sem];rfl) ?_)|(with_reducible refine TriD.step (by simp (disch := omega) only [seval,go_sem,cnd,intV,shV,convV,strV];rfl) ?_)|(with_reducible refine TriD.byGuard (by simp only [seval,go_sem];rfl) (by simp only [seval,go_sem];rfl) (by (fail_if_success (with_reducible exact nlT));(fail_if_success (with_reducible exact nlF));exact nlI) (cvI ?_) (cvI ?_)))|(with_reducible refine isCond ?_;with_reducible refine Tri.cond (by simp only [seval,go_sem];rfl) (cvI ?_) (cvI ?_))|(with_reducible refine isCv ?_;intro hc;(try simp only [bls,reduceCtorEq] at hc);(try (exfalso;omega))))) <;> (try (fail)))
          all_goals (refine isNextM ((i + 1,(a',true),ls ++ [ks])) (by (first|refine leQL_spec ?_);(try simp only [seval,go_sem,lvD,List.length_append,List.length_map,List.length_cons,List.length_nil,List.map_append,List.map_cons,List.map_nil]);first|((repeat' (with_reducible apply And.intro)) <;> first|rfl);first|done) (by (first|refine leQH_spec ?_);(try simp only [seval,go_sem,lvD,List.length_append,List.length_map,List.length_cons,List.length_nil,List.map_append,List.map_cons,List.map_nil]);first|done) ?_ ?_ <;> (try (first|omega)))
          all_goals (refine ⟨⟨by simp only; omega, by simp only [List.length_append, List.length_cons, List.length_nil]; omega, keyBd_snoc hkk hbd⟩, ha', ?_⟩)
          all_goals (simp only; rw [show (min n5 41).toNat - (i + 1) = m by omega]; exact hz)
  · have hz2 : levsP (min n5 41).toNat (a5, k5) [] = ((a, k), ls) := by
      rw [← hz]
      by_cases hlt : (i : Int) < n5 ∧ (i : Int) < 41
      · have hk : k = true := by cases k <;> simp_all
        subst hk
        obtain ⟨m, hm⟩ : ∃ m, (min n5 41).toNat - i = m + 1 := ⟨(min n5 41).toNat - i - 1, by omega⟩
        rw [hm]; simp [levsP]
      · rw [show (min n5 41).toNat - i = 0 by omega]; rfl
    rw [hz2]
    simp only
    have hgo' : k = false → ¬ ((i : Int) < n5 ∧ (i : Int) < 41) := fun h h2 => hgo ⟨h2, h⟩
    by_cases hv : validR ⟨N1, N2, N3, ls, sat⟩ = 0
    · have hec := encr_ok hv
      have heb := encR_bytes hv
      have hse := str_eq heb hb
      have hef : encR ⟨N1, N2, N3, ls, sat⟩ = encRB N1 N2 N3 ls sat := rfl
      rw [hef] at heb hse ⊢
      simp only [dR] at hec
      generalize encRB N1 N2 N3 ls sat = E at *
      cases k
      · have hnlt := hgo' rfl
        by_cases hE : E = b
        · rw [if_pos ⟨rfl, hv, hE⟩]
          subst hE
          simp only [dR]
          (refine Tri.frz 66 (by simp only [seval, go_sem]; rfl) (by simp only [seval, go_sem]; rfl) ?_)
          ((repeat' (first|(with_reducible (first|refine Tri.seq ?_|refine Tri.skip ?_|refine Tri.exit ?_|refine Tri.ret ?_|refine TriD.nil ?_|refine thenQ_n ?_|refine thenQ_e ?_|refine inBlockQ_e ?_|refine loopQ_e ?_|refine Tri.regionD (by simp only [List.map_cons,List.map_nil];rfl) ?_))|((with_reducible refine isTriD ?_);first|(with_reducible refine TriD.step (by simp only [seval,go_sem,mapO_rowB,beq_self_eq_true,flatRB];rfl) ?_)|((with_reducible refine isCallD ?_);first|((with_reducible (first|refine TriD.dE (by simp only [seval,go_sem,mapO_rowB,beq_self_eq_true,flatRB];rfl) (by simp only [seval,go_sem,mapO_rowB,beq_self_eq_true,flatRB];first|rfl) ?_));first|refine CallK.c (dst := some 70) [70] (hec) (by simp only [seval,go_sem,mapO_rowB,beq_self_eq_true,flatRB];rfl) ?_))|(with_reducible refine TriD.step (by simp (disch := omega) only [seval,go_sem,cnd,intV,shV,convV,strV,mapO_rowB,beq_self_eq_true,flatRB];rfl) ?_)|(with_reducible refine TriD.byGuard (by simp only [seval,go_sem,mapO_rowB,beq_self_eq_true,flatRB];rfl) (by simp only [seval,go_sem,mapO_rowB,beq_self_eq_true,flatRB];rfl) (by (fail_if_success (with_reducible exact nlT));(fail_if_success (with_reducible exact nlF));exact nlI) (cvI ?_) (cvI ?_)))|(with_reducible refine isCond ?_;with_reducible refine Tri.cond (by simp only [seval,go_sem,mapO_rowB,beq_self_eq_true,flatRB];rfl) (cvI ?_) (cvI ?_))|(with_reducible refine isCv ?_;intro hc;(try simp only [bls,reduceCtorEq] at hc);(try (exfalso;omega)))|(with_reducible refine isRet ?_;refine RetOK.q rfl (by with_unfolding_all (show retD _ _ [.cell 2 50,.tmp 3] = _);simp only [seval,go_sem];rfl) (by simp only [seval,go_sem];rfl) (by decide) (by simp only [seval,go_sem];first|rfl) (by simp only [seval,go_sem];first|rfl) rfl ?_ <;> (try simp only [seval,go_sem]) <;> (repeat' (with_reducible apply And.intro)) <;> (try rfl)))) <;> (try (fail)))
        · rw [if_neg (fun h => hE h.2.2)]
          rw [decide_eq_false hE] at hse
          simp only [dR, zeroR, List.map_nil]
          (refine Tri.frz 66 (by simp only [seval, go_sem]; rfl) (by simp only [seval, go_sem]; rfl) ?_)
          ((repeat' (first|(with_reducible (first|refine Tri.seq ?_|refine Tri.exit ?_|refine Tri.ret ?_|refine TriD.nil ?_|refine thenQ_n ?_|refine thenQ_r ?_|refine thenQ_e ?_|refine inBlockQ_e ?_|refine loopQ_e ?_|refine Tri.regionD (by simp only [List.map_cons,List.map_nil];rfl) ?_))|((with_reducible refine isTriD ?_);first|(with_reducible refine TriD.step (by simp only [seval,go_sem,mapO_rowB,hse,flatRB];rfl) ?_)|((with_reducible refine isCallD ?_);first|((with_reducible (first|refine TriD.dE (by simp only [seval,go_sem,mapO_rowB,hse,flatRB];rfl) (by simp only [seval,go_sem,mapO_rowB,hse,flatRB];first|rfl) ?_));first|refine CallK.c (dst := some 70) [70] (hec) (by simp only [seval,go_sem,mapO_rowB,hse,flatRB];rfl) ?_))|(with_reducible refine TriD.step (by simp (disch := omega) only [seval,go_sem,cnd,intV,shV,convV,strV,mapO_rowB,hse,flatRB];rfl) ?_)|(with_reducible refine TriD.byGuard (by simp only [seval,go_sem,mapO_rowB,hse,flatRB];rfl) (by simp only [seval,go_sem,mapO_rowB,hse,flatRB];rfl) (by (fail_if_success (with_reducible exact nlT));(fail_if_success (with_reducible exact nlF));exact nlI) (cvI ?_) (cvI ?_)))|(with_reducible refine isCond ?_;with_reducible refine Tri.cond (by simp only [seval,go_sem,mapO_rowB,hse,flatRB];rfl) (cvI ?_) (cvI ?_))|(with_reducible refine isCv ?_;intro hc;(try simp only [bls,reduceCtorEq] at hc);(try (exfalso;omega)))|(with_reducible refine isRet ?_;refine RetOK.q rfl (by with_unfolding_all (show retD _ _ [.cell 2 50,.tmp 3] = _);simp only [seval,go_sem];rfl) (by simp only [seval,go_sem];rfl) (by decide) (by simp only [seval,go_sem];first|rfl) (by simp only [seval,go_sem];first|rfl) rfl ?_ <;> (try simp only [seval,go_sem]) <;> (repeat' (with_reducible apply And.intro)) <;> (try rfl)))) <;> (try (fail)))
      · rw [if_neg (fun h => by simp at h)]
        simp only [dR, zeroR, List.map_nil]
        (refine Tri.frz 66 (by simp only [seval, go_sem]; rfl) (by simp only [seval, go_sem]; rfl) ?_)
        ((repeat' (first|(with_reducible (first|refine Tri.seq ?_|refine Tri.exit ?_|refine Tri.ret ?_|refine TriD.nil ?_|refine thenQ_n ?_|refine thenQ_r ?_|refine thenQ_e ?_|refine inBlockQ_e ?_|refine loopQ_e ?_|refine Tri.regionD (by simp only [List.map_cons,List.map_nil];rfl) ?_))|((with_reducible refine isTriD ?_);first|(with_reducible refine TriD.step (by simp only [seval,go_sem,flatRB];rfl) ?_)|((with_reducible refine isCallD ?_);first|((with_reducible (first|refine TriD.dE (by simp only [seval,go_sem,flatRB];rfl) (by simp only [seval,go_sem,flatRB];first|rfl) ?_));first|refine CallK.c (dst := some 70) [70] (hec) (by simp only [seval,go_sem,flatRB];rfl) ?_))|(with_reducible refine TriD.step (by simp (disch := omega) only [seval,go_sem,cnd,intV,shV,convV,strV,flatRB];rfl) ?_)|(with_reducible refine TriD.byGuard (by simp only [seval,go_sem,flatRB];rfl) (by simp only [seval,go_sem,flatRB];rfl) (by (fail_if_success (with_reducible exact nlT));(fail_if_success (with_reducible exact nlF));exact nlI) (cvI ?_) (cvI ?_)))|(with_reducible refine isCond ?_;with_reducible refine Tri.cond (by simp only [seval,go_sem,flatRB];rfl) (cvI ?_) (cvI ?_))|(with_reducible refine isCv ?_;intro hc;(try simp only [bls,reduceCtorEq] at hc);(try (exfalso;omega)))|(with_reducible refine isRet ?_;refine RetOK.q rfl (by with_unfolding_all (show retD _ _ [.cell 2 50,.tmp 3] = _);simp only [seval,go_sem];rfl) (by simp only [seval,go_sem];rfl) (by decide) (by simp only [seval,go_sem];first|rfl) (by simp only [seval,go_sem];first|rfl) rfl ?_ <;> (try simp only [seval,go_sem]) <;> (repeat' (with_reducible apply And.intro)) <;> (try rfl)))) <;> (try (fail)))
    · rw [if_neg (fun h => hv h.2.1)]
      have hec := encr_bad (r := ⟨N1, N2, N3, ls, sat⟩) (by simp only; omega) hkk rfl hv
      simp only [dR] at hec
      generalize validR ⟨N1, N2, N3, ls, sat⟩ = ev at *
      cases k
      · have hnlt := hgo' rfl
        simp only [dR, zeroR, List.map_nil]
        ((repeat' (first|(with_reducible (first|refine Tri.seq ?_|refine Tri.exit ?_|refine Tri.ret ?_|refine TriD.nil ?_|refine thenQ_n ?_|refine thenQ_r ?_|refine thenQ_e ?_|refine inBlockQ_e ?_|refine loopQ_e ?_|refine Tri.regionD (by simp only [List.map_cons,List.map_nil];rfl) ?_))|((with_reducible refine isTriD ?_);first|(with_reducible refine TriD.step (by simp only [seval,go_sem];rfl) ?_)|((with_reducible refine isCallD ?_);first|((with_reducible (first|refine TriD.dS (by simp only [seval,go_sem];rfl) (by simp only [seval,go_sem];first|rfl) ?_));first|refine CallK.c [] (hec) (by simp only [seval,go_sem];rfl) ?_))|(with_reducible refine TriD.step (by simp (disch := omega) only [seval,go_sem,cnd,intV,shV,convV,strV];rfl) ?_)|(with_reducible refine TriD.byGuard (by simp only [seval,go_sem];rfl) (by simp only [seval,go_sem];rfl) (by (fail_if_success (with_reducible exact nlT));(fail_if_success (with_reducible exact nlF));exact nlI) (cvI ?_) (cvI ?_)))|(with_reducible refine isCond ?_;with_reducible refine Tri.cond (by simp only [seval,go_sem];rfl) (cvI ?_) (cvI ?_))|(with_reducible refine isCv ?_;intro hc;(try simp only [bls,reduceCtorEq] at hc);(try (exfalso;omega)))|(with_reducible refine isRet ?_;(refine RetOK.frz 66 (by simp only [seval,go_sem];rfl) (by simp only [seval,go_sem];rfl) ?_);(with_reducible refine isRet ?_;refine RetOK.q rfl (by with_unfolding_all (show retD _ _ [.cell 2 50,.tmp 3] = _);simp only [seval,go_sem];rfl) (by simp only [seval,go_sem];rfl) (by decide) (by simp only [seval,go_sem];first|rfl) (by simp only [seval,go_sem];first|rfl) rfl ?_ <;> (try simp only [seval,go_sem]) <;> (repeat' (with_reducible apply And.intro)) <;> (try rfl))))) <;> (try (fail)))
      · simp only [dR, zeroR, List.map_nil]
        ((repeat' (first|(with_reducible (first|refine Tri.seq ?_|refine Tri.exit ?_|refine Tri.ret ?_|refine TriD.nil ?_|refine thenQ_n ?_|refine thenQ_r ?_|refine thenQ_e ?_|refine inBlockQ_e ?_|refine loopQ_e ?_|refine Tri.regionD (by simp only [List.map_cons,List.map_nil];rfl) ?_))|((with_reducible refine isTriD ?_);first|(with_reducible refine TriD.step (by simp only [seval,go_sem];rfl) ?_)|((with_reducible refine isCallD ?_);first|((with_reducible (first|refine TriD.dS (by simp only [seval,go_sem];rfl) (by simp only [seval,go_sem];first|rfl) ?_));first|refine CallK.c [] (hec) (by simp only [seval,go_sem];rfl) ?_))|(with_reducible refine TriD.step (by simp (disch := omega) only [seval,go_sem,cnd,intV,shV,convV,strV];rfl) ?_)|(with_reducible refine TriD.byGuard (by simp only [seval,go_sem];rfl) (by simp only [seval,go_sem];rfl) (by (fail_if_success (with_reducible exact nlT));(fail_if_success (with_reducible exact nlF));exact nlI) (cvI ?_) (cvI ?_)))|(with_reducible refine isCond ?_;with_reducible refine Tri.cond (by simp only [seval,go_sem];rfl) (cvI ?_) (cvI ?_))|(with_reducible refine isCv ?_;intro hc;(try simp only [bls,reduceCtorEq] at hc);(try (exfalso;omega)))|(with_reducible refine isRet ?_;(refine RetOK.frz 66 (by simp only [seval,go_sem];rfl) (by simp only [seval,go_sem];rfl) ?_);(with_reducible refine isRet ?_;refine RetOK.q rfl (by with_unfolding_all (show retD _ _ [.cell 2 50,.tmp 3] = _);simp only [seval,go_sem];rfl) (by simp only [seval,go_sem];rfl) (by decide) (by simp only [seval,go_sem];first|rfl) (by simp only [seval,go_sem];first|rfl) rfl ?_ <;> (try simp only [seval,go_sem]) <;> (repeat' (with_reducible apply And.intro)) <;> (try rfl))))) <;> (try (fail)))
end Go.Proofs.Ytnckgbmifigadaa
