/- Readers of numbers and texts: of the reference, and what the program's readers compute; what is written is read back (plain). -/
import Derived.Test.YtnckgbmifigadaaZWu
import Derived.Test.YtnckgbmifigadaaZWs
set_option linter.unusedSimpArgs false
set_option linter.unusedVariables false
namespace Go.Proofs.Ytnckgbmifigadaa
open Go.RowKit Go.Avm
def numP (s : List Int × Bool) : Int × List Int × Bool := if s.2 = true ∨ (rdU s.1).2.2 ≠ 0 then (0, s.1, true) else ((rdU s.1).1, s.1.drop (rdU s.1).2.1.toNat, false)
def txtP (s : List Int × Bool) : ByteArray × List Int × Bool := if s.2 = true ∨ (rdT s.1).2.2 ≠ 0 then (.empty, s.1, true) else ((rdT s.1).1, s.1.drop (rdT s.1).2.1.toNat, false)
def numR (b : List Int) (most : Int) (s : Int × Bool) : Int × Int × Bool := if s.2 = true ∨ (rdU (b.drop s.1.toNat)).2.2 ≠ 0 ∨ most < (rdU (b.drop s.1.toNat)).1 then (0, s.1, true) else ((rdU (b.drop s.1.toNat)).1, s.1 + (rdU (b.drop s.1.toNat)).2.1, false)
def txtR (b : List Int) (s : Int × Bool) : ByteArray × Int × Bool := if s.2 = true ∨ (rdT (b.drop s.1.toNat)).2.2 ≠ 0 then (.empty, s.1, true) else ((rdT (b.drop s.1.toNat)).1, s.1 + (rdT (b.drop s.1.toNat)).2.1, false)
set_option maxRecDepth 100000 in set_option maxHeartbeats 3200000 in
theorem rnum_calls {b : List Int} {a : Int} {bad : Bool} {most : Int} (hb : BytesL b) (hl : b.length ≤ 1000000) (h0 : 0 ≤ a) (ha : a ≤ b.length) : MCalls Try.prog 99 [.box [.sl 1 (b.map rowB),.sc (.int .i64 a),.sc (.bool bad)]] [.ref 0 0,.sc (.int .i64 most)] (.sc (.int .i64 (numR b most (a,bad)).1)) [.box [.sl 1 (b.map rowB),.sc (.int .i64 (numR b most (a,bad)).2.1),.sc (.bool (numR b most (a,bad)).2.2)]] := by
  have hr := rdU_range (hb.drop a.toNat)
  have hd : (b.map rowB).drop a.toNat = (b.drop a.toNat).map rowB := by rw [List.map_drop]
  have hb' := hb.drop a.toNat
  have hl' : (b.drop a.toNat).length ≤ 1000000 := by rw [List.length_drop]; omega
  rw [List.length_drop] at hr
  by_cases h : bad = true ∨ (rdU (b.drop a.toNat)).2.2 ≠ 0 ∨ most < (rdU (b.drop a.toNat)).1
  · have e : numR b most (a, bad) = (0, a, true) := if_pos h
    rw [e]
    cases bad
    all_goals
      simp only [Bool.false_eq_true, false_or, true_or] at h
      refine of_tri [1000] [18] Try.func99 rfl call99 rfl (by decide) (by decide) rfl rfl Try.ntmps99 (by simp (disch := omega) only [seval,go_sem,cnd,intV,shV,convV,strV,List.replicate,List.zip_nil_left,List.zip_cons_cons];rfl) (by simp (disch := omega) only [seval,go_sem,cnd,intV,shV,convV,strV,List.zip_nil_left,List.zip_cons_cons];rfl) ?_
      ((repeat' (first|(with_reducible (first|refine Tri.seq ?_|refine Tri.ret ?_|refine TriD.nil ?_|refine ListD.nil ?_|refine thenQ_n ?_|refine thenQ_r ?_|refine Tri.regionD (by simp only [List.map_cons,List.map_nil];rfl) ?_))|((with_reducible refine isTriD ?_);first|(with_reducible refine TriD.step (by simp only [seval,go_sem,hd];rfl) ?_)|(with_reducible refine TriD.step (by simp (disch := omega) only [seval,go_sem,cnd,intV,shV,convV,strV,hd];rfl) ?_)|(with_reducible refine TriD.byGuard (by simp only [seval,go_sem,hd];rfl) (by simp only [seval,go_sem,hd];rfl) (by (fail_if_success (with_reducible exact nlT));(fail_if_success (with_reducible exact nlF));exact nlI) (cvI ?_) (cvI ?_)))|((with_reducible refine isListD ?_);first|(with_reducible refine ListD.step (by simp only [seval,go_sem,hd];rfl) ?_)|((with_reducible refine isCallV ?_);first|((with_reducible (first|refine ListD.dE (by simp only [seval,go_sem,hd];rfl) (by simp only [seval,go_sem,hd];first|rfl) ?_));first|refine CallW.c (rdu_calls ?_ ?_) (by simp only [seval,go_sem,hd];rfl) ?_))|(with_reducible refine ListD.step (by simp (disch := omega) only [seval,go_sem,cnd,intV,shV,convV,strV,hd];rfl) ?_))|(with_reducible refine isCond ?_;with_reducible refine Tri.cond (by simp only [seval,go_sem,hd];rfl) (cvI ?_) (cvI ?_))|(with_reducible refine isCv ?_;intro hc;(try simp only [bls,reduceCtorEq] at hc);(try (exfalso;omega)))|(with_reducible refine isDrawn ?_;refine Tri.drawnD mix (by kernel_rfl) (by simp only [List.map_cons,List.map_nil];rfl) ?_)|(with_reducible refine isRet ?_;refine RetOK.q rfl rfl (by simp only [seval,go_sem];rfl) (by decide) (by simp only [seval,go_sem];first|rfl) (by simp only [seval,go_sem];first|rfl) rfl ?_ <;> (try simp only [seval,go_sem]) <;> (repeat' (with_reducible apply And.intro)) <;> (try rfl)))) <;> (try (first|(with_reducible assumption))))
  · have e : numR b most (a, bad) = ((rdU (b.drop a.toNat)).1, a + (rdU (b.drop a.toNat)).2.1, false) := if_neg h
    rw [e]
    have h1 : bad = false := by cases bad <;> simp_all
    subst h1
    simp only [Bool.false_eq_true, false_or, not_or, Decidable.not_not] at h
    obtain ⟨h2, h3⟩ := h
    refine of_tri [1000] [18] Try.func99 rfl call99 rfl (by decide) (by decide) rfl rfl Try.ntmps99 (by simp (disch := omega) only [seval,go_sem,cnd,intV,shV,convV,strV,List.replicate,List.zip_nil_left,List.zip_cons_cons];rfl) (by simp (disch := omega) only [seval,go_sem,cnd,intV,shV,convV,strV,List.zip_nil_left,List.zip_cons_cons];rfl) ?_
    (all_goals (try have hZ := (And.intro h2 hd));(repeat' (first|(with_reducible (first|refine Tri.seq ?_|refine Tri.skip ?_|refine Tri.ret ?_|refine TriD.nil ?_|refine ListD.nil ?_|refine thenQ_n ?_|refine Tri.regionD (by simp only [List.map_cons,List.map_nil];rfl) ?_))|((with_reducible refine isTriD ?_);first|(with_reducible refine TriD.step (by simp only [seval,go_sem,hZ];rfl) ?_)|(with_reducible refine TriD.step (by simp (disch := omega) only [seval,go_sem,cnd,intV,shV,convV,strV,hZ];rfl) ?_))|((with_reducible refine isListD ?_);first|(with_reducible refine ListD.step (by simp only [seval,go_sem,hZ];rfl) ?_)|((with_reducible refine isCallV ?_);first|((with_reducible (first|refine ListD.dE (by simp only [seval,go_sem,hZ];rfl) (by simp only [seval,go_sem,hZ];first|rfl) ?_));first|refine CallW.c (rdu_calls ?_ ?_) (by simp only [seval,go_sem,hZ];rfl) ?_))|(with_reducible refine ListD.step (by simp (disch := omega) only [seval,go_sem,cnd,intV,shV,convV,strV,hZ];rfl) ?_))|(with_reducible refine isCond ?_;with_reducible refine Tri.cond (by simp only [seval,go_sem,hZ];rfl) (cvI ?_) (cvI ?_))|(with_reducible refine isCv ?_;intro hc;(try simp only [bls,reduceCtorEq] at hc);(try (exfalso;omega)))|(with_reducible refine isDrawn ?_;refine Tri.drawnD mix (by kernel_rfl) (by simp only [List.map_cons,List.map_nil];rfl) ?_)|(with_reducible refine isRet ?_;refine RetOK.q rfl rfl (by simp only [seval,go_sem];rfl) (by decide) (by simp only [seval,go_sem];first|rfl) (by simp only [seval,go_sem];first|rfl) rfl ?_ <;> (try simp only [seval,go_sem]) <;> (repeat' (with_reducible apply And.intro)) <;> (try rfl)))) <;> (try (first|(with_reducible assumption)));all_goals (try clear hZ))
set_option maxRecDepth 100000 in set_option maxHeartbeats 3200000 in
theorem rtxt_calls {b : List Int} {a : Int} {bad : Bool} (hb : BytesL b) (hl : b.length ≤ 1000000) (h0 : 0 ≤ a) (ha : a ≤ b.length) : MCalls Try.prog 100 [.box [.sl 1 (b.map rowB),.sc (.int .i64 a),.sc (.bool bad)]] [.ref 0 0] (.sc (.string (txtR b (a,bad)).1)) [.box [.sl 1 (b.map rowB),.sc (.int .i64 (txtR b (a,bad)).2.1),.sc (.bool (txtR b (a,bad)).2.2)]] := by
  have hr := rdT_range (hb.drop a.toNat)
  have hd : (b.map rowB).drop a.toNat = (b.drop a.toNat).map rowB := by rw [List.map_drop]
  have hb' := hb.drop a.toNat
  have hl' : (b.drop a.toNat).length ≤ 1000000 := by rw [List.length_drop]; omega
  rw [List.length_drop] at hr
  by_cases h : bad = true ∨ (rdT (b.drop a.toNat)).2.2 ≠ 0
  · have e : txtR b (a, bad) = (.empty, a, true) := if_pos h
    rw [e]
    cases bad
    all_goals
      simp only [Bool.false_eq_true, false_or, true_or] at h
      refine of_tri [1000] [16] Try.func100 rfl call100 rfl (by decide) (by decide) rfl rfl Try.ntmps100 (by simp (disch := omega) only [seval,go_sem,cnd,intV,shV,convV,strV,List.replicate,List.zip_nil_left,List.zip_cons_cons];rfl) (by simp (disch := omega) only [seval,go_sem,cnd,intV,shV,convV,strV,List.zip_nil_left,List.zip_cons_cons];rfl) ?_
      ((repeat' (first|(with_reducible (first|refine Tri.seq ?_|refine Tri.ret ?_|refine TriD.nil ?_|refine ListD.nil ?_|refine thenQ_n ?_|refine thenQ_r ?_|refine Tri.regionD (by simp only [List.map_cons,List.map_nil];rfl) ?_))|((with_reducible refine isTriD ?_);first|(with_reducible refine TriD.step (by simp only [seval,go_sem,hd];rfl) ?_)|(with_reducible refine TriD.step (by simp (disch := omega) only [seval,go_sem,cnd,intV,shV,convV,strV,hd];rfl) ?_))|((with_reducible refine isListD ?_);first|(with_reducible refine ListD.step (by simp only [seval,go_sem,hd];rfl) ?_)|((with_reducible refine isCallV ?_);first|((with_reducible (first|refine ListD.dE (by simp only [seval,go_sem,hd];rfl) (by simp only [seval,go_sem,hd];first|rfl) ?_));first|refine CallW.c (rdt_calls ?_ ?_) (by simp only [seval,go_sem,hd];rfl) ?_))|(with_reducible refine ListD.step (by simp (disch := omega) only [seval,go_sem,cnd,intV,shV,convV,strV,hd];rfl) ?_))|(with_reducible refine isCond ?_;with_reducible refine Tri.cond (by simp only [seval,go_sem,hd];rfl) (cvI ?_) (cvI ?_))|(with_reducible refine isCv ?_;intro hc;(try simp only [bls,reduceCtorEq] at hc);(try (exfalso;omega)))|(with_reducible refine isDrawn ?_;refine Tri.drawnD mix (by kernel_rfl) (by simp only [List.map_cons,List.map_nil];rfl) ?_)|(with_reducible refine isRet ?_;refine RetOK.q rfl rfl (by simp only [seval,go_sem];rfl) (by decide) (by simp only [seval,go_sem];first|rfl) (by simp only [seval,go_sem];first|rfl) rfl ?_ <;> (try simp only [seval,go_sem]) <;> (repeat' (with_reducible apply And.intro)) <;> (try rfl)))) <;> (try (first|(with_reducible assumption))))
      all_goals (try rfl)
  · have e : txtR b (a, bad) = ((rdT (b.drop a.toNat)).1, a + (rdT (b.drop a.toNat)).2.1, false) := if_neg h
    rw [e]
    have h1 : bad = false := by cases bad <;> simp_all
    subst h1
    have h2 : (rdT (b.drop a.toNat)).2.2 = 0 := by simp at h; exact h
    refine of_tri [1000] [16] Try.func100 rfl call100 rfl (by decide) (by decide) rfl rfl Try.ntmps100 (by simp (disch := omega) only [seval,go_sem,cnd,intV,shV,convV,strV,List.replicate,List.zip_nil_left,List.zip_cons_cons];rfl) (by simp (disch := omega) only [seval,go_sem,cnd,intV,shV,convV,strV,List.zip_nil_left,List.zip_cons_cons];rfl) ?_
    (all_goals (try have hZ := (And.intro h2 hd));(repeat' (first|(with_reducible (first|refine Tri.seq ?_|refine Tri.skip ?_|refine Tri.ret ?_|refine TriD.nil ?_|refine ListD.nil ?_|refine thenQ_n ?_|refine Tri.regionD (by simp only [List.map_cons,List.map_nil];rfl) ?_))|((with_reducible refine isTriD ?_);first|(with_reducible refine TriD.step (by simp only [seval,go_sem,hZ];rfl) ?_)|(with_reducible refine TriD.step (by simp (disch := omega) only [seval,go_sem,cnd,intV,shV,convV,strV,hZ];rfl) ?_))|((with_reducible refine isListD ?_);first|(with_reducible refine ListD.step (by simp only [seval,go_sem,hZ];rfl) ?_)|((with_reducible refine isCallV ?_);first|((with_reducible (first|refine ListD.dE (by simp only [seval,go_sem,hZ];rfl) (by simp only [seval,go_sem,hZ];first|rfl) ?_));first|refine CallW.c (rdt_calls ?_ ?_) (by simp only [seval,go_sem,hZ];rfl) ?_))|(with_reducible refine ListD.step (by simp (disch := omega) only [seval,go_sem,cnd,intV,shV,convV,strV,hZ];rfl) ?_))|(with_reducible refine isCond ?_;with_reducible refine Tri.cond (by simp only [seval,go_sem,hZ];rfl) (cvI ?_) (cvI ?_))|(with_reducible refine isCv ?_;intro hc;(try simp only [bls,reduceCtorEq] at hc);(try (exfalso;omega)))|(with_reducible refine isDrawn ?_;refine Tri.drawnD mix (by kernel_rfl) (by simp only [List.map_cons,List.map_nil];rfl) ?_)|(with_reducible refine isRet ?_;refine RetOK.q rfl rfl (by simp only [seval,go_sem];rfl) (by decide) (by simp only [seval,go_sem];first|rfl) (by simp only [seval,go_sem];first|rfl) rfl ?_ <;> (try simp only [seval,go_sem]) <;> (repeat' (with_reducible apply And.intro)) <;> (try rfl)))) <;> (try (first|(with_reducible assumption)));all_goals (try clear hZ))
set_option maxRecDepth 100000 in set_option maxHeartbeats 3200000 in
theorem rdone_calls {b : List Int} {a : Int} {bad : Bool} (hl : b.length ≤ 1000000) (h0 : 0 ≤ a) (ha : a ≤ b.length) : MCalls Try.prog 101 [.box [.sl 1 (b.map rowB),.sc (.int .i64 a),.sc (.bool bad)]] [.ref 0 0] (.sc (.bool (!bad && decide (a = (b.length : Int))))) [.box [.sl 1 (b.map rowB),.sc (.int .i64 a),.sc (.bool bad)]] := by
  cases bad
  all_goals
    refine of_tri [1000] [] Try.func101 rfl call101 rfl (by decide) (by decide) rfl rfl Try.ntmps101 (by simp (disch := omega) only [seval,go_sem,cnd,intV,shV,convV,strV,List.replicate,List.zip_nil_left,List.zip_cons_cons];rfl) (by simp (disch := omega) only [seval,go_sem,cnd,intV,shV,convV,strV,List.zip_nil_left,List.zip_cons_cons];rfl) ?_
    ((repeat' (first|(with_reducible (first|refine Tri.seq ?_|refine Tri.ret ?_|refine TriD.nil ?_|refine ListD.nil ?_|refine thenQ_n ?_|refine Tri.regionD (by simp only [List.map_cons,List.map_nil];rfl) ?_))|((with_reducible refine isTriD ?_);first|(with_reducible refine TriD.step (by simp only [seval,go_sem];rfl) ?_))|((with_reducible refine isListD ?_);first|(with_reducible refine ListD.step (by simp only [seval,go_sem];rfl) ?_)|(with_reducible refine ListD.step (by simp (disch := omega) only [seval,go_sem,cnd,intV,shV,convV,strV];rfl) ?_))|(with_reducible refine isDrawn ?_;refine Tri.drawnD mix (by kernel_rfl) (by simp only [List.map_cons,List.map_nil];rfl) ?_)|(with_reducible refine isRet ?_;refine RetOK.q rfl rfl (by simp only [seval,go_sem];rfl) (by decide) (by simp only [seval,go_sem];first|rfl) (by simp only [seval,go_sem];first|rfl) rfl ?_ <;> (try simp only [seval,go_sem]) <;> (repeat' (with_reducible apply And.intro)) <;> (try rfl)))) <;> (try (fail)))
theorem rui2 {n : Nat} (hn : n ≤ 4611686018427387904) : ACalls Try.prog 94 [.sc (.int .i64 n)] (.slo 0 1 0 (uintB n).length) [.row 1 ((uintB n).map rowB)] := rui_calls hn (be_le 8 n (Nat.lt_of_le_of_lt hn (by decide)))
def OkS (m : Nat) (s : List Int × Bool) : Prop := BytesL s.1 ∧ s.1.length ≤ m
theorem numP_ok {m : Nat} {s : List Int × Bool} (h : OkS m s) : OkS m (numP s).2 ∧ 0 ≤ (numP s).1 ∧ (numP s).1 ≤ 4611686018427387904 := by
  have hr := rdU_range h.1
  unfold numP
  split
  · exact ⟨h, by simp⟩
  · exact ⟨⟨h.1.drop _, by have := h.2; simp only [List.length_drop]; omega⟩, hr.1, hr.2.1⟩
theorem txtP_ok {m : Nat} {s : List Int × Bool} (h : OkS m s) : OkS m (txtP s).2 ∧ (txtP s).1.size ≤ 65536 := by
  have hr := rdT_range h.1
  unfold txtP
  split
  · exact ⟨h, by simp⟩
  · exact ⟨⟨h.1.drop _, by have := h.2; simp only [List.length_drop]; omega⟩, hr.2.2⟩
theorem numR_ok {b : List Int} {most : Int} {s : Int × Bool} (hb : BytesL b) (h : 0 ≤ s.1 ∧ s.1 ≤ b.length) (hm : 0 ≤ most) : (0 ≤ (numR b most s).2.1 ∧ (numR b most s).2.1 ≤ b.length) ∧ 0 ≤ (numR b most s).1 ∧ (numR b most s).1 ≤ most ∧ (numR b most s).1 ≤ 4611686018427387904 := by
  have hr := rdU_range (hb.drop s.1.toNat)
  rw [List.length_drop] at hr
  unfold numR
  split
  · simp only; omega
  · rename_i hn; simp only [not_or] at hn; simp only; omega
theorem txtR_ok {b : List Int} {s : Int × Bool} (hb : BytesL b) (h : 0 ≤ s.1 ∧ s.1 ≤ b.length) : (0 ≤ (txtR b s).2.1 ∧ (txtR b s).2.1 ≤ b.length) ∧ (txtR b s).1.size ≤ 65536 := by
  have hr := rdT_range (hb.drop s.1.toNat)
  rw [List.length_drop] at hr
  unfold txtR
  split
  · exact ⟨h, by simp⟩
  · simp only; omega
theorem uintB_bytes {n : Nat} (hn : n ≤ 4611686018427387904) : BytesL (uintB n) := by
  have h8 := be_le 8 n (Nat.lt_of_le_of_lt hn (by decide))
  unfold uintB
  split
  · intro z hz; simp only [List.mem_singleton] at hz; omega
  · intro z hz
    rcases List.mem_cons.1 hz with rfl | hz
    · omega
    · exact be_bytes n z hz
theorem BytesL.append {a b : List Int} (ha : BytesL a) (hb : BytesL b) : BytesL (a ++ b) := fun z hz => (List.mem_append.1 hz).elim (ha z) (hb z)
theorem bytesB_bytes (s : ByteArray) : BytesL (bytesB s) := by
  intro z hz
  obtain ⟨x, _, rfl⟩ := List.mem_map.1 hz
  have := x.toNat_lt
  omega
theorem textB_bytes {s : ByteArray} (hs : s.size ≤ 65536) : BytesL (textB s) := (uintB_bytes (by omega)).append (bytesB_bytes s)
theorem str_eq {a b : List Int} (ha : BytesL a) (hb : BytesL b) : ((strOfNums a).toList == (strOfNums b).toList) = decide (a = b) := by
  by_cases h : a = b
  · subst h; simp
  · rw [decide_eq_false h, beq_eq_false_iff_ne]
    intro e
    rw [Go.ByteArray.toList_eq, Go.ByteArray.toList_eq] at e
    have e2 : strOfNums a = strOfNums b := ByteArray.ext (Array.toList_inj.1 e)
    have := congrArg bytesB e2
    rw [bytesB_str ha, bytesB_str hb] at this
    exact h this
theorem numR_back {b : List Int} {m : Int} {s : Int × Bool} (hb : BytesL b) (h0 : 0 ≤ s.1) (h : (numR b m s).2.2 = false) : s.2 = false ∧ 0 ≤ (numR b m s).1 ∧ (numR b m s).1 ≤ m ∧ s.1 ≤ (numR b m s).2.1 ∧ b.drop s.1.toNat = uintB (numR b m s).1.toNat ++ b.drop (numR b m s).2.1.toNat := by
  unfold numR at h ⊢
  split
  · rename_i hc; rw [if_pos hc] at h; simp at h
  · rename_i hc
    simp only [not_or, Decidable.not_not, Bool.not_eq_true] at hc
    obtain ⟨r1, r2, r3, r4, r5⟩ := rdU_range (hb.drop s.1.toNat)
    have hk := rdU_ok (hb.drop s.1.toNat) hc.2.1
    refine ⟨hc.1, r1, by simp only; omega, by simp only; omega, ?_⟩
    rw [List.drop_drop] at hk
    simp only
    rw [show (s.1 + (rdU (b.drop s.1.toNat)).2.1).toNat = s.1.toNat + (rdU (b.drop s.1.toNat)).2.1.toNat by omega]
    exact hk
theorem txtR_back {b : List Int} {s : Int × Bool} (hb : BytesL b) (h0 : 0 ≤ s.1) (h : (txtR b s).2.2 = false) : s.2 = false ∧ s.1 ≤ (txtR b s).2.1 ∧ b.drop s.1.toNat = textB (txtR b s).1 ++ b.drop (txtR b s).2.1.toNat := by
  unfold txtR at h ⊢
  split
  · rename_i hc; rw [if_pos hc] at h; simp at h
  · rename_i hc
    simp only [not_or, Decidable.not_not, Bool.not_eq_true] at hc
    obtain ⟨r1, r2, r3⟩ := rdT_range (hb.drop s.1.toNat)
    have hk := (rdT_ok (hb.drop s.1.toNat) hc.2).1
    refine ⟨hc.1, by simp only; omega, ?_⟩
    rw [List.drop_drop] at hk
    simp only
    rw [show (s.1 + (rdT (b.drop s.1.toNat)).2.1).toNat = s.1.toNat + (rdT (b.drop s.1.toNat)).2.1.toNat by omega]
    exact hk
theorem numP_fwd {n : Nat} (hn : n ≤ 4611686018427387904) (r : List Int) : numP (uintB n ++ r, false) = ((n : Int), r, false) := by
  unfold numP
  rw [rdU_enc hn, if_neg (by simp)]
  simp
theorem txtP_fwd {s : ByteArray} (hs : s.size ≤ 65536) (r : List Int) : txtP (textB s ++ r, false) = (s, r, false) := by
  unfold txtP
  rw [rdT_enc hs, if_neg (by simp)]
  simp
theorem numR_fwd {b : List Int} {m a : Int} {n : Nat} {r : List Int} (hn : n ≤ 4611686018427387904) (hm : (n : Int) ≤ m) (h0 : 0 ≤ a) (hb : b.drop a.toNat = uintB n ++ r) : ∃ a', numR b m (a, false) = ((n : Int), a', false) ∧ 0 ≤ a' ∧ b.drop a'.toNat = r := by
  refine ⟨a + ((uintB n).length : Nat), ?_, by omega, ?_⟩
  · unfold numR
    simp only
    rw [hb, rdU_enc hn, if_neg (by simp; omega)]
  · rw [show (a + ((uintB n).length : Nat)).toNat = a.toNat + (uintB n).length by omega, ← List.drop_drop, hb, List.drop_left]
theorem txtR_fwd {b : List Int} {a : Int} {s : ByteArray} {r : List Int} (hs : s.size ≤ 65536) (h0 : 0 ≤ a) (hb : b.drop a.toNat = textB s ++ r) : ∃ a', txtR b (a, false) = (s, a', false) ∧ 0 ≤ a' ∧ b.drop a'.toNat = r := by
  refine ⟨a + ((textB s).length : Nat), ?_, by omega, ?_⟩
  · unfold txtR
    simp only
    rw [hb, rdT_enc hs, if_neg (by simp)]
  · rw [show (a + ((textB s).length : Nat)).toNat = a.toNat + (textB s).length by omega, ← List.drop_drop, hb, List.drop_left]
theorem sat_if (sat : Bool) : decide (((if sat then 1 else 0 : Nat) : Int) = 1) = sat := by cases sat <;> rfl
end Go.Proofs.Ytnckgbmifigadaa
