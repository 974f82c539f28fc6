/- Ranks: the walks of its small functions. -/
import Derived.Test.YtnckgbmifigadaaZRkD
import Derived.Test.YtnckgbmifigadaaZFrE
set_option linter.unusedSimpArgs false
set_option linter.unusedVariables false
namespace Go.Proofs.Ytnckgbmifigadaa
open Go.RowKit Go.Avm
set_option maxRecDepth 100000 in set_option maxHeartbeats 3200000 in
theorem sizedr_calls {n : Int} : ACalls Try.prog 83 [.sc (.int .i64 n)] (.sc (.bool (evenOk n))) [] := by
  refine of_tri [] [] Try.func83 rfl call83 rfl (by decide) (by decide) rfl rfl Try.ntmps83 (by simp (disch := omega) only [seval,go_sem,cnd,intV,shV,convV,strV,List.replicate,List.zip_nil_left,List.zip_cons_cons];rfl) (by simp (disch := omega) only [seval,go_sem,cnd,intV,shV,convV,strV,List.zip_nil_left,List.zip_cons_cons];rfl) ?_
  ((repeat' (first|(with_reducible refine isCv ?_;intro hc;(try simp only [bls,reduceCtorEq] at hc);(try (exfalso;omega)))|((with_reducible refine isTriD ?_);first|((with_reducible first|refine TriD.step (by simp only [seval,go_sem];rfl) ?_|refine TriD.step (by simp (disch := omega) only [seval,go_sem,cnd,intV,shV,convV,strV];rfl) ?_);refine LVs (st := [7,12]) ?_))|(with_reducible refine isRet ?_;refine RetV (rs := [.tmp 2]) (by with_unfolding_all rfl) rfl ?_ <;> simp only [seval,go_sem] <;> (repeat' (with_reducible apply And.intro)) <;> (try rfl))|(with_reducible (first|refine TVq (st := [7,12]) ?_))|simp only [seval,go_sem]|(with_reducible refine oV_st (by simp (disch := omega) only [seval,go_sem,cnd,intV,shV,convV,strV];rfl) ?_)|(with_reducible refine gV_split (by simp only [seval,go_sem];rfl) (by simp only [seval,go_sem];rfl) (by simp only [seval,go_sem];first|done) (cvI ?_) (cvI ?_) (by simp only [seval,go_sem])))) <;> (try (fail)))
  all_goals (simp [evenOk, *]; try omega)
set_option maxRecDepth 100000 in set_option maxHeartbeats 3200000 in
theorem newr_calls {n : Int} : ACalls Try.prog 34 [.sc (.int .i64 n)] (.tup [dR (newR n).1, .sc (.int .i64 (newR n).2)]) [] := by
  rcases Bool.eq_false_or_eq_true (evenOk n) with hs | hs
  all_goals simp only [newR, hs, if_true, Bool.false_eq_true, if_false, dR, zeroR, List.map_nil]
  all_goals refine of_tri [] [2,5] Try.func34 rfl call34 rfl (by decide) (by decide) rfl rfl Try.ntmps34 (by simp (disch := omega) only [seval,go_sem,cnd,intV,shV,convV,strV,List.replicate,List.zip_nil_left,List.zip_cons_cons];rfl) (by simp (disch := omega) only [seval,go_sem,cnd,intV,shV,convV,strV,List.zip_nil_left,List.zip_cons_cons];rfl) ?_
  all_goals ((repeat' (first|((with_reducible refine isTriD ?_);first|((with_reducible refine isCallD ?_);first|((with_reducible refine LVcall (st := []) ?_);simp only [seval,go_sem,hs];first|(refine CallL.c (sizedr_calls) ?_))))|(with_reducible refine isRet ?_;refine RetV (rs := [.cell 2 50,.tmp 3]) (by with_unfolding_all rfl) rfl ?_ <;> simp only [seval,go_sem] <;> (repeat' (with_reducible apply And.intro)) <;> (try rfl))|(with_reducible (first|refine TVq (st := []) ?_))|simp only [seval,go_sem,hs])) <;> (try (fail)))
set_option maxRecDepth 100000 in set_option maxHeartbeats 3200000 in
theorem rnewr_calls {n : Int} : ACalls Try.prog 35 [.sc (.int .i64 n)] (.tup [dR (newR n).1, .sc (.int .i64 (newR n).2)]) [] := by
  have key : (evenOk n = true ∧ (2 ≤ n ∧ n ≤ 32) ∧ n % 2 = 0) ∨ (evenOk n = false ∧ ¬ (2 ≤ n ∧ n ≤ 32)) ∨ (evenOk n = false ∧ (2 ≤ n ∧ n ≤ 32) ∧ n % 2 = 1) := by
    by_cases h : 2 ≤ n ∧ n ≤ 32
    · by_cases h2 : n % 2 = 0
      · exact .inl ⟨by simp [evenOk, h, h2], h, h2⟩
      · exact .inr (.inr ⟨by simp [evenOk, h2], h, by omega⟩)
    · exact .inr (.inl ⟨by simp only [evenOk, Bool.and_eq_false_iff, decide_eq_false_iff_not]; omega, h⟩)
  rcases key with ⟨hs, h1, h2⟩ | ⟨hs, h1⟩ | ⟨hs, h1, h2⟩
  all_goals simp only [newR, hs, if_true, Bool.false_eq_true, if_false, dR, zeroR, List.map_nil]
  all_goals refine of_tri [] [2,5] Try.func35 rfl call35 rfl (by decide) (by decide) rfl rfl Try.ntmps35 (by simp (disch := omega) only [seval,go_sem,cnd,intV,shV,convV,strV,List.replicate,List.zip_nil_left,List.zip_cons_cons];rfl) (by simp (disch := omega) only [seval,go_sem,cnd,intV,shV,convV,strV,List.zip_nil_left,List.zip_cons_cons];rfl) ?_
  all_goals ((repeat' (first|(with_reducible refine isCv ?_;intro hc;(try simp only [bls,reduceCtorEq] at hc);(try (exfalso;omega)))|((with_reducible refine isTriD ?_);first|((with_reducible refine isCallD ?_);first|((with_reducible refine LVcall (st := []) ?_);simp only [seval,go_sem];first|(refine CallL.c (within_calls) ?_))))|(with_reducible refine isRet ?_;refine RetV (rs := [.cell 2 50,.tmp 3]) (by with_unfolding_all rfl) rfl ?_ <;> simp only [seval,go_sem] <;> (repeat' (with_reducible apply And.intro)) <;> (try rfl))|(with_reducible (first|refine TVq (st := []) ?_))|simp only [seval,go_sem]|(with_reducible refine oV_st (by simp (disch := omega) only [seval,go_sem,cnd,intV,shV,convV,strV];rfl) ?_)|(with_reducible refine gV_split (by simp only [seval,go_sem];rfl) (by simp only [seval,go_sem];rfl) (by simp only [seval,go_sem];first|done) (cvI ?_) (cvI ?_) (by simp only [seval,go_sem])))) <;> (try (fail)))
set_option maxRecDepth 100000 in set_option maxHeartbeats 3200000 in
theorem placer_calls {n : Int} : ACalls Try.prog 75 [.sc (.int .i64 n)] (.sc (.bool (placeOk n))) [] := by
  refine of_tri [] [] Try.func75 rfl call75 rfl (by decide) (by decide) rfl rfl Try.ntmps75 (by simp (disch := omega) only [seval,go_sem,cnd,intV,shV,convV,strV,List.replicate,List.zip_nil_left,List.zip_cons_cons];rfl) (by simp (disch := omega) only [seval,go_sem,cnd,intV,shV,convV,strV,List.zip_nil_left,List.zip_cons_cons];rfl) ?_
  ((repeat' (first|(with_reducible refine isCv ?_;intro hc;(try simp only [bls,reduceCtorEq] at hc);(try (exfalso;omega)))|((with_reducible refine isTriD ?_);first|((with_reducible first|refine TriD.step (by simp only [seval,go_sem];rfl) ?_|refine TriD.step (by simp (disch := omega) only [seval,go_sem,cnd,intV,shV,convV,strV];rfl) ?_);refine LVs (st := [7]) ?_))|(with_reducible refine isRet ?_;refine RetV (rs := [.tmp 2]) (by with_unfolding_all rfl) rfl ?_ <;> simp only [seval,go_sem] <;> (repeat' (with_reducible apply And.intro)) <;> (try rfl))|(with_reducible (first|refine TVq (st := [7]) ?_))|simp only [seval,go_sem]|(with_reducible refine oV_st (by simp (disch := omega) only [seval,go_sem,cnd,intV,shV,convV,strV];rfl) ?_)|(with_reducible refine gV_split (by simp only [seval,go_sem];rfl) (by simp only [seval,go_sem];rfl) (by simp only [seval,go_sem];first|done) (cvI ?_) (cvI ?_) (by simp only [seval,go_sem])))) <;> (try (fail)))
  all_goals (simp [placeOk]; try omega)
set_option maxRecDepth 100000 in set_option maxHeartbeats 3200000 in
theorem positionr_calls {n : Int} : ACalls Try.prog 80 [.sc (.int .i64 n)] (.sc (.bool (placeOk n))) [] := by
  refine of_tri [] [] Try.func80 rfl call80 rfl (by decide) (by decide) rfl rfl Try.ntmps80 (by simp (disch := omega) only [seval,go_sem,cnd,intV,shV,convV,strV,List.replicate,List.zip_nil_left,List.zip_cons_cons];rfl) (by simp (disch := omega) only [seval,go_sem,cnd,intV,shV,convV,strV,List.zip_nil_left,List.zip_cons_cons];rfl) ?_
  ((repeat' (first|(with_reducible refine isCv ?_;intro hc;(try simp only [bls,reduceCtorEq] at hc);(try (exfalso;omega)))|((with_reducible refine isTriD ?_);first|((with_reducible first|refine TriD.step (by simp only [seval,go_sem];rfl) ?_|refine TriD.step (by simp (disch := omega) only [seval,go_sem,cnd,intV,shV,convV,strV];rfl) ?_);refine LVs (st := [7]) ?_))|(with_reducible refine isRet ?_;refine RetV (rs := [.tmp 2]) (by with_unfolding_all rfl) rfl ?_ <;> simp only [seval,go_sem] <;> (repeat' (with_reducible apply And.intro)) <;> (try rfl))|(with_reducible (first|refine TVq (st := [7]) ?_))|simp only [seval,go_sem]|(with_reducible refine oV_st (by simp (disch := omega) only [seval,go_sem,cnd,intV,shV,convV,strV];rfl) ?_)|(with_reducible refine gV_split (by simp only [seval,go_sem];rfl) (by simp only [seval,go_sem];rfl) (by simp only [seval,go_sem];first|done) (cvI ?_) (cvI ?_) (by simp only [seval,go_sem])))) <;> (try (fail)))
  all_goals (simp [placeOk]; try omega)
end Go.Proofs.Ytnckgbmifigadaa
