/- RanksMerges: Merge of the program gives what the reference gives, for any two summaries that the law builds. -/
import Derived.Test.YtnckgbmifigadaaZRkR
import Derived.Test.YtnckgbmifigadaaZRkQ
set_option linter.unusedSimpArgs false
set_option linter.unusedVariables false
namespace Go.Proofs.Ytnckgbmifigadaa
open Go.RowKit Go.Avm Go.ChangeShapes Go.WideShapes Go.ChangeAt
theorem mrgR_sp {r r' : Rk} {a : Int} {c : List Int} (h : SpR r) (h' : SpR r') : SpR (mrgR r r' c a).1 := by
  rcases mrgR_cases r r' c a with ⟨_, e⟩ | ⟨_, _, e⟩ | ⟨_, _, _, e⟩ | ⟨_, _, _, _, e⟩ | ⟨_, _, _, _, _, e⟩ | ⟨h1, h2, h3, h4, h5, _⟩
  · rw [e]; exact zeroR_sp
  · rw [e]; exact zeroR_sp
  · rw [e]; exact zeroR_sp
  · rw [e]; exact zeroR_sp
  · rw [e]; exact ⟨h.len, h.lev⟩
  · obtain ⟨_, v, _, _, _, hm, _⟩ := mrgR_ok (P := fun x => x.size ≤ 1000000000) (c := c) h1 h2 h3 h4 (by omega) (fun l hl => (h.lev l hl).2) (fun l hl => (h'.lev l hl).2)
    have ok := validR_ok v
    have h32 := ok.s2
    exact ⟨by have := ok.len; omega, fun l hl => ⟨by have := (ok.lev l hl).1; omega, hm l hl⟩⟩
set_option maxRecDepth 100000 in set_option maxHeartbeats 6400000 in
theorem ranksMerges_calls {size : Int} {l m : List Int} {c : List Int} {n p : Int} (hc : ∀ z ∈ c, 0 ≤ z ∧ z ≤ 255) : ACalls Try.prog 10 [.sc (.int .i64 size), .sl 1 (l.map rowJr), .sl 1 (m.map rowJr), .sl 1 (c.map rowU), .sc (.int .i64 n), .sc (.int .i64 p)] (.sc (.bool true)) [] := by
  have hsh := short2_calls (c := c)
  by_cases h100 : c.length ≤ 100
  · rw [decide_eq_true h100] at hsh
    refine of_tri [] [13,14,15,18,22,24,28,30,39,42,54,63,78,81] Try.func10 rfl call10 rfl (by decide) (by decide) rfl rfl Try.ntmps10 (by simp (disch := omega) only [seval,go_sem,cnd,intV,shV,convV,strV,List.replicate,List.zip_nil_left,List.zip_cons_cons];rfl) (by simp (disch := omega) only [seval,go_sem,cnd,intV,shV,convV,strV,List.zip_nil_left,List.zip_cons_cons];rfl) ?_
    ((repeat' (first|(with_reducible refine isCv ?_;intro hc;(try simp only [bls,reduceCtorEq] at hc);(try (exfalso;omega)))|((with_reducible refine isTriD ?_);first|((with_reducible refine isCallD ?_);first|((with_reducible (first|(with_unfolding_all refine TriD.callX (dst := _) true [] [] (by simp only [seval,go_sem,dR,beq_self_eq_true]) rfl (mader_x hc) ⟨by simp only [seval,go_sem,dR,beq_self_eq_true];first|rfl,rfl⟩ (by decide) (fun _ => rfl) rfl rfl (fun _ => by first|rfl) (fun _ => by first|rfl) (fun t ht => ?_);(try dsimp only at ht))|(with_unfolding_all refine TriD.callX (dst := _) true [] [] (by simp only [seval,go_sem,dR,beq_self_eq_true]) rfl (spoilr_x ‹SmR _›) ⟨by simp only [seval,go_sem,dR,beq_self_eq_true];first|rfl,rfl⟩ (by decide) (fun _ => rfl) rfl rfl (fun _ => by first|rfl) (fun _ => by first|rfl) (fun t ht => ?_);(try dsimp only at ht))));refine LVs (st := [73,78,81]) ?_)|((with_reducible refine LVcall (st := [73,78,81]) ?_);simp only [seval,go_sem,dR,beq_self_eq_true];first|(refine CallL.c (hsh) ?_)|(refine CallL.c (knownr_calls) ?_)|(refine CallL.c (mrgr_calls ?_ ?_ ?_ ?_ ?_) ?_)|(refine CallL.c (rmrgr_calls ?_ ?_ ?_ ?_ ?_) ?_)|(refine CallL.c (same_calls ?_ ?_) ?_)))|((with_reducible first|refine TriD.step (by simp (disch := omega) only [seval,go_sem,cnd,intV,shV,convV,strV,dR,beq_self_eq_true];rfl) ?_);refine LVs (st := [73,78,81]) ?_))|(with_reducible refine isRet ?_;refine RetV (rs := [.tmp 12]) (by with_unfolding_all rfl) rfl ?_ <;> simp only [seval,go_sem] <;> (repeat' (with_reducible apply And.intro)) <;> (try rfl))|(with_reducible (first|refine TVq (st := [73,78,81]) ?_))|simp only [seval,go_sem,dR,beq_self_eq_true]|(with_reducible refine oV_st (by simp (disch := omega) only [seval,go_sem,cnd,intV,shV,convV,strV,dR,beq_self_eq_true];rfl) ?_)|(with_reducible refine cV_split (cvI ?_) (cvI ?_)))) <;> (try (first|(with_reducible assumption))))
    all_goals first
      | exact (‹SpR _›).len
      | exact (‹SpR _›).lev
      | assumption
      | omega
      | exact (mrgR_sp ‹SpR _› ‹SpR _›).len
      | exact (mrgR_sp ‹SpR _› ‹SpR _›).lev
      | (simp; done)
      | skip
    all_goals done
  · rw [decide_eq_false h100] at hsh
    refine of_tri [] [13,14,15,18,22,24,28,30,39,42,54,63,78,81] Try.func10 rfl call10 rfl (by decide) (by decide) rfl rfl Try.ntmps10 (by simp (disch := omega) only [seval,go_sem,cnd,intV,shV,convV,strV,List.replicate,List.zip_nil_left,List.zip_cons_cons];rfl) (by simp (disch := omega) only [seval,go_sem,cnd,intV,shV,convV,strV,List.zip_nil_left,List.zip_cons_cons];rfl) ?_
    ((repeat' (first|((with_reducible refine isTriD ?_);first|((with_reducible refine isCallD ?_);first|((with_reducible refine LVcall (st := [73,78,81]) ?_);simp only [seval,go_sem];first|(refine CallL.c (hsh) ?_)|(refine CallL.c (knownr_calls) ?_))))|(with_reducible refine isRet ?_;refine RetV (rs := [.tmp 12]) (by with_unfolding_all rfl) rfl ?_ <;> simp only [seval,go_sem] <;> (repeat' (with_reducible apply And.intro)) <;> (try rfl))|(with_reducible (first|refine TVq (st := [73,78,81]) ?_))|simp only [seval,go_sem])) <;> (try (fail)))
    all_goals done
theorem ranksMerges_own : ownKnob Try.prog.godebug = none := by kernel_rfl
theorem ranksMerges_laid : laidOutB Try.prog = true := by kernel_rfl
set_option maxRecDepth 100000 in
theorem ranksMerges_lifted (os : Os) (started : os.Started) (H : Type) (enc : TypeId × Value → H) :
    ReturnsInHanded {} Try.checked os 10 .any (Rows.ranksMergesSpec.pre6 enc Try.prog Try.f10 Rows.ranksMergesRow.domain false) (Rows.ranksMergesSpec.post enc Try.prog Try.f10 false true false false) := by
  refine returnsInHanded_of_change (C := Try.checked) ranksMerges_own started (by kernel_rfl) Try.func10
    (ChangeSpec.witness6 (enc := enc) (C := Try.checked) false ⟨#[], #[.int .i64 0, .slice none 0 0, .slice none 0 0, .slice none 0 0, .int .i64 0, .int .i64 0], []⟩ 8 (by kernel_rfl) (by kernel_rfl) (by kernel_rfl) (by kernel_rfl)) ?_
  intro W base args ds gs before hval0 hW hcnd _
  have hval : ∀ (j : Nat) t v, Try.f10.params[j]? = some t → args[j]? = some v → Value.okWide Try.prog W .any base t v := hval0
  have hW' := hW
  obtain ⟨p, q, hA0, hV, rfl, hfz, hnd⟩ := hW
  have hA : DataW.TrodAll enc Try.prog W 0 (fun _ => true) true Try.f10.params.toList args.toList ds p := hA0
  rw [Try.params10] at hA hval
  obtain ⟨v0, vs0, d0, ds0, p0, q0, hargs, rfl, rfl, h0, r0⟩ := trodAll_cons hA
  obtain ⟨v1, vs1, d1, ds1, p1, q1, rfl, rfl, rfl, h1, r1⟩ := trodAll_cons r0
  obtain ⟨v2, vs2, d2, ds2, p2, q2, rfl, rfl, rfl, h2, r2⟩ := trodAll_cons r1
  obtain ⟨v3, vs3, d3, ds3, p3, q3, rfl, rfl, rfl, h3, r3⟩ := trodAll_cons r2
  obtain ⟨v4, vs4, d4, ds4, p4, q4, rfl, rfl, rfl, h4, r4⟩ := trodAll_cons r3
  obtain ⟨v5, vs5, d5, ds5, p5, q5, rfl, rfl, rfl, h5, r5⟩ := trodAll_cons r4
  obtain ⟨rfl, rfl, rfl⟩ := trodAll_nil r5
  obtain rfl : args = #[v0, v1, v2, v3, v4, v5] := by cases args; simp_all
  obtain ⟨a0, x0, w0⟩ := arg_int Try.underlying3 (hval 0 3 v0 rfl rfl) h0
  obtain ⟨a1, x1, w1, l1⟩ := arg_ints Try.underlying22 Try.underlying3 (by kernel_rfl) (hval 1 22 v1 rfl rfl) h1
  obtain ⟨a2, x2, w2, l2⟩ := arg_ints Try.underlying22 Try.underlying3 (by kernel_rfl) (hval 2 22 v2 rfl rfl) h2
  obtain ⟨a3, x3, w3, l3⟩ := arg_ints Try.underlying46 Try.underlying5 (by kernel_rfl) (hval 3 46 v3 rfl rfl) h3
  obtain ⟨a4, x4, w4⟩ := arg_int Try.underlying3 (hval 4 3 v4 rfl rfl) h4
  obtain ⟨a5, x5, w5⟩ := arg_int Try.underlying3 (hval 5 3 v5 rfl rfl) h5
  exact law_step (xs := [.sc (.int .i64 a0),.sl 1 (a1.map fun z => [.sc (.int .i64 z)]),.sl 1 (a2.map fun z => [.sc (.int .i64 z)]),.sl 1 (a3.map fun z => [.sc (.int .u8 z)]),.sc (.int .i64 a4),.sc (.int .i64 a5)]) hW' rfl ranksMerges_laid (by kernel_rfl) (fun gs' h => by subst h;rfl) rfl Try.underlying4 (by simp only [RL];exact ⟨_,_,rfl,x0,⟨_,_,rfl,x1,⟨_,_,rfl,x2,⟨_,_,rfl,x3,⟨_,_,rfl,x4,⟨_,_,rfl,x5,rfl⟩⟩⟩⟩⟩⟩) (ranksMerges_calls (c := a3) (fun z hz => u8_wfR (w3 z hz)))
theorem ranksMerges_over : Rows.ranksMergesRow.holds Try.pinned (OpenSpec.ofChange Rows.ranksMergesSpec) :=
  OpenClaim.holds_of_wide 10 Try.f10 rfl rfl rfl rfl rfl rfl rfl ⟨rfl, rfl, rfl, rfl, rfl⟩ rfl rfl rfl rfl rfl (by kernel_rfl) Try.func10 (by kernel_rfl)
    (of_decide_eq_true (by kernel_rfl)) (by unfold Func.isWrapper; first | (rw [if_pos (by decide +kernel)]; kernel_rfl) | (rw [if_neg (by decide +kernel)]; exact ⟨rfl, rfl⟩))
    (fun os started H enc _ => ranksMerges_lifted os started H enc)
theorem ranksMerges_holds : Rows.RanksMergesSaid := ranksMerges_over

end Go.Proofs.Ytnckgbmifigadaa
