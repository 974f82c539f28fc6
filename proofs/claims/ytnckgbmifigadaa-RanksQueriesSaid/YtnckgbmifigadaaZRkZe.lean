/- RanksQueries: Rank and Quantile of the program give what the reference gives, for any summary that the law builds. -/
import Derived.Test.YtnckgbmifigadaaZRkW
import Derived.Test.YtnckgbmifigadaaZRkQ
set_option linter.unusedSimpArgs false
set_option linter.unusedVariables false
namespace Go.Proofs.Ytnckgbmifigadaa
open Go.RowKit Go.Avm Go.ChangeShapes Go.WideShapes Go.ChangeAt
/-- The key of a number. -/
def keyF (n : Int) : ByteArray := if n / 256 % 16 = 15 then strOfNums [IntKind.u8.wrap n, IntKind.u8.wrap (n / 2), IntKind.u8.wrap (n / 8)] else keyT (n % 256 % 12)
theorem keyF_size (n : Int) : (keyF n).size ≤ 1000000000 := by
  unfold keyF
  split
  · simp [strOfNums, ByteArray.size]
  · have := (keyT_size (n % 256 % 12)).2; omega
set_option maxRecDepth 100000 in set_option maxHeartbeats 3200000 in
theorem keyF_calls {n : Int} : ACalls Try.prog 39 [.sc (.int .i64 n)] (.sc (.string (keyF n))) [] := by
  have hq := keyT_get (n % 256 % 12) (by omega) (by omega)
  have h12 : ((12 : Nat) : Int) = 12 := rfl
  unfold keyF
  by_cases h : n / 256 % 16 = 15
  · rw [if_pos h]
    refine of_tri [] [4,17] Try.func39 rfl call39 rfl (by decide) (by decide) rfl rfl Try.ntmps39 (by simp (disch := omega) only [seval,go_sem,cnd,intV,shV,convV,strV,List.replicate,List.zip_nil_left,List.zip_cons_cons];rfl) (by simp (disch := omega) only [seval,go_sem,cnd,intV,shV,convV,strV,List.zip_nil_left,List.zip_cons_cons];rfl) ?_
    (all_goals (try have hZ := (And.intro hq h12));(repeat' (first|(with_reducible (first|refine Tri.seq ?_|refine Tri.ret ?_|refine TriD.nil ?_|refine thenQ_n ?_|refine thenQ_r ?_|refine Tri.regionD (by simp only [List.map_cons,List.map_nil];rfl) ?_))|((with_reducible refine isTriD ?_);first|(with_reducible refine TriD.step (by simp only [seval,go_sem,Go.Avm.byteOf,mapO,Option.map_some,Option.bind_some,hZ];rfl) ?_)|(with_reducible refine TriD.step (by simp (disch := omega) only [seval,go_sem,cnd,intV,shV,convV,strV,Go.Avm.byteOf,mapO,Option.map_some,Option.bind_some,hZ];rfl) ?_))|(with_reducible refine isCond ?_;with_reducible refine Tri.cond (by simp only [seval,go_sem,Go.Avm.byteOf,mapO,Option.map_some,Option.bind_some,hZ];rfl) (cvI ?_) (cvI ?_))|(with_reducible refine isCv ?_;intro hc;(try simp only [bls,reduceCtorEq] at hc);(try (exfalso;omega)))|(with_reducible refine isRet ?_;refine RetOK.q rfl rfl (by simp only [seval,go_sem];rfl) (by decide) (by simp only [seval,go_sem];first|rfl) (by simp only [seval,go_sem];first|rfl) rfl ?_ <;> (try simp only [seval,go_sem]) <;> (repeat' (with_reducible apply And.intro)) <;> (try rfl)))) <;> (try (fail));all_goals (try clear hZ))
    all_goals (try rfl)
  · rw [if_neg h]
    refine of_tri [] [4,17] Try.func39 rfl call39 rfl (by decide) (by decide) rfl rfl Try.ntmps39 (by simp (disch := omega) only [seval,go_sem,cnd,intV,shV,convV,strV,List.replicate,List.zip_nil_left,List.zip_cons_cons];rfl) (by simp (disch := omega) only [seval,go_sem,cnd,intV,shV,convV,strV,List.zip_nil_left,List.zip_cons_cons];rfl) ?_
    (all_goals (try have hZ := (And.intro hq h12));(repeat' (first|(with_reducible (first|refine Tri.seq ?_|refine Tri.skip ?_|refine Tri.ret ?_|refine TriD.nil ?_|refine thenQ_n ?_|refine Tri.regionD (by simp only [List.map_cons,List.map_nil];rfl) ?_))|((with_reducible refine isTriD ?_);first|(with_reducible refine TriD.step (by simp only [seval,go_sem,Go.Avm.byteOf,mapO,Option.map_some,Option.bind_some,hZ];rfl) ?_)|(with_reducible refine TriD.step (by simp (disch := omega) only [seval,go_sem,cnd,intV,shV,convV,strV,Go.Avm.byteOf,mapO,Option.map_some,Option.bind_some,hZ];rfl) ?_))|(with_reducible refine isCond ?_;with_reducible refine Tri.cond (by simp only [seval,go_sem,Go.Avm.byteOf,mapO,Option.map_some,Option.bind_some,hZ];rfl) (cvI ?_) (cvI ?_))|(with_reducible refine isCv ?_;intro hc;(try simp only [bls,reduceCtorEq] at hc);(try (exfalso;omega)))|(with_reducible refine isRet ?_;refine RetOK.q rfl rfl (by simp only [seval,go_sem];rfl) (by decide) (by simp only [seval,go_sem];first|rfl) (by simp only [seval,go_sem];first|rfl) rfl ?_ <;> (try simp only [seval,go_sem]) <;> (repeat' (with_reducible apply And.intro)) <;> (try rfl)))) <;> (try (fail));all_goals (try clear hZ))
    all_goals (try rfl)
set_option maxRecDepth 100000 in set_option maxHeartbeats 6400000 in
theorem ranksQueries_calls {size : Int} {l : List Int} {c : List Int} {n a b : Int} (hc : ∀ z ∈ c, 0 ≤ z ∧ z ≤ 255) : ACalls Try.prog 12 [.sc (.int .i64 size), .sl 1 (l.map rowJr), .sl 1 (c.map rowU), .sc (.int .i64 n), .sc (.int .i64 a), .sc (.int .i64 b)] (.sc (.bool true)) [] := by
  have hsh := short2_calls (c := c)
  by_cases h100 : c.length ≤ 100
  · rw [decide_eq_true h100] at hsh
    refine of_tri [] [13,27,29,33,35,40,41,48,49,56,63,73,83,115] Try.func12 rfl call12 rfl (by decide) (by decide) rfl rfl Try.ntmps12 (by simp (disch := omega) only [seval,go_sem,cnd,intV,shV,convV,strV,List.replicate,List.zip_nil_left,List.zip_cons_cons];rfl) (by simp (disch := omega) only [seval,go_sem,cnd,intV,shV,convV,strV,List.zip_nil_left,List.zip_cons_cons];rfl) ?_
    ((repeat' (first|((with_reducible refine isTriD ?_);first|((with_reducible refine isCallD ?_);first|((with_reducible refine LVcall (st := [92,97,102,107,112,115]) ?_);simp only [seval,go_sem,dR,beq_self_eq_true];first|(refine CallL.c (hsh) ?_)|(refine CallL.c (keyF_calls) ?_))|((with_reducible (first|(with_unfolding_all refine TriD.callX (dst := _) true [] [] (by simp only [seval,go_sem,dR,beq_self_eq_true]) rfl (mader_x hc) ⟨by simp only [seval,go_sem,dR,beq_self_eq_true];first|rfl,rfl⟩ (by decide) (fun _ => rfl) rfl rfl (fun _ => by first|rfl) (fun _ => by first|rfl) (fun t ht => ?_);(try dsimp only at ht))|(with_unfolding_all refine TriD.callX (dst := _) true [] [] (by simp only [seval,go_sem,dR,beq_self_eq_true]) rfl (spoilr_x ‹SmR _›) ⟨by simp only [seval,go_sem,dR,beq_self_eq_true];first|rfl,rfl⟩ (by decide) (fun _ => rfl) rfl rfl (fun _ => by first|rfl) (fun _ => by first|rfl) (fun t ht => ?_);(try dsimp only at ht))));refine LVs (st := [92,97,102,107,112,115]) ?_)|((with_reducible refine LVcall (st := [92,97,102,107,112,115]) ?_);simp only [seval,go_sem,dR,beq_self_eq_true];first|(refine CallL.c (knownr_calls) ?_)|(refine CallL.c (pRank_calls ?_ ?_ ?_) ?_)|(refine CallL.c (rRank_calls ?_ ?_ ?_) ?_)|(refine CallL.c (pquant_calls ?_ ?_) ?_)|(refine CallL.c (rquant_calls ?_ ?_) ?_)))|((with_reducible first|refine TriD.step (by simp only [seval,go_sem,dR,beq_self_eq_true];rfl) ?_|refine TriD.step (by simp (disch := omega) only [seval,go_sem,cnd,intV,shV,convV,strV,dR,beq_self_eq_true];rfl) ?_);refine LVs (st := [92,97,102,107,112,115]) ?_))|(with_reducible refine isDrawnN 4 ?_;refine Tri.mixedP 4 mix 10 rfl (.f 1 <| .f 2 <| .a <| .b 0 (.a <| .b 3 (.a <| .b 4 (.f 5 <| .f 6 <| .f 7 <| .f 8 <| .f 9 <| .d) .e) .e) <| .b 3 (.a <| .b 0 (.a <| .b 4 (.f 5 <| .f 6 <| .f 7 <| .f 8 <| .f 9 <| .d) .e) .e) .e) (by kernel_rfl) ?_)|(with_reducible refine isDrawnN 5 ?_;refine Tri.mixedP 5 mix 10 rfl (.f 1 <| .f 2 <| .a <| .b 0 (.a <| .b 3 (.a <| .b 4 (.f 5 <| .f 6 <| .f 7 <| .f 8 <| .f 9 <| .d) .e) .e) <| .b 3 (.a <| .b 0 (.a <| .b 4 (.f 5 <| .f 6 <| .f 7 <| .f 8 <| .f 9 <| .d) .e) .e) .e) (by kernel_rfl) ?_)|(with_reducible refine isAnyP ?_;first|refine AnyP.D ?_|refine AnyP.F (by simp only [seval,go_sem,List.getElem?_cons_succ,List.getElem?_cons_zero];rfl) (by first|(simp only [seval,go_sem,dR,beq_self_eq_true];first|done)) (by first|(simp only [seval,go_sem,dR,beq_self_eq_true];with_reducible rfl)|(simp (disch := omega) only [seval,go_sem,cnd,intV,shV,convV,strV,dR,beq_self_eq_true];with_reducible rfl)) ?_|refine AnyP.A ?_)|(with_reducible first|exact NextsP.E|refine NextsP.B (by simp only [seval,go_sem,List.getElem?_cons_succ,List.getElem?_cons_zero];rfl) ?_ ?_)|(with_reducible refine isRet ?_;refine RetV (rs := [.tmp 12]) (by with_unfolding_all rfl) rfl ?_ <;> simp only [seval,go_sem] <;> (repeat' (with_reducible apply And.intro)) <;> (try rfl))|(with_reducible (first|refine TVq (st := [92,97,102,107,112,115]) ?_))|simp only [seval,go_sem,dR,beq_self_eq_true]|(with_reducible refine oV_st (by simp (disch := omega) only [seval,go_sem,cnd,intV,shV,convV,strV,dR,beq_self_eq_true];rfl) ?_))) <;> (try (fail)))
    all_goals first
      | exact (‹SpR _›).len
      | exact (‹SpR _›).lev
      | assumption
      | exact keyF_size _
      | omega
      | (simp; done)
      | skip
    all_goals done
  · rw [decide_eq_false h100] at hsh
    refine of_tri [] [13,27,29,33,35,40,41,48,49,56,63,73,83,115] Try.func12 rfl call12 rfl (by decide) (by decide) rfl rfl Try.ntmps12 (by simp (disch := omega) only [seval,go_sem,cnd,intV,shV,convV,strV,List.replicate,List.zip_nil_left,List.zip_cons_cons];rfl) (by simp (disch := omega) only [seval,go_sem,cnd,intV,shV,convV,strV,List.zip_nil_left,List.zip_cons_cons];rfl) ?_
    ((repeat' (first|((with_reducible refine isTriD ?_);first|((with_reducible refine isCallD ?_);first|((with_reducible refine LVcall (st := [92,97,102,107,112,115]) ?_);simp only [seval,go_sem];first|(refine CallL.c (hsh) ?_))|((with_reducible refine LVcall (st := [92,97,102,107,112,115]) ?_);simp only [seval,go_sem];first|(refine CallL.c (knownr_calls) ?_))))|(with_reducible refine isRet ?_;refine RetV (rs := [.tmp 12]) (by with_unfolding_all rfl) rfl ?_ <;> simp only [seval,go_sem] <;> (repeat' (with_reducible apply And.intro)) <;> (try rfl))|(with_reducible (first|refine TVq (st := [92,97,102,107,112,115]) ?_))|simp only [seval,go_sem])) <;> (try (fail)))
    all_goals done
theorem ranksQueries_own : ownKnob Try.prog.godebug = none := by kernel_rfl
theorem ranksQueries_laid : laidOutB Try.prog = true := by kernel_rfl
set_option maxRecDepth 100000 in
theorem ranksQueries_lifted (os : Os) (started : os.Started) (H : Type) (enc : TypeId × Value → H) :
    ReturnsInHanded {} Try.checked os 12 .any (Rows.ranksQueriesSpec.pre6 enc Try.prog Try.f12 Rows.ranksQueriesRow.domain false) (Rows.ranksQueriesSpec.post enc Try.prog Try.f12 false true false false) := by
  refine returnsInHanded_of_change (C := Try.checked) ranksQueries_own started (by kernel_rfl) Try.func12
    (ChangeSpec.witness6 (enc := enc) (C := Try.checked) false ⟨#[], #[.int .i64 0, .slice none 0 0, .slice none 0 0, .int .i64 0, .int .i64 0, .int .i64 0], []⟩ 8 (by kernel_rfl) (by kernel_rfl) (by kernel_rfl) (by kernel_rfl)) ?_
  intro W base args ds gs before hval0 hW hcnd _
  have hval : ∀ (j : Nat) t v, Try.f12.params[j]? = some t → args[j]? = some v → Value.okWide Try.prog W .any base t v := hval0
  have hW' := hW
  obtain ⟨p, q, hA0, hV, rfl, hfz, hnd⟩ := hW
  have hA : DataW.TrodAll enc Try.prog W 0 (fun _ => true) true Try.f12.params.toList args.toList ds p := hA0
  rw [Try.params12] at hA hval
  obtain ⟨v0, vs0, d0, ds0, p0, q0, hargs, rfl, rfl, h0, r0⟩ := trodAll_cons hA
  obtain ⟨v1, vs1, d1, ds1, p1, q1, rfl, rfl, rfl, h1, r1⟩ := trodAll_cons r0
  obtain ⟨v2, vs2, d2, ds2, p2, q2, rfl, rfl, rfl, h2, r2⟩ := trodAll_cons r1
  obtain ⟨v3, vs3, d3, ds3, p3, q3, rfl, rfl, rfl, h3, r3⟩ := trodAll_cons r2
  obtain ⟨v4, vs4, d4, ds4, p4, q4, rfl, rfl, rfl, h4, r4⟩ := trodAll_cons r3
  obtain ⟨v5, vs5, d5, ds5, p5, q5, rfl, rfl, rfl, h5, r5⟩ := trodAll_cons r4
  obtain ⟨rfl, rfl, rfl⟩ := trodAll_nil r5
  obtain rfl : args = #[v0, v1, v2, v3, v4, v5] := by cases args; simp_all
  obtain ⟨a0, x0, w0⟩ := arg_int Try.underlying3 (hval 0 3 v0 rfl rfl) h0
  obtain ⟨a1, x1, w1, l1⟩ := arg_ints Try.underlying22 Try.underlying3 (by kernel_rfl) (hval 1 22 v1 rfl rfl) h1
  obtain ⟨a2, x2, w2, l2⟩ := arg_ints Try.underlying46 Try.underlying5 (by kernel_rfl) (hval 2 46 v2 rfl rfl) h2
  obtain ⟨a3, x3, w3⟩ := arg_int Try.underlying3 (hval 3 3 v3 rfl rfl) h3
  obtain ⟨a4, x4, w4⟩ := arg_int Try.underlying3 (hval 4 3 v4 rfl rfl) h4
  obtain ⟨a5, x5, w5⟩ := arg_int Try.underlying3 (hval 5 3 v5 rfl rfl) h5
  exact law_step (xs := [.sc (.int .i64 a0),.sl 1 (a1.map fun z => [.sc (.int .i64 z)]),.sl 1 (a2.map fun z => [.sc (.int .u8 z)]),.sc (.int .i64 a3),.sc (.int .i64 a4),.sc (.int .i64 a5)]) hW' rfl ranksQueries_laid (by kernel_rfl) (fun gs' h => by subst h;rfl) rfl Try.underlying4 (by simp only [RL];exact ⟨_,_,rfl,x0,⟨_,_,rfl,x1,⟨_,_,rfl,x2,⟨_,_,rfl,x3,⟨_,_,rfl,x4,⟨_,_,rfl,x5,rfl⟩⟩⟩⟩⟩⟩) (ranksQueries_calls (c := a2) (fun z hz => u8_wfR (w2 z hz)))
theorem ranksQueries_over : Rows.ranksQueriesRow.holds Try.pinned (OpenSpec.ofChange Rows.ranksQueriesSpec) :=
  OpenClaim.holds_of_wide 12 Try.f12 rfl rfl rfl rfl rfl rfl rfl ⟨rfl, rfl, rfl, rfl, rfl⟩ rfl rfl rfl rfl rfl (by kernel_rfl) Try.func12 (by kernel_rfl)
    (of_decide_eq_true (by kernel_rfl)) (by unfold Func.isWrapper; first | (rw [if_pos (by decide +kernel)]; kernel_rfl) | (rw [if_neg (by decide +kernel)]; exact ⟨rfl, rfl⟩))
    (fun os started H enc _ => ranksQueries_lifted os started H enc)
theorem ranksQueries_holds : Rows.RanksQueriesSaid := ranksQueries_over

end Go.Proofs.Ytnckgbmifigadaa
