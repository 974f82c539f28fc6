/- RanksCodes: a summary is written as the same bytes by the program and by the reference, and read back; any bytes are read as the same. -/
import Derived.Test.YtnckgbmifigadaaZRkZc
import Derived.Test.YtnckgbmifigadaaZRkQ
set_option linter.unusedSimpArgs false
set_option linter.unusedVariables false
namespace Go.Proofs.Ytnckgbmifigadaa
open Go.RowKit Go.Avm Go.ChangeShapes Go.WideShapes Go.ChangeAt
theorem encr_val {f : Rk} (hz : validR f = 0) : ACalls Try.prog 53 [dR f] (.tup [.slo 0 1 0 (encR f).length, .sc (.int .i64 0)]) [.row 1 ((encR f).map rowB)] ∧ ACalls Try.prog 54 [dR f] (.tup [.slo 0 1 0 (encR f).length, .sc (.int .i64 0)]) [.row 1 ((encR f).map rowB)] := by
  obtain ⟨S, T, L, e, _⟩ := natR hz
  rw [e] at hz ⊢
  exact ⟨encr_ok hz, encrr_ok hz⟩
set_option maxRecDepth 100000 in set_option maxHeartbeats 6400000 in
theorem ranksCodes_calls {size : Int} {l : List Int} {c : List Int} {n : Int} {b : List Int} (hc : ∀ z ∈ c, 0 ≤ z ∧ z ≤ 255) (hb : BytesL b) : ACalls Try.prog 15 [.sc (.int .i64 size), .sl 1 (l.map rowJr), .sl 1 (c.map rowU), .sc (.int .i64 n), .sl 1 (b.map rowB)] (.sc (.bool true)) [] := by
  have hsh := short2_calls (c := c)
  by_cases h100 : c.length ≤ 100
  · rw [decide_eq_true h100] at hsh
    by_cases h3 : 300 < b.length
    · refine of_tri [] [11,16,18,20,23,30,34,36,39,44,49,54,75,82,90,93,95] Try.func15 rfl call15 rfl (by decide) (by decide) rfl rfl Try.ntmps15 (by simp (disch := omega) only [seval,go_sem,cnd,intV,shV,convV,strV,List.replicate,List.zip_nil_left,List.zip_cons_cons];rfl) (by simp (disch := omega) only [seval,go_sem,cnd,intV,shV,convV,strV,List.zip_nil_left,List.zip_cons_cons];rfl) ?_
      ((repeat' (first|((with_reducible refine isTriD ?_);first|((with_reducible refine isCallD ?_);first|((with_reducible refine LVcall (st := [90,93]) ?_);simp only [seval,go_sem];first|(refine CallL.c (hsh) ?_)|(refine CallL.c (knownr_calls) ?_))))|(with_reducible refine isRet ?_;refine RetV (rs := [.tmp 10]) (by with_unfolding_all rfl) rfl ?_ <;> simp only [seval,go_sem] <;> (repeat' (with_reducible apply And.intro)) <;> (try rfl))|(with_reducible (first|refine TVq (st := [90,93]) ?_))|simp only [seval,go_sem]|(with_reducible refine oV_st (by simp (disch := omega) only [seval,go_sem,cnd,intV,shV,convV,strV];rfl) ?_))) <;> (try (fail)))
    have cr := decrr_calls hb (by omega)
    rw [decR_eq hb] at cr
    have cp := decpr_calls hb (by omega)
    have sf := same_calls (r := (decPR b).1) (decPR_small b).1 (decPR_small b).2
    simp only [dR] at cr cp sf
    refine of_tri [] [11,16,18,20,23,30,34,36,39,44,49,54,75,82,90,93,95] Try.func15 rfl call15 rfl (by decide) (by decide) rfl rfl Try.ntmps15 (by simp (disch := omega) only [seval,go_sem,cnd,intV,shV,convV,strV,List.replicate,List.zip_nil_left,List.zip_cons_cons];rfl) (by simp (disch := omega) only [seval,go_sem,cnd,intV,shV,convV,strV,List.zip_nil_left,List.zip_cons_cons];rfl) ?_
    ((repeat' (first|((with_reducible refine isTriD ?_);first|((with_reducible refine isCallD ?_);first|((with_reducible (first|(with_unfolding_all refine TriD.callX (dst := _) true [] [] (by simp only [seval,go_sem,dR]) rfl (mader_x hc) ⟨by simp only [seval,go_sem,dR];first|rfl,rfl⟩ (by decide) (fun _ => rfl) rfl rfl (fun _ => by first|rfl) (fun _ => by first|rfl) (fun t ht => ?_);(try dsimp only at ht))|(with_unfolding_all refine TriD.callX (dst := _) true [] [] (by simp only [seval,go_sem,dR]) rfl (spoilr_x ‹SmR _›) ⟨by simp only [seval,go_sem,dR];first|rfl,rfl⟩ (by decide) (fun _ => rfl) rfl rfl (fun _ => by first|rfl) (fun _ => by first|rfl) (fun t ht => ?_);(try dsimp only at ht))));refine LVs (st := [90,93]) ?_)|((with_reducible refine LVcall (st := [90,93]) ?_);simp only [seval,go_sem,dR];first|(refine CallL.c (hsh) ?_))))|(with_reducible (first|refine TVq (st := [90,93]) ?_))|simp only [seval,go_sem,dR]|(with_reducible refine oV_st (by simp (disch := omega) only [seval,go_sem,cnd,intV,shV,convV,strV,dR];rfl) ?_))) <;> (try (fail)))
    by_cases hz : validR t = 0
    · have ce := encr_val hz
      have cd := decpr_calls (encR_bytes hz) (Nat.le_trans (encR_len hz) (by decide))
      rw [decPR_enc hz] at cd
      have hel := encR_len hz
      have st := same_calls (r := t) (‹SpR t›).len (‹SpR t›).lev
      obtain ⟨ce1, ce2⟩ := ce
      simp only [dR] at ce1 ce2 cd st
      generalize encR t = E at *
      have htk : (E.map rowB).take E.length = E.map rowB := List.take_of_length_le (by simp)
      ((repeat' (first|((with_reducible refine isTriD ?_);first|(with_reducible refine TriD.frz 39 (by simp only [seval,go_sem,mapO_rowB,beq_self_eq_true,htk];rfl) (by simp only [seval,go_sem,mapO_rowB,beq_self_eq_true,htk];rfl) ?_;refine LVs (st := [90,93]) ?_)|(with_reducible refine TriD.frz 44 (by simp only [seval,go_sem,mapO_rowB,beq_self_eq_true,htk];rfl) (by simp only [seval,go_sem,mapO_rowB,beq_self_eq_true,htk];rfl) ?_;refine LVs (st := [90,93]) ?_)|((with_reducible refine isCallD ?_);first|((with_reducible refine LVcall (st := [90,93]) ?_);simp only [seval,go_sem,mapO_rowB,beq_self_eq_true,htk];first|(refine CallL.n (ce1) ?_;simp only [seval,go_sem,mapO_rowB,beq_self_eq_true,htk];(fail_if_success (with_reducible refine isResV ?_)))|(refine CallL.n (ce2) ?_;simp only [seval,go_sem,mapO_rowB,beq_self_eq_true,htk];(fail_if_success (with_reducible refine isResV ?_)))|(refine CallL.c (cp) ?_;simp only [seval,go_sem,mapO_rowB,beq_self_eq_true,htk];(fail_if_success (with_reducible refine isResV ?_)))|(refine CallL.c (cr) ?_;simp only [seval,go_sem,mapO_rowB,beq_self_eq_true,htk];(fail_if_success (with_reducible refine isResV ?_)))|(refine CallL.c (cd) ?_;simp only [seval,go_sem,mapO_rowB,beq_self_eq_true,htk];(fail_if_success (with_reducible refine isResV ?_)))|(refine CallL.c (sf) ?_;simp only [seval,go_sem,mapO_rowB,beq_self_eq_true,htk];(fail_if_success (with_reducible refine isResV ?_)))|(refine CallL.c (st) ?_;simp only [seval,go_sem,mapO_rowB,beq_self_eq_true,htk];(fail_if_success (with_reducible refine isResV ?_)))|(refine CallL.c (knownr_calls) ?_;simp only [seval,go_sem,mapO_rowB,beq_self_eq_true,htk];(fail_if_success (with_reducible refine isResV ?_))))))|(with_reducible refine isRet ?_;refine RetV (rs := [.tmp 10]) (by with_unfolding_all rfl) rfl ?_ <;> simp only [seval,go_sem] <;> (repeat' (with_reducible apply And.intro)) <;> (try rfl))|simp only [seval,go_sem,mapO_rowB,beq_self_eq_true,htk]|(with_reducible refine oV_st (by simp (disch := omega) only [seval,go_sem,cnd,intV,shV,convV,strV,mapO_rowB,beq_self_eq_true,htk];rfl) ?_))) <;> (try (fail)))
    · have ce1 := encr_bad (r := t) (‹SpR t›).len (‹SpR t›).lev rfl hz
      have ce2 := encrr_bad (r := t) (‹SpR t›).len (‹SpR t›).lev rfl hz
      simp only [dR] at ce1 ce2
      generalize validR t = ev at *
      ((repeat' (first|((with_reducible refine isTriD ?_);first|((with_reducible refine isCallD ?_);first|((with_reducible refine LVcall (st := [90,93]) ?_);simp only [seval,go_sem,beq_self_eq_true];first|(refine CallL.c (ce1) ?_)|(refine CallL.c (ce2) ?_)|(refine CallL.c (cp) ?_)|(refine CallL.c (cr) ?_)|(refine CallL.c (sf) ?_)|(refine CallL.c (knownr_calls) ?_))))|(with_reducible refine isRet ?_;refine RetV (rs := [.tmp 10]) (by with_unfolding_all rfl) rfl ?_ <;> simp only [seval,go_sem] <;> (repeat' (with_reducible apply And.intro)) <;> (try rfl))|simp only [seval,go_sem,beq_self_eq_true]|(with_reducible refine oV_st (by simp (disch := omega) only [seval,go_sem,cnd,intV,shV,convV,strV,beq_self_eq_true];rfl) ?_))) <;> (try (fail)))
  · rw [decide_eq_false h100] at hsh
    refine of_tri [] [11,16,18,20,23,30,34,36,39,44,49,54,75,82,90,93,95] Try.func15 rfl call15 rfl (by decide) (by decide) rfl rfl Try.ntmps15 (by simp (disch := omega) only [seval,go_sem,cnd,intV,shV,convV,strV,List.replicate,List.zip_nil_left,List.zip_cons_cons];rfl) (by simp (disch := omega) only [seval,go_sem,cnd,intV,shV,convV,strV,List.zip_nil_left,List.zip_cons_cons];rfl) ?_
    ((repeat' (first|((with_reducible refine isTriD ?_);first|((with_reducible refine isCallD ?_);first|((with_reducible refine LVcall (st := [90,93]) ?_);simp only [seval,go_sem];first|(refine CallL.c (hsh) ?_)|(refine CallL.c (knownr_calls) ?_))))|(with_reducible refine isRet ?_;refine RetV (rs := [.tmp 10]) (by with_unfolding_all rfl) rfl ?_ <;> simp only [seval,go_sem] <;> (repeat' (with_reducible apply And.intro)) <;> (try rfl))|(with_reducible (first|refine TVq (st := [90,93]) ?_))|simp only [seval,go_sem])) <;> (try (fail)))
    all_goals done
theorem ranksCodes_own : ownKnob Try.prog.godebug = none := by kernel_rfl
theorem ranksCodes_laid : laidOutB Try.prog = true := by kernel_rfl
set_option maxRecDepth 100000 in
theorem ranksCodes_lifted (os : Os) (started : os.Started) (H : Type) (enc : TypeId × Value → H) :
    ReturnsInHanded {} Try.checked os 15 .any (Rows.ranksCodesSpec.pre6 enc Try.prog Try.f15 Rows.ranksCodesRow.domain false) (Rows.ranksCodesSpec.post enc Try.prog Try.f15 false true false false) := by
  refine returnsInHanded_of_change (C := Try.checked) ranksCodes_own started (by kernel_rfl) Try.func15
    (ChangeSpec.witness6 (enc := enc) (C := Try.checked) false ⟨#[], #[.int .i64 0, .slice none 0 0, .slice none 0 0, .int .i64 0, .slice none 0 0], []⟩ 8 (by kernel_rfl) (by kernel_rfl) (by kernel_rfl) (by kernel_rfl)) ?_
  intro W base args ds gs before hval0 hW hcnd _
  have hval : ∀ (j : Nat) t v, Try.f15.params[j]? = some t → args[j]? = some v → Value.okWide Try.prog W .any base t v := hval0
  have hW' := hW
  obtain ⟨p, q, hA0, hV, rfl, hfz, hnd⟩ := hW
  have hA : DataW.TrodAll enc Try.prog W 0 (fun _ => true) true Try.f15.params.toList args.toList ds p := hA0
  rw [Try.params15] at hA hval
  obtain ⟨v0, vs0, d0, ds0, p0, q0, hargs, rfl, rfl, h0, r0⟩ := trodAll_cons hA
  obtain ⟨v1, vs1, d1, ds1, p1, q1, rfl, rfl, rfl, h1, r1⟩ := trodAll_cons r0
  obtain ⟨v2, vs2, d2, ds2, p2, q2, rfl, rfl, rfl, h2, r2⟩ := trodAll_cons r1
  obtain ⟨v3, vs3, d3, ds3, p3, q3, rfl, rfl, rfl, h3, r3⟩ := trodAll_cons r2
  obtain ⟨v4, vs4, d4, ds4, p4, q4, rfl, rfl, rfl, h4, r4⟩ := trodAll_cons r3
  obtain ⟨rfl, rfl, rfl⟩ := trodAll_nil r4
  obtain rfl : args = #[v0, v1, v2, v3, v4] := by cases args; simp_all
  obtain ⟨a0, x0, w0⟩ := arg_int Try.underlying3 (hval 0 3 v0 rfl rfl) h0
  obtain ⟨a1, x1, w1, l1⟩ := arg_ints Try.underlying22 Try.underlying3 (by kernel_rfl) (hval 1 22 v1 rfl rfl) h1
  obtain ⟨a2, x2, w2, l2⟩ := arg_ints Try.underlying46 Try.underlying5 (by kernel_rfl) (hval 2 46 v2 rfl rfl) h2
  obtain ⟨a3, x3, w3⟩ := arg_int Try.underlying3 (hval 3 3 v3 rfl rfl) h3
  obtain ⟨a4, x4, w4, l4⟩ := arg_ints Try.underlying46 Try.underlying5 (by kernel_rfl) (hval 4 46 v4 rfl rfl) h4
  exact law_step (xs := [.sc (.int .i64 a0),.sl 1 (a1.map fun z => [.sc (.int .i64 z)]),.sl 1 (a2.map fun z => [.sc (.int .u8 z)]),.sc (.int .i64 a3),.sl 1 (a4.map fun z => [.sc (.int .u8 z)])]) hW' rfl ranksCodes_laid (by kernel_rfl) (fun gs' h => by subst h;rfl) rfl Try.underlying4 (by simp only [RL];exact ⟨_,_,rfl,x0,⟨_,_,rfl,x1,⟨_,_,rfl,x2,⟨_,_,rfl,x3,⟨_,_,rfl,x4,rfl⟩⟩⟩⟩⟩) (ranksCodes_calls (c := a2) (b := a4) (fun z hz => u8_wfR (w2 z hz)) (fun z hz => u8_wfR (w4 z hz)))
theorem ranksCodes_over : Rows.ranksCodesRow.holds Try.pinned (OpenSpec.ofChange Rows.ranksCodesSpec) :=
  OpenClaim.holds_of_wide 15 Try.f15 rfl rfl rfl rfl rfl rfl rfl ⟨rfl, rfl, rfl, rfl, rfl⟩ rfl rfl rfl rfl rfl (by kernel_rfl) Try.func15 (by kernel_rfl)
    (of_decide_eq_true (by kernel_rfl)) (by unfold Func.isWrapper; first | (rw [if_pos (by decide +kernel)]; kernel_rfl) | (rw [if_neg (by decide +kernel)]; exact ⟨rfl, rfl⟩))
    (fun os started H enc _ => ranksCodes_lifted os started H enc)
theorem ranksCodes_holds : Rows.RanksCodesSaid := ranksCodes_over

end Go.Proofs.Ytnckgbmifigadaa
