/- RanksExact: without compaction ranks are exact, whatever the coins. -/
import Derived.Test.YtnckgbmifigadaaZRkXa
import Derived.Test.YtnckgbmifigadaaZRkY
set_option linter.unusedSimpArgs false
set_option linter.unusedVariables false
namespace Go.Proofs.Ytnckgbmifigadaa
open Go.RowKit Go.Avm Go.ChangeShapes Go.WideShapes Go.ChangeAt
set_option maxRecDepth 100000 in set_option maxHeartbeats 12800000 in
theorem ranksExact_calls {l : List Int} {c : List Int} {n : Int} (hc : ∀ z ∈ c, 0 ≤ z ∧ z ≤ 255) : ACalls Try.prog 6 [.sl 1 (l.map rowJr), .sl 1 (c.map rowU), .sc (.int .i64 n)] (.sc (.bool true)) [] := by
  have hsh := short2_calls (c := c)
  by_cases h100 : c.length ≤ 100
  · rw [decide_eq_true h100] at hsh
    have hnw := newrv_calls (n := 32) (by decide)
    have hin := fun (r : Rk) (k : ByteArray) (w a : Int) (hv : validR r = 0) (hk : 1 ≤ k.size ∧ k.size ≤ 32) (he : (insR r k w c a).2.2 = 0) => insrv_calls (r := r) (k := k) (w := w) (a := a) hv hk hc he
    have hrk := fun (r : Rk) (k : ByteArray) (hv : validR r = 0) (hk : 1 ≤ k.size ∧ k.size ≤ 32) => rankv_calls (r := r) (k := k) hv hk
    simp only [dR, List.map_nil] at hnw hin hrk
    refine of_tri [] [7,13,17,19,21,26,46,52,67,91] Try.func6 rfl call6 rfl (by decide) (by decide) rfl rfl Try.ntmps6 (by simp (disch := omega) only [seval,go_sem,cnd,intV,shV,convV,strV,List.replicate,List.zip_nil_left,List.zip_cons_cons];rfl) (by simp (disch := omega) only [seval,go_sem,cnd,intV,shV,convV,strV,List.zip_nil_left,List.zip_cons_cons];rfl) ?_
    ((repeat' (first|((with_reducible refine isTriD ?_);first|((with_reducible refine isCallD ?_);first|((with_reducible (first|(with_unfolding_all refine TriD.callX (dst := _) true [] [] (by simp only [seval,go_sem]) rfl (key_x) ⟨by simp only [seval,go_sem];first|rfl,rfl⟩ (by decide) (fun _ => rfl) rfl rfl (fun _ => by first|rfl) (fun _ => by first|rfl) (fun t ht => ?_);(try dsimp only at ht))));refine LVs (st := [74,78,83,88,91]) ?_)|((with_reducible refine LVcall (st := [74,78,83,88,91]) ?_);simp only [seval,go_sem];first|(refine CallL.c (hsh) ?_)|(refine CallL.c (hnw) ?_))))|(with_reducible (first|refine TVq (st := [74,78,83,88,91]) ?_))|simp only [seval,go_sem]|(with_reducible refine oV_st (by simp (disch := omega) only [seval,go_sem,cnd,intV,shV,convV,strV];rfl) ?_))) <;> (try (fail)))
    revert t
    intro key hkey
    (with_reducible refine Tri.loopU (fun (t : Nat × Rk × Int) => [(12,.sc (.int .i64 t.1)),(11,.sc (.int .i64 0)),(10,.sc (.int .i64 t.2.2)),(8,.sc (.int .i64 0)),(13,.any),(27,.any),(28,.any),(29,.any),(30,.any),(31,.any),(32,.any),(33,.any),(34,.any),(35,.any),(36,.any),(37,.any),(38,.any),(39,.any),(40,.any),(41,.any),(42,.any),(43,.any),(44,.any),(45,.any),(46,.any),(47,.any),(48,.any),(49,.any),(50,.any),(51,.any),(52,.any),(53,.any),(54,.any),(55,.any),(56,.any),(57,.any),(58,.any),(59,.any),(60,.any),(61,.any),(62,.any),(63,.any)]) (fun (t : Nat × Rk × Int) => [(7,.box [.sc (.int .i64 t.2.1.size),.sc (.int .i64 t.2.1.total),.sc (.int .i64 t.2.1.slack),.sl 1 (t.2.1.levels.map lvD),.sc (.bool t.2.1.sat)]),(13,.dead),(46,.dead),(52,.dead)]) (fun (t : Nat × Rk × Int) => (t.1 ≤ l.length ∧ t.1 ≤ 20) ∧ ExR t.1 key t.2.2 t.2.1) (fun (t : Nat × Rk × Int) => 30 - t.1) ((0,⟨32,0,0,[],false⟩,0)) (⟨⟨Nat.zero_le _,Nat.zero_le _⟩,ExR.new key⟩) (by intro _;simp (disch := omega) only [seval,go_sem,cnd,intV,shV,convV,strV];rfl) (by intro _;simp (disch := omega) only [seval,go_sem,cnd,intV,shV,convV,strV];rfl) (by (first|refine leQL_spec ?_);(try simp only [seval,go_sem]);first|done) (by (first|refine leQH_spec ?_);(try simp only [seval,go_sem]);first|done) (fun t hI => ?_))
    obtain ⟨i, f, be⟩ := t
    obtain ⟨⟨hi, hi2⟩, hB⟩ := hI
    simp only at hi hi2 hB
    have hbv := hB.v
    have hbk := hB.rk
    have hbs := hB.sl
    have hrr := rankL_rng key 0 f.levels
    have hbo := validR_ok hbv
    rw [hbo.wt] at hrr
    have hbt := hbo.t2
    by_cases hc1 : i < l.length ∧ i < 20
    · obtain ⟨hlt, hi3⟩ := hc1
      obtain ⟨x, hx⟩ := get_lt hlt
      have hx' := get_map rowJr hx
      have hii := hin f
      ((repeat' (first|(with_reducible refine isCv ?_;intro hc;(try simp only [bls,reduceCtorEq] at hc);(try (exfalso;omega)))|((with_reducible refine isTriD ?_);first|((with_reducible refine isCallD ?_);first|((with_reducible (first|(with_unfolding_all refine TriD.callX (dst := _) true [] [] (by simp only [seval,go_sem,hx',rowJr,le_not,Bool.not_true,Bool.not_false]) rfl (item_x) ⟨by simp only [seval,go_sem,hx',rowJr,le_not,Bool.not_true,Bool.not_false];first|rfl,rfl⟩ (by decide) (fun _ => rfl) rfl rfl (fun _ => by first|rfl) (fun _ => by first|rfl) (fun t ht => ?_);(try dsimp only at ht))));refine LVs (st := [74,78,83,88,91]) ?_)|((with_reducible refine LVcall (st := [74,78,83,88,91]) ?_);simp only [seval,go_sem,hx',rowJr,le_not,Bool.not_true,Bool.not_false];first|(refine CallL.c (hii _ _ _ hbv ?_ ?_) ?_))))|(with_reducible (first|refine TVq (st := [74,78,83,88,91]) ?_))|simp only [seval,go_sem,hx',rowJr,le_not,Bool.not_true,Bool.not_false]|(with_reducible refine oV_st (by simp (disch := omega) only [seval,go_sem,cnd,intV,shV,convV,strV,hx',rowJr,le_not,Bool.not_true,Bool.not_false];rfl) ?_)|(with_reducible refine cV_split (cvI ?_) (cvI ?_)))) <;> (try (fail)))
      all_goals (try (first | exact ht.1 | exact (hB.insert (by omega) (itemE_ofR ht)).1))
      all_goals (obtain ⟨g1, g2, g3⟩ := hB.insert (c := c) (by omega) (itemE_ofR ht))
      all_goals (first
        | (rw [if_pos ‹Op.bytesLess key.toList t.1.toList = true›] at g3;(refine isNextM ((i + 1,(insR f t.1 t.2 c 0).1,be)) (by (first|refine leQL_spec ?_);(try simp only [seval,go_sem,g2]);first|((repeat' (with_reducible apply And.intro)) <;> first|rfl);first|done) (by (first|refine leQH_spec ?_);(try simp only [seval,go_sem,g2]);first|done) ?_ ?_ <;> (try (first|omega)));exact ⟨⟨by simp only;omega,by simp only;omega⟩,by simpa using g3⟩)
        | (rw [if_neg (by simp [‹Op.bytesLess key.toList t.1.toList = false›])] at g3;(refine isNextM ((i + 1,(insR f t.1 t.2 c 0).1,be + t.2)) (by (first|refine leQL_spec ?_);(try simp only [seval,go_sem,g2]);first|((repeat' (with_reducible apply And.intro)) <;> first|rfl);first|done) (by (first|refine leQH_spec ?_);(try simp only [seval,go_sem,g2]);first|done) ?_ ?_ <;> (try (first|omega)));exact ⟨⟨by simp only;omega,by simp only;omega⟩,g3⟩))
    · have hrv := hrk f key hbv hkey
      simp only [hbk, hbs] at hrv
      ((repeat' (first|(with_reducible refine isCv ?_;intro hc;(try simp only [bls,reduceCtorEq] at hc);(try (exfalso;omega)))|((with_reducible refine isTriD ?_);first|((with_reducible refine isCallD ?_);first|((with_reducible refine LVcall (st := [74,78,83,88,91]) ?_);simp only [seval,go_sem,hbs];first|(refine CallL.c (hrv) ?_)|(refine CallL.c (knownr_calls) ?_)))|((with_reducible first|refine TriD.step (by simp (disch := omega) only [seval,go_sem,cnd,intV,shV,convV,strV,hbs];rfl) ?_);refine LVs (st := [74,78,83,88,91]) ?_))|(with_reducible refine isRet ?_;refine RetV (rs := [.tmp 6]) (by with_unfolding_all rfl) rfl ?_ <;> simp only [seval,go_sem] <;> (repeat' (with_reducible apply And.intro)) <;> (try rfl))|(with_reducible (first|refine TVq (st := [74,78,83,88,91]) ?_))|simp only [seval,go_sem,hbs]|(with_reducible refine oV_st (by simp (disch := omega) only [seval,go_sem,cnd,intV,shV,convV,strV,hbs];rfl) ?_)|(with_reducible refine gV_split (by simp only [seval,go_sem,hbs];rfl) (by simp only [seval,go_sem,hbs];rfl) (by simp only [seval,go_sem,hbs];first|done) (cvI ?_) (cvI ?_) (by simp only [seval,go_sem,hbs])))) <;> (try (fail)))
      all_goals (first | omega | (simp; omega) | skip)
      all_goals done
  · rw [decide_eq_false h100] at hsh
    refine of_tri [] [7,13,17,19,21,26,46,52,67,91] Try.func6 rfl call6 rfl (by decide) (by decide) rfl rfl Try.ntmps6 (by simp (disch := omega) only [seval,go_sem,cnd,intV,shV,convV,strV,List.replicate,List.zip_nil_left,List.zip_cons_cons];rfl) (by simp (disch := omega) only [seval,go_sem,cnd,intV,shV,convV,strV,List.zip_nil_left,List.zip_cons_cons];rfl) ?_
    ((repeat' (first|((with_reducible refine isTriD ?_);first|((with_reducible refine isCallD ?_);first|((with_reducible refine LVcall (st := [74,78,83,88,91]) ?_);simp only [seval,go_sem];first|(refine CallL.c (hsh) ?_)|(refine CallL.c (knownr_calls) ?_))))|(with_reducible refine isRet ?_;refine RetV (rs := [.tmp 6]) (by with_unfolding_all rfl) rfl ?_ <;> simp only [seval,go_sem] <;> (repeat' (with_reducible apply And.intro)) <;> (try rfl))|(with_reducible (first|refine TVq (st := [74,78,83,88,91]) ?_))|simp only [seval,go_sem])) <;> (try (fail)))
    all_goals done
theorem ranksExact_own : ownKnob Try.prog.godebug = none := by kernel_rfl
theorem ranksExact_laid : laidOutB Try.prog = true := by kernel_rfl
set_option maxRecDepth 100000 in
theorem ranksExact_lifted (os : Os) (started : os.Started) (H : Type) (enc : TypeId × Value → H) :
    ReturnsInHanded {} Try.checked os 6 .any (Rows.ranksExactSpec.pre6 enc Try.prog Try.f6 Rows.ranksExactRow.domain false) (Rows.ranksExactSpec.post enc Try.prog Try.f6 false true false false) := by
  refine returnsInHanded_of_change (C := Try.checked) ranksExact_own started (by kernel_rfl) Try.func6
    (ChangeSpec.witness6 (enc := enc) (C := Try.checked) false ⟨#[], #[.slice none 0 0, .slice none 0 0, .int .i64 0], []⟩ 8 (by kernel_rfl) (by kernel_rfl) (by kernel_rfl) (by kernel_rfl)) ?_
  intro W base args ds gs before hval0 hW hcnd _
  have hval : ∀ (j : Nat) t v, Try.f6.params[j]? = some t → args[j]? = some v → Value.okWide Try.prog W .any base t v := hval0
  have hW' := hW
  obtain ⟨p, q, hA0, hV, rfl, hfz, hnd⟩ := hW
  have hA : DataW.TrodAll enc Try.prog W 0 (fun _ => true) true Try.f6.params.toList args.toList ds p := hA0
  rw [Try.params6] at hA hval
  obtain ⟨v0, vs0, d0, ds0, p0, q0, hargs, rfl, rfl, h0, r0⟩ := trodAll_cons hA
  obtain ⟨v1, vs1, d1, ds1, p1, q1, rfl, rfl, rfl, h1, r1⟩ := trodAll_cons r0
  obtain ⟨v2, vs2, d2, ds2, p2, q2, rfl, rfl, rfl, h2, r2⟩ := trodAll_cons r1
  obtain ⟨rfl, rfl, rfl⟩ := trodAll_nil r2
  obtain rfl : args = #[v0, v1, v2] := by cases args; simp_all
  obtain ⟨a0, x0, w0, l0⟩ := arg_ints Try.underlying22 Try.underlying3 (by kernel_rfl) (hval 0 22 v0 rfl rfl) h0
  obtain ⟨a1, x1, w1, l1⟩ := arg_ints Try.underlying46 Try.underlying5 (by kernel_rfl) (hval 1 46 v1 rfl rfl) h1
  obtain ⟨a2, x2, w2⟩ := arg_int Try.underlying3 (hval 2 3 v2 rfl rfl) h2
  exact law_step (xs := [.sl 1 (a0.map fun z => [.sc (.int .i64 z)]),.sl 1 (a1.map fun z => [.sc (.int .u8 z)]),.sc (.int .i64 a2)]) hW' rfl ranksExact_laid (by kernel_rfl) (fun gs' h => by subst h;rfl) rfl Try.underlying4 (by simp only [RL];exact ⟨_,_,rfl,x0,⟨_,_,rfl,x1,⟨_,_,rfl,x2,rfl⟩⟩⟩) (ranksExact_calls (c := a1) (fun z hz => u8_wfR (w1 z hz)))
theorem ranksExact_over : Rows.ranksExactRow.holds Try.pinned (OpenSpec.ofChange Rows.ranksExactSpec) :=
  OpenClaim.holds_of_wide 6 Try.f6 rfl rfl rfl rfl rfl rfl rfl ⟨rfl, rfl, rfl, rfl, rfl⟩ rfl rfl rfl rfl rfl (by kernel_rfl) Try.func6 (by kernel_rfl)
    (of_decide_eq_true (by kernel_rfl)) (by unfold Func.isWrapper; first | (rw [if_pos (by decide +kernel)]; kernel_rfl) | (rw [if_neg (by decide +kernel)]; exact ⟨rfl, rfl⟩))
    (fun os started H enc _ => ranksExact_lifted os started H enc)
theorem ranksExact_holds : Rows.RanksExactSaid := ranksExact_over

end Go.Proofs.Ytnckgbmifigadaa
