/- AuditRaw: the verdict of the program about any dump is that of the reference. -/
import Derived.Test.YtmgodadmafcliaaZAuH
import Derived.Test.YtmgodadmafcliaaZCfg
import Derived.Test.YtmgodadmafcliaaZAg
set_option linter.unusedSimpArgs false
set_option linter.unusedVariables false
namespace Go.Proofs.Ytmgodadmafcliaa
open Go.RowKit Go.Avm Go.ChangeShapes Go.WideShapes Go.ChangeAt
def lightD (d : Dm) : Bool := decide (d.objs.length ≤ 6) && decide (d.pins.length ≤ 20) && decide (d.binds.length ≤ 20) && decide (d.pages.length ≤ 20) && d.objs.all fun o => decide (o.vers.length ≤ 6)
/-- What any argument is. -/
structure DmWf (d : Dm) : Prop where
  com : d.commit ≤ 9223372036854775807
  ol : d.objs.length ≤ 9223372036854775807
  bl : d.binds.length ≤ 9223372036854775807
  pl : d.pins.length ≤ 9223372036854775807
  gl : d.pages.length ≤ 9223372036854775807
  data : ∀ q ∈ d.pages, q.data.length ≤ 9223372036854775807
  vers : ∀ o ∈ d.objs, o.vers.length ≤ 9223372036854775807 ∧ ∀ v ∈ o.vers, v.size ≤ 9223372036854775807 ∧ v.pages.length ≤ 9223372036854775807
theorem lightD_ok {d : Dm} (h : lightD d = true) (hw : DmWf d) : DmOk d := by
  simp only [lightD, Bool.and_eq_true, decide_eq_true_eq, List.all_eq_true] at h
  obtain ⟨⟨⟨⟨h1, h2⟩, h3⟩, h4⟩, h5⟩ := h
  exact ⟨hw.com, by omega, by omega, by omega, by omega, hw.data, fun o ho => ⟨by have := h5 o ho; omega, (hw.vers o ho).2⟩⟩
set_option maxRecDepth 100000 in set_option maxHeartbeats 6400000 in
theorem light_calls {com : Int} {os : List Ob} {bs : List Bd} {ps : List Pn} {pg : List Pg} (hl : os.length ≤ 9223372036854775807 ∧ bs.length ≤ 9223372036854775807 ∧ ps.length ≤ 9223372036854775807 ∧ pg.length ≤ 9223372036854775807) (hv : ∀ o ∈ os,o.vers.length ≤ 9223372036854775807) : ACalls Try.prog 17 [.agg [.sc (.int .i64 com),.sl 2 (os.map rowOb),.sl 4 (bs.map rowBd),.sl 2 (ps.map rowP),.sl 3 (pg.map rowPg)]] (.sc (.bool (lightD ⟨com,os,bs,ps,pg⟩))) [] := by
  obtain ⟨l1, l2, l3, l4⟩ := hl
  by_cases h1 : os.length ≤ 6 ∧ ps.length ≤ 20 ∧ bs.length ≤ 20 ∧ pg.length ≤ 20
  · obtain ⟨h1, h2, h3, h4⟩ := h1
    have e : lightD ⟨com, os, bs, ps, pg⟩ = os.all fun o => decide (o.vers.length ≤ 6) := by simp [lightD, h1, h2, h3, h4]
    rw [e]
    generalize hA : (os.all fun o => decide (o.vers.length ≤ 6)) = A
    refine of_tri [] [1] Try.func17 rfl call17 rfl (by decide) (by decide) rfl rfl Try.ntmps17 (by simp (disch := omega) only [seval,go_sem,cnd,intV,shV,convV,strV,List.replicate,List.zip_nil_left,List.zip_cons_cons];rfl) (by simp (disch := omega) only [seval,go_sem,cnd,intV,shV,convV,strV,List.zip_nil_left,List.zip_cons_cons];rfl) ?_
    ((repeat' (first | (with_reducible (first | refine TVq (st := []) ?_)) | simp only [seval, go_sem] | (with_reducible refine oV_st (by simp (disch := omega) only [seval, go_sem, cnd, intV, shV, convV, strV]; rfl) ?_))) <;> (try (fail)))
    all_goals (with_reducible refine Tri.loopU (fun (k : Nat) => [(3,.sc (.int .i64 k)),(2,.any),(26,.any),(27,.any),(28,.any),(29,.any),(30,.any),(31,.any),(32,.any),(33,.any),(34,.any),(35,.any),(36,.any),(37,.any),(38,.any),(39,.any),(40,.any)]) (fun (k : Nat) => []) (fun (k : Nat) => k ≤ os.length ∧ ((os.drop k).all fun o => decide (o.vers.length ≤ 6)) = A) (fun (k : Nat) => os.length - k) (0) (⟨Nat.zero_le _,by simpa only [List.drop_zero] using hA⟩) (by intro _;simp (disch := omega) only [seval,go_sem,cnd,intV,shV,convV,strV];rfl) (by intro _;simp (disch := omega) only [seval,go_sem,cnd,intV,shV,convV,strV];rfl) (by (first|refine leQL_spec ?_);(try simp only [seval,go_sem]);first|done) (by (first|refine leQH_spec ?_);(try simp only [seval,go_sem]);first|done) (fun k hI => ?_))
    all_goals obtain ⟨hk, hf⟩ := hI
    by_cases hlt : k < os.length
    · obtain ⟨o, ho⟩ := get_lt hlt
      have ho' := get_map rowOb ho
      have hvl := hv o (List.mem_of_getElem? ho)
      obtain ⟨g1, g2⟩ := all_step ho (hf.trans hA.symm)
      rw [hA] at g1 g2
      by_cases hc : o.vers.length ≤ 6
      · have g3 := g2 (by simp [hc])
        ((repeat' (first | (with_reducible (first | refine TVq (st := []) ?_)) | simp only [seval, go_sem, ho', rowOb] | (with_reducible refine oV_st (by simp (disch := omega) only [seval, go_sem, cnd, intV, shV, convV, strV, ho', rowOb]; rfl) ?_))) <;> (try (fail)))
        all_goals (try (refine isNextM (k + 1) (by (first|refine leQL_spec ?_);(try simp only [seval,go_sem]);first|((repeat' (with_reducible apply And.intro)) <;> first|rfl);first|done) (by (first|refine leQH_spec ?_);(try simp only [seval,go_sem]);first|done) ?_ ?_ <;> (try (first|omega))))
        all_goals (try exact ⟨by omega, g3⟩)
      · rw [g1 (by simp; omega)]
        ((repeat' (first|(with_reducible refine isRet ?_;refine RetV (rs := [.tmp 2]) (by with_unfolding_all rfl) rfl ?_ <;> simp only [seval,go_sem] <;> (repeat' (with_reducible apply And.intro)) <;> (try rfl))|(with_reducible (first|refine TVq (st := []) ?_))|simp only [seval,go_sem,ho',rowOb]|(with_reducible refine oV_st (by simp (disch := omega) only [seval,go_sem,cnd,intV,shV,convV,strV,ho',rowOb];rfl) ?_))) <;> (try (fail)))
    · rw [List.drop_eq_nil_of_le (by omega)] at hf
      rw [show A = true from hf.symm]
      ((repeat' (first|(with_reducible refine isRet ?_;refine RetV (rs := [.tmp 2]) (by with_unfolding_all rfl) rfl ?_ <;> simp only [seval,go_sem] <;> (repeat' (with_reducible apply And.intro)) <;> (try rfl))|(with_reducible (first|refine TVq (st := []) ?_))|simp only [seval,go_sem]|(with_reducible refine oV_st (by simp (disch := omega) only [seval,go_sem,cnd,intV,shV,convV,strV];rfl) ?_))) <;> (try (fail)))
  · have e : lightD ⟨com, os, bs, ps, pg⟩ = false := by
      cases h : lightD ⟨com, os, bs, ps, pg⟩ with
      | false => rfl
      | true =>
        simp only [lightD, Bool.and_eq_true, decide_eq_true_eq] at h
        omega
    rw [e]
    by_cases c1 : os.length ≤ 6
    · by_cases c2 : ps.length ≤ 20
      · by_cases c3 : bs.length ≤ 20
        · refine of_tri [] [1] Try.func17 rfl call17 rfl (by decide) (by decide) rfl rfl Try.ntmps17 (by simp (disch := omega) only [seval,go_sem,cnd,intV,shV,convV,strV,List.replicate,List.zip_nil_left,List.zip_cons_cons];rfl) (by simp (disch := omega) only [seval,go_sem,cnd,intV,shV,convV,strV,List.zip_nil_left,List.zip_cons_cons];rfl) ?_
          ((repeat' (first|(with_reducible refine isRet ?_;refine RetV (rs := [.tmp 2]) (by with_unfolding_all rfl) rfl ?_ <;> simp only [seval,go_sem] <;> (repeat' (with_reducible apply And.intro)) <;> (try rfl))|(with_reducible (first|refine TVq (st := []) ?_))|simp only [seval,go_sem]|(with_reducible refine oV_st (by simp (disch := omega) only [seval,go_sem,cnd,intV,shV,convV,strV];rfl) ?_))) <;> (try (fail)))
        · refine of_tri [] [1] Try.func17 rfl call17 rfl (by decide) (by decide) rfl rfl Try.ntmps17 (by simp (disch := omega) only [seval,go_sem,cnd,intV,shV,convV,strV,List.replicate,List.zip_nil_left,List.zip_cons_cons];rfl) (by simp (disch := omega) only [seval,go_sem,cnd,intV,shV,convV,strV,List.zip_nil_left,List.zip_cons_cons];rfl) ?_
          ((repeat' (first|(with_reducible refine isRet ?_;refine RetV (rs := [.tmp 2]) (by with_unfolding_all rfl) rfl ?_ <;> simp only [seval,go_sem] <;> (repeat' (with_reducible apply And.intro)) <;> (try rfl))|(with_reducible (first|refine TVq (st := []) ?_))|simp only [seval,go_sem]|(with_reducible refine oV_st (by simp (disch := omega) only [seval,go_sem,cnd,intV,shV,convV,strV];rfl) ?_))) <;> (try (fail)))
      · refine of_tri [] [1] Try.func17 rfl call17 rfl (by decide) (by decide) rfl rfl Try.ntmps17 (by simp (disch := omega) only [seval,go_sem,cnd,intV,shV,convV,strV,List.replicate,List.zip_nil_left,List.zip_cons_cons];rfl) (by simp (disch := omega) only [seval,go_sem,cnd,intV,shV,convV,strV,List.zip_nil_left,List.zip_cons_cons];rfl) ?_
        ((repeat' (first|(with_reducible refine isRet ?_;refine RetV (rs := [.tmp 2]) (by with_unfolding_all rfl) rfl ?_ <;> simp only [seval,go_sem] <;> (repeat' (with_reducible apply And.intro)) <;> (try rfl))|(with_reducible (first|refine TVq (st := []) ?_))|simp only [seval,go_sem]|(with_reducible refine oV_st (by simp (disch := omega) only [seval,go_sem,cnd,intV,shV,convV,strV];rfl) ?_))) <;> (try (fail)))
    · refine of_tri [] [1] Try.func17 rfl call17 rfl (by decide) (by decide) rfl rfl Try.ntmps17 (by simp (disch := omega) only [seval,go_sem,cnd,intV,shV,convV,strV,List.replicate,List.zip_nil_left,List.zip_cons_cons];rfl) (by simp (disch := omega) only [seval,go_sem,cnd,intV,shV,convV,strV,List.zip_nil_left,List.zip_cons_cons];rfl) ?_
      ((repeat' (first|(with_reducible refine isRet ?_;refine RetV (rs := [.tmp 2]) (by with_unfolding_all rfl) rfl ?_ <;> simp only [seval,go_sem] <;> (repeat' (with_reducible apply And.intro)) <;> (try rfl))|(with_reducible (first|refine TVq (st := []) ?_))|simp only [seval,go_sem]|(with_reducible refine oV_st (by simp (disch := omega) only [seval,go_sem,cnd,intV,shV,convV,strV];rfl) ?_))) <;> (try (fail)))
theorem weak2 {f : FuncId} {x r : D} {ds ds' : List D} (h : ACalls Try.prog f [x, .agg ds] r []) (hw : ∀ (w : World) (st : Nat → Prop) (ρ : Nat → Option (Option Nat)) (vs : List Value), RL w st ρ ds' vs → RL w st ρ ds vs) : ACalls Try.prog f [x, .agg ds'] r [] := by
  obtain ⟨h1, h2⟩ := h
  refine ⟨h1, fun w st ρ vs hst hin hargs => h2 w st ρ vs hst hin ?_⟩
  simp only [RL] at hargs ⊢
  obtain ⟨a, l, rfl, ha, b, l2, rfl, hb, rfl⟩ := hargs
  simp only [R] at hb
  obtain ⟨cs, rfl, hc⟩ := hb
  exact ⟨a, _, rfl, ha, _, _, rfl, by simp only [R]; exact ⟨cs, rfl, hw w st ρ _ hc⟩, rfl⟩
theorem nilR {w : World} {st : Nat → Prop} {ρ : Nat → Option (Option Nat)} {k : Nat} {v : Value} (h : R w st ρ (.sc (.slice none 0 0)) v) : R w st ρ (.sl k []) v := by
  simp only [R] at h ⊢
  exact ⟨none, 0, h, Nat.le_refl _, Nat.zero_le _, .inl trivial⟩
theorem dm0_weak (w : World) (st : Nat → Prop) (ρ : Nat → Option (Option Nat)) (vs : List Value) (h : RL w st ρ [.sc (.int .i64 0), .sc (.slice none 0 0), .sc (.slice none 0 0), .sc (.slice none 0 0), .sc (.slice none 0 0)] vs) : RL w st ρ (dDm ⟨0, [], [], [], []⟩) vs := by
  simp only [dDm, List.map_nil, RL] at h ⊢
  obtain ⟨a, _, rfl, ha, b, _, rfl, hb, c, _, rfl, hc, d, _, rfl, hd, e, _, rfl, he, rfl⟩ := h
  exact ⟨a, _, rfl, ha, b, _, rfl, nilR hb, c, _, rfl, nilR hc, d, _, rfl, nilR hd, e, _, rfl, nilR he, rfl⟩
theorem dm1_weak (w : World) (st : Nat → Prop) (ρ : Nat → Option (Option Nat)) (vs : List Value) (h : RL w st ρ [.sc (.int .i64 0),.sc (.slice none 0 0),.sc (.slice none 0 0),.sc (.slice none 0 0),.sl 3 [[.sc (.int .i64 1),.sc (.int .i64 1),.sc (.slice none 0 0)]]] vs) : RL w st ρ (dDm ⟨0,[],[],[],[⟨1,1,[]⟩]⟩) vs := by
  simp only [dDm, List.map_nil, List.map_cons, rowPg, RL] at h ⊢
  obtain ⟨a, _, rfl, ha, b, _, rfl, hb, c, _, rfl, hc, d, _, rfl, hd, e, _, rfl, he, rfl⟩ := h
  refine ⟨a, _, rfl, ha, b, _, rfl, nilR hb, c, _, rfl, nilR hc, d, _, rfl, nilR hd, e, _, rfl, ?_, rfl⟩
  simp only [R] at he ⊢
  obtain ⟨A, cp, e1, e2, e3, e4⟩ := he
  refine ⟨A, cp, e1, e2, e3, ?_⟩
  rcases e4 with e4 | ⟨g, off, q1, q2, q3⟩
  · cases e4
  · refine .inr ⟨g, off, q1, q2, ?_⟩
    simp only [RR, RC] at q3 ⊢
    obtain ⟨r1, ⟨x1, x2, ⟨v, x3, x4, x5⟩, _⟩, _⟩ := q3
    exact ⟨rfl, ⟨x1, x2, ⟨v, x3, x4, nilR x5⟩, trivial⟩, trivial⟩
theorem kc_1 : checkE (cfgK 0) ⟨0, [], [], [], []⟩ = 0 := by decide +kernel
theorem kc_2 : checkE (cfgK 0) ⟨0, [], [], [], [⟨1, 1, []⟩]⟩ = 20 := by decide +kernel
theorem kc_3 : checkE ⟨0, 0, 0, 0, 0, 0, 0⟩ ⟨0, [], [], [], []⟩ = 5 := by decide +kernel
theorem kc_0 : dCf (cfgK 0) = [.sc (.int .i64 2), .sc (.int .i64 2), .sc (.int .i64 60), .sc (.int .i64 8), .sc (.int .i64 8), .sc (.int .i64 100), .sc (.int .i64 1)] := by simp [cfgK, dCf]
theorem dmOk0 : DmOk ⟨0, [], [], [], []⟩ := ⟨by decide, by simp, by simp, by simp, by simp, by simp, by simp⟩
theorem dmOk1 : DmOk ⟨0, [], [], [], [⟨1, 1, []⟩]⟩ := ⟨by decide, by simp, by simp, by simp, by simp, by simp, by simp⟩
set_option maxRecDepth 100000 in set_option maxHeartbeats 6400000 in
theorem known21_calls : ACalls Try.prog 15 [] (.sc (.bool true)) [] := by
  have c0 := cfgk_calls (n := 0) (by omega) (by omega)
  have c1 := weak2 (check_calls (c := cfgK 0) dmOk0) dm0_weak
  have c2 := weak2 (check_calls (c := cfgK 0) dmOk1) dm1_weak
  have c3 := weak2 (check_calls (c := ⟨0, 0, 0, 0, 0, 0, 0⟩) dmOk0) dm0_weak
  rw [kc_0] at c0 c1 c2
  rw [kc_1] at c1
  rw [kc_2] at c2
  rw [kc_3] at c3
  simp only [dCf] at c3
  refine of_tri [] [1,2,5,10,12,18] Try.func15 rfl call15 rfl (by decide) (by decide) rfl rfl Try.ntmps15 (by simp (disch := omega) only [seval,go_sem,cnd,intV,shV,convV,strV,List.replicate,List.zip_nil_left,List.zip_cons_cons];rfl) (by simp (disch := omega) only [seval,go_sem,cnd,intV,shV,convV,strV,List.zip_nil_left,List.zip_cons_cons];rfl) ?_
  ((repeat' (first|((with_reducible refine isTriD ?_);first|(with_reducible refine TriD.frz 10 (by simp only [seval,go_sem];rfl) (by simp only [seval,go_sem];rfl) ?_;refine LVs (st := [13,19]) ?_)|((with_reducible refine isCallD ?_);first|((with_reducible refine LVcall (st := [13,19]) ?_);simp only [seval,go_sem];first|(refine CallL.c (c0) ?_;simp only [seval,go_sem];(fail_if_success (with_reducible refine isResV ?_)))|(refine CallL.c (c1) ?_;simp only [seval,go_sem];(fail_if_success (with_reducible refine isResV ?_)))|(refine CallL.c (c2) ?_;simp only [seval,go_sem];(fail_if_success (with_reducible refine isResV ?_)))|(refine CallL.c (c3) ?_;simp only [seval,go_sem];(fail_if_success (with_reducible refine isResV ?_)))))|((with_reducible first|refine TriD.step (by simp (disch := omega) only [seval,go_sem,cnd,intV,shV,convV,strV];rfl) ?_);refine LVs (st := [13,19]) ?_))|(with_reducible refine isRet ?_;refine RetV (rs := [.tmp 0]) (by with_unfolding_all rfl) rfl ?_ <;> simp only [seval,go_sem] <;> (repeat' (with_reducible apply And.intro)) <;> (try rfl))|(with_reducible (first|refine TVq (st := [13,19]) ?_))|simp only [seval,go_sem]|(with_reducible refine oV_st (by simp (disch := omega) only [seval,go_sem,cnd,intV,shV,convV,strV];rfl) ?_))) <;> (try (fail)))
set_option maxRecDepth 100000 in set_option maxHeartbeats 6400000 in
theorem auditRaw_calls {d : Dm} {n : Int} (hw : DmWf d) : ACalls Try.prog 5 [.agg (dDm d), .sc (.int .i64 n)] (.sc (.bool true)) [] := by
  have hli := light_calls (com := d.commit) (os := d.objs) (bs := d.binds) (ps := d.pins) (pg := d.pages) ⟨hw.ol, hw.bl, hw.pl, hw.gl⟩ (fun o ho => (hw.vers o ho).1)
  have hlo := lightD_ok (d := d) (hw := hw)
  have hcf := cfgk_calls (n := n % 65536) (by omega) (by omega)
  generalize cfgK (n % 65536) = c at hcf
  have hc1 := fun (h : lightD d = true) => check_calls (c := c) (hlo h)
  have hc2 := fun (h : lightD d = true) => rcheck_calls (c := c) (hlo h)
  generalize checkE c d = E at hc1 hc2
  obtain ⟨com, os, bs, ps, pg⟩ := d
  obtain ⟨a1, a2, a3, a4, a5, a6, a7⟩ := c
  simp only [dCf, dDm] at hli hcf hc1 hc2 ⊢
  cases hL : lightD ⟨com, os, bs, ps, pg⟩ with
  | false =>
    rw [hL] at hli
    refine of_tri [] [2,5,7,9,12,15,18,21] Try.func5 rfl call5 rfl (by decide) (by decide) rfl rfl Try.ntmps5 (by simp (disch := omega) only [seval,go_sem,cnd,intV,shV,convV,strV,List.replicate,List.zip_nil_left,List.zip_cons_cons];rfl) (by simp (disch := omega) only [seval,go_sem,cnd,intV,shV,convV,strV,List.zip_nil_left,List.zip_cons_cons];rfl) ?_
    ((repeat' (first|((with_reducible refine isTriD ?_);first|((with_reducible refine isCallD ?_);first|((with_reducible refine LVcall (st := [21]) ?_);simp only [seval,go_sem];first|(refine CallL.c (hli) ?_)|(refine CallL.c (known21_calls) ?_))))|(with_reducible refine isRet ?_;refine RetV (rs := [.tmp 4]) (by with_unfolding_all rfl) rfl ?_ <;> simp only [seval,go_sem] <;> (repeat' (with_reducible apply And.intro)) <;> (try rfl))|(with_reducible (first|refine TVq (st := [21]) ?_))|simp only [seval,go_sem])) <;> (try (fail)))
  | true =>
    rw [hL] at hli
    have h1 := hc1 hL
    have h2 := hc2 hL
    refine of_tri [] [2,5,7,9,12,15,18,21] Try.func5 rfl call5 rfl (by decide) (by decide) rfl rfl Try.ntmps5 (by simp (disch := omega) only [seval,go_sem,cnd,intV,shV,convV,strV,List.replicate,List.zip_nil_left,List.zip_cons_cons];rfl) (by simp (disch := omega) only [seval,go_sem,cnd,intV,shV,convV,strV,List.zip_nil_left,List.zip_cons_cons];rfl) ?_
    ((repeat' (first|((with_reducible refine isTriD ?_);first|((with_reducible refine isCallD ?_);first|((with_reducible refine LVcall (st := [21]) ?_);simp only [seval,go_sem,beq_self_eq_true];first|(refine CallL.c (hli) ?_)|(refine CallL.c (hcf) ?_))))|(with_reducible refine ListD.nil ?_)|((with_reducible refine isListD ?_);first|(with_reducible refine ListD.step (by simp only [seval,go_sem,beq_self_eq_true];rfl) ?_)|((with_reducible refine isCallV ?_);first|((with_reducible (first|refine ListD.dE (by simp only [seval,go_sem,beq_self_eq_true];rfl) (by simp only [seval,go_sem,beq_self_eq_true];first|rfl) ?_));first|refine CallW.c (h1) (by simp only [seval,go_sem,beq_self_eq_true];rfl) ?_|refine CallW.c (h2) (by simp only [seval,go_sem,beq_self_eq_true];rfl) ?_|refine CallW.c (known21_calls) (by simp only [seval,go_sem,beq_self_eq_true];rfl) ?_))|(with_reducible refine ListD.step (by simp (disch := omega) only [seval,go_sem,cnd,intV,shV,convV,strV,beq_self_eq_true];rfl) ?_))|(with_reducible refine isDrawn ?_;refine Tri.drawnD mix (by kernel_rfl) (by simp only [List.map_cons,List.map_nil];rfl) ?_)|(with_reducible refine isRet ?_;refine RetV (rs := [.tmp 4]) (by with_unfolding_all rfl) rfl ?_ <;> simp only [seval,go_sem] <;> (repeat' (with_reducible apply And.intro)) <;> (try rfl))|(with_reducible (first|refine TVq (st := [21]) ?_))|simp only [seval,go_sem,beq_self_eq_true]|(with_reducible refine oV_st (by simp (disch := omega) only [seval,go_sem,cnd,intV,shV,convV,strV,beq_self_eq_true];rfl) ?_))) <;> (try (fail)))
theorem conv_i (row : List D) (h : Rok [.int .i64] row) : ∃ z : Int, row = rowI z ∧ True := by
  simp only [Rok, Cok] at h
  obtain ⟨_, _, rfl, ⟨z, rfl, _⟩, rfl⟩ := h
  exact ⟨z, rfl, trivial⟩
theorem conv_w (row : List D) (h : Rok [.int .u8] row) : ∃ z : Int, row = rowW z ∧ True := by
  simp only [Rok, Cok] at h
  obtain ⟨_, _, rfl, ⟨z, rfl, _⟩, rfl⟩ := h
  exact ⟨z, rfl, trivial⟩
theorem wf_i64 {z : Int} (h : (Lit.int .i64 z).wf = true) : z ≤ 9223372036854775807 := by
  revert h
  simp [Lit.wf, IntKind.min, IntKind.max, IntKind.bits, IntKind.signed]
theorem conv_vr (row : List D) (h : Rok [.int .i64, .int .i64, .int .i64, .sl [.int .i64]] row) : ∃ v : Ver, row = rowV v ∧ v.size ≤ 9223372036854775807 ∧ v.pages.length ≤ 9223372036854775807 := by
  simp only [Rok, Cok] at h
  obtain ⟨_, _, rfl, ⟨f, rfl, _⟩, _, _, rfl, ⟨t, rfl, _⟩, _, _, rfl, ⟨s, rfl, hs⟩, _, _, rfl, ⟨rows, rfl, hl, hr⟩, rfl⟩ := h
  obtain ⟨p, rfl, _⟩ := rows_map conv_i hr
  exact ⟨⟨f, t, s, p⟩, rfl, wf_i64 hs, by simpa [maxLen] using hl⟩
theorem conv_ob (row : List D) (h : Rok [.int .i64, .sl [.int .i64, .int .i64, .int .i64, .sl [.int .i64]]] row) : ∃ o : Ob, row = rowOb o ∧ o.vers.length ≤ 9223372036854775807 ∧ ∀ v ∈ o.vers, v.size ≤ 9223372036854775807 ∧ v.pages.length ≤ 9223372036854775807 := by
  simp only [Rok, Cok] at h
  obtain ⟨_, _, rfl, ⟨f, rfl, _⟩, _, _, rfl, ⟨rows, rfl, hl, hr⟩, rfl⟩ := h
  obtain ⟨p, rfl, hp⟩ := rows_map conv_vr (fun row hm => by have := hr row hm; simpa only [Rok, Cok] using this)
  exact ⟨⟨f, p⟩, rfl, by simpa [maxLen] using hl, hp⟩
theorem conv_bdA (row : List D) (h : Rok [.str, .int .i64, .int .i64, .int .i64] row) : ∃ v : Bd, row = rowBd v ∧ True := by
  simp only [Rok, Cok] at h
  obtain ⟨_, _, rfl, ⟨s, rfl, _⟩, _, _, rfl, ⟨o, rfl, _⟩, _, _, rfl, ⟨f, rfl, _⟩, _, _, rfl, ⟨t, rfl, _⟩, rfl⟩ := h
  exact ⟨⟨s, o, f, t⟩, rfl, trivial⟩
theorem conv_pinA (row : List D) (h : Rok [.int .i64, .int .i64] row) : ∃ v : Pn, row = rowP v ∧ True := by
  simp only [Rok, Cok] at h
  obtain ⟨_, _, rfl, ⟨f, rfl, _⟩, _, _, rfl, ⟨t, rfl, _⟩, rfl⟩ := h
  exact ⟨⟨f, t⟩, rfl, trivial⟩
theorem conv_pg (row : List D) (h : Rok [.int .i64, .int .i64, .sl [.int .u8]] row) : ∃ q : Pg, row = rowPg q ∧ q.data.length ≤ 9223372036854775807 := by
  simp only [Rok, Cok] at h
  obtain ⟨_, _, rfl, ⟨f, rfl, _⟩, _, _, rfl, ⟨t, rfl, _⟩, _, _, rfl, ⟨rows, rfl, hl, hr⟩, rfl⟩ := h
  obtain ⟨p, rfl, _⟩ := rows_map conv_w hr
  exact ⟨⟨f, t, p⟩, rfl, by simpa [maxLen] using hl⟩
theorem conv_dm (row : List D) (h : Rok [.int .i64, .sl [.int .i64, .sl [.int .i64, .int .i64, .int .i64, .sl [.int .i64]]], .sl [.str, .int .i64, .int .i64, .int .i64], .sl [.int .i64, .int .i64], .sl [.int .i64, .int .i64, .sl [.int .u8]]] row) : ∃ d : Dm, row = dDm d ∧ DmWf d := by
  rw [Rok] at h
  obtain ⟨c1, _, rfl, h1, h⟩ := h
  rw [Rok] at h
  obtain ⟨c2, _, rfl, h2, h⟩ := h
  rw [Rok] at h
  obtain ⟨c3, _, rfl, h3, h⟩ := h
  rw [Rok] at h
  obtain ⟨c4, _, rfl, h4, h⟩ := h
  rw [Rok] at h
  obtain ⟨c5, _, rfl, h5, h⟩ := h
  rw [Rok] at h
  subst h
  simp only [Cok] at h1 h2 h3 h4 h5
  obtain ⟨com, rfl, hcom⟩ := h1
  obtain ⟨r2, rfl, l2, m2⟩ := h2
  obtain ⟨r3, rfl, l3, m3⟩ := h3
  obtain ⟨r4, rfl, l4, m4⟩ := h4
  obtain ⟨r5, rfl, l5, m5⟩ := h5
  obtain ⟨os, rfl, ho⟩ := rows_map conv_ob m2
  obtain ⟨bs, rfl, _⟩ := rows_map conv_bdA m3
  obtain ⟨ps, rfl, _⟩ := rows_map conv_pinA m4
  obtain ⟨pg, rfl, hg⟩ := rows_map conv_pg m5
  exact ⟨⟨com, os, bs, ps, pg⟩, rfl, wf_i64 hcom, by simpa [maxLen] using l2, by simpa [maxLen] using l3, by simpa [maxLen] using l4, by simpa [maxLen] using l5, hg, ho⟩
theorem auditRaw_own : ownKnob Try.prog.godebug = none := by kernel_rfl
theorem auditRaw_laid : laidOutB Try.prog = true := by kernel_rfl
set_option maxRecDepth 100000 in
theorem auditRaw_lifted (os : Os) (started : os.Started) (H : Type) (enc : TypeId × Value → H) :
    ReturnsInHanded {} Try.checked os 5 .any (Rows.auditRawSpec.pre6 enc Try.prog Try.f5 Rows.auditRawRow.domain false) (Rows.auditRawSpec.post enc Try.prog Try.f5 false true false false) := by
  refine returnsInHanded_of_change (C := Try.checked) auditRaw_own started (by kernel_rfl) Try.func5
    (ChangeSpec.witness6 (enc := enc) (C := Try.checked) false ⟨#[], #[.agg #[.int .i64 0, .slice none 0 0, .slice none 0 0, .slice none 0 0, .slice none 0 0], .int .i64 0], []⟩ 8 (by kernel_rfl) (by kernel_rfl) (by kernel_rfl) (by kernel_rfl)) ?_
  intro W base args ds gs before hval0 hW hcnd _
  have hval : ∀ (j : Nat) t v, Try.f5.params[j]? = some t → args[j]? = some v → Value.okWide Try.prog W .any base t v := hval0
  have hW' := hW
  obtain ⟨p, q, hA0, hV, rfl, hfz, hnd⟩ := hW
  have hA : DataW.TrodAll enc Try.prog W 0 (fun _ => true) true Try.f5.params.toList args.toList ds p := hA0
  rw [Try.params5] at hA hval
  obtain ⟨v0, vs0, d0, ds0, p0, q0, hargs, rfl, rfl, h0, r0⟩ := trodAll_cons hA
  obtain ⟨v1, vs1, d1, ds1, p1, q1, rfl, rfl, rfl, h1, r1⟩ := trodAll_cons r0
  obtain ⟨rfl, rfl, rfl⟩ := trodAll_nil r1
  obtain rfl : args = #[v0, v1] := by cases args; simp_all
  obtain ⟨A0,x0,k0⟩ := arg_agg (base := base) (n := 8) (r := [.int .i64,.sl [.int .i64,.sl [.int .i64,.int .i64,.int .i64,.sl [.int .i64]]],.sl [.str,.int .i64,.int .i64,.int .i64],.sl [.int .i64,.int .i64],.sl [.int .i64,.int .i64,.sl [.int .u8]]]) (by kernel_rfl) Try.underlying35 (hval 0 35 v0 rfl rfl) h0
  obtain ⟨a0, rfl, w0⟩ := conv_dm _ k0
  obtain ⟨a1, x1, w1⟩ := arg_int Try.underlying3 (hval 1 3 v1 rfl rfl) h1
  exact law_step (xs := [.agg (dDm a0), .sc (.int .i64 a1)]) hW' rfl auditRaw_laid (by kernel_rfl) (fun gs' h => by subst h; rfl) rfl Try.underlying4 (by simp only [RL]; exact ⟨_, _, rfl, x0, ⟨_, _, rfl, x1, rfl⟩⟩) (auditRaw_calls w0)
theorem auditRaw_over : Rows.auditRawRow.holds Try.pinned (OpenSpec.ofChange Rows.auditRawSpec) :=
  OpenClaim.holds_of_wide 5 Try.f5 rfl rfl rfl rfl rfl rfl rfl ⟨rfl, rfl, rfl, rfl, rfl⟩ rfl rfl rfl rfl rfl (by kernel_rfl) Try.func5 (by kernel_rfl)
    (of_decide_eq_true (by kernel_rfl)) (by unfold Func.isWrapper; first | (rw [if_pos (by decide +kernel)]; kernel_rfl) | (rw [if_neg (by decide +kernel)]; exact ⟨rfl, rfl⟩))
    (fun os started H enc _ => auditRaw_lifted os started H enc)
theorem auditRaw_holds : Rows.AuditRawSaid := auditRaw_over

end Go.Proofs.Ytmgodadmafcliaa
