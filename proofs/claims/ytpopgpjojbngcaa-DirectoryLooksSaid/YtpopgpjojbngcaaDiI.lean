/- DirectoryBinds: Bind of the program gives what Bind of the reference gives, for any directory that the law builds. -/
import Derived.Test.YtpopgpjojbngcaaDiG
import Derived.Test.YtpopgpjojbngcaaDiH
set_option linter.unusedSimpArgs false
set_option linter.unusedVariables false
namespace Go.Proofs.Ytpopgpjojbngcaa
open Go.RowKit Go.Avm Go.ChangeShapes Go.WideShapes Go.ChangeAt
theorem madeD_len : ∀ (l : List Int) (i : Nat) (d : List Bd) (c o : Int), i ≤ 10 → d.length ≤ i → 1 ≤ c ∧ c ≤ 1 + i → (madeD l i d c o).1.length ≤ 10 ∧ 1 ≤ (madeD l i d c o).2 ∧ (madeD l i d c o).2 ≤ 11
  | [], i, d, c, o, hi, hd, hc => by simp only [madeD]; omega
  | k :: l, i, d, c, o, hi, hd, hc => by
    rw [madeD]
    split
    · simp only; omega
    · have := stepD_len k d c o
      split
      · exact madeD_len l (i + 1) _ _ _ (by omega) (by omega) (by omega)
      · exact madeD_len l (i + 1) _ _ _ (by omega) (by omega) (by omega)
theorem pick6_nm (n : Int) (h0 : 0 ≤ n) (h3 : n < 6) (a b c d e f : ByteArray) : ∃ z, ([[.sc (.string a)], [.sc (.string b)], [.sc (.string c)], [.sc (.string d)], [.sc (.string e)], [.sc (.string f)]] : List (List D))[n.toNat]? = some [.sc (.string z)] := by
  have : n = 0 ∨ n = 1 ∨ n = 2 ∨ n = 3 ∨ n = 4 ∨ n = 5 := by omega
  rcases this with rfl | rfl | rfl | rfl | rfl | rfl <;> exact ⟨_, rfl⟩
set_option maxRecDepth 100000 in set_option maxHeartbeats 6400000 in
theorem directoryBinds_calls {m : List Int} {n o : Int} : ACalls Try.prog 8 [.sl 1 (m.map rowJ), .sc (.int .i64 n), .sc (.int .i64 o)] (.sc (.bool true)) [] := by
  obtain ⟨z, hz⟩ := pick6_nm (n / 4096 % 8 % 6) (by omega) (by omega) ⟨#[97]⟩ ⟨#[98]⟩ ⟨#[99]⟩ ⟨#[]⟩ ⟨#[100]⟩ ⟨#[120, 49]⟩
  have hm := madeD_len m 0 [] 1 1 (by omega) (by simp) (by omega)
  refine of_tri [] [17,22,23,48,58,67,70] Try.func8 rfl call8 rfl (by decide) (by decide) rfl rfl Try.ntmps8 (by simp (disch := omega) only [seval,go_sem,cnd,intV,shV,convV,strV,List.replicate,List.zip_nil_left,List.zip_cons_cons];rfl) (by simp (disch := omega) only [seval,go_sem,cnd,intV,shV,convV,strV,List.zip_nil_left,List.zip_cons_cons];rfl) ?_
  ((repeat' (first|(with_reducible (first|refine Tri.seq ?_|refine Tri.block ?_|refine Tri.skip ?_|refine Tri.exit ?_|refine Tri.ret ?_|refine TriD.nilP ?_|refine TriD.nil ?_|refine ListD.nil ?_|refine thenQ_n ?_|refine thenQ_r ?_|refine thenQ_e ?_|refine inBlockQ_n ?_|refine inBlockQ_r ?_|refine inBlockQ_e ?_|refine inBlockQ_o (by decide) ?_|refine loopQ_n ?_|refine loopQ_r ?_|refine loopQ_e ?_|refine Tri.regionD (by simp only [List.map_cons,List.map_nil];rfl) ?_))|((with_reducible refine isTriD ?_);first|(with_reducible refine TriD.step (by simp only [seval,go_sem,hz,beq_self_eq_true];rfl) ?_)|((with_reducible refine isCallD ?_);first|((with_reducible (first|refine TriD.dE (by simp only [seval,go_sem,hz,beq_self_eq_true];rfl) (by simp only [seval,go_sem,hz,beq_self_eq_true];first|done|rfl) ?_|refine TriD.dS (by simp only [seval,go_sem,hz,beq_self_eq_true];rfl) (by simp only [seval,go_sem,hz,beq_self_eq_true];first|done|rfl) ?_));first|refine CallK.c [] (made18_calls) (by simp only [seval,go_sem,hz,beq_self_eq_true];rfl) ?_|refine CallK.c [] (bind_calls ?_) (by simp only [seval,go_sem,hz,beq_self_eq_true];rfl) ?_|refine CallK.c [] (rbind2_calls ?_) (by simp only [seval,go_sem,hz,beq_self_eq_true];rfl) ?_|refine CallK.c [] (sameb_calls ?_) (by simp only [seval,go_sem,hz,beq_self_eq_true];rfl) ?_|refine CallK.c [] (known18_calls) (by simp only [seval,go_sem,hz,beq_self_eq_true];rfl) ?_)|(with_reducible (first|(with_unfolding_all refine TriD.callX (dst := _) true [] [] (by simp only [seval,go_sem,hz,beq_self_eq_true]) rfl (spoil18_x ?_) ⟨by simp only [seval,go_sem,hz,beq_self_eq_true];first|done|rfl,rfl⟩ (by decide) (fun _ => rfl) rfl rfl (fun _ => by first|rfl|(simp only [seval,go_sem,hz,beq_self_eq_true];first|done|fail)) (fun _ => by first|rfl|(simp only [seval,go_sem,hz,beq_self_eq_true];first|done|fail)) (fun t ht => ?_);(try dsimp only at ht))|(with_unfolding_all refine TriD.callX (dst := _) false [] [] (by simp only [seval,go_sem,hz,beq_self_eq_true]) rfl (spoil18_x ?_) ⟨by simp only [seval,go_sem,hz,beq_self_eq_true];first|done|rfl,rfl,(fun _ _ => flat_of (by first|rfl|(simp only [seval,go_sem,hz,beq_self_eq_true];first|done|fail)) (by first|rfl|(simp only [seval,go_sem,hz,beq_self_eq_true];first|done|fail)))⟩ (by decide) (fun _ => rfl) rfl rfl (fun _ => by first|rfl|(simp only [seval,go_sem,hz,beq_self_eq_true];first|done|fail)) (fun _ => by first|rfl|(simp only [seval,go_sem,hz,beq_self_eq_true];first|done|fail)) (fun t ht => ?_);(try dsimp only at ht)))))|(with_reducible refine TriD.step (by simp (disch := omega) only [seval,go_sem,cnd,intV,shV,convV,strV,hz,beq_self_eq_true];rfl) ?_)|(with_reducible (first|refine isAnd2 68 ?_|refine isAnd2 71 ?_);with_reducible refine TriD.and2 (by simp only [seval,go_sem,hz,beq_self_eq_true];first|done|rfl) (by simp only [seval,go_sem,hz,beq_self_eq_true];first|done|rfl) (by decide) (by simp only [seval,go_sem,hz,beq_self_eq_true,List.length_cons,List.length_nil]) (by simp only [seval,go_sem,hz,beq_self_eq_true]) (by first|(simp only [seval,go_sem,hz,beq_self_eq_true];rfl)|(simp (disch := omega) only [seval,go_sem,cnd,intV,shV,convV,strV,hz,beq_self_eq_true];rfl)) (by simp only [seval,go_sem,hz,beq_self_eq_true];rfl) ?_)|(with_reducible refine TriD.byGuard (by simp only [seval,go_sem,hz,beq_self_eq_true];rfl) (by simp only [seval,go_sem,hz,beq_self_eq_true];rfl) (by (fail_if_success (with_reducible exact nlT));(fail_if_success (with_reducible exact nlF));exact nlI) (cvI ?_) (cvI ?_)))|((with_reducible refine isListD ?_);first|(with_reducible refine ListD.step (by simp only [seval,go_sem,hz,beq_self_eq_true];rfl) ?_)|(with_reducible refine ListD.step (by simp (disch := omega) only [seval,go_sem,cnd,intV,shV,convV,strV,hz,beq_self_eq_true];rfl) ?_)|(with_reducible refine ListD.byGuard (by simp only [seval,go_sem,hz,beq_self_eq_true];rfl) (by simp only [seval,go_sem,hz,beq_self_eq_true];rfl) (by (fail_if_success (with_reducible exact nlT));(fail_if_success (with_reducible exact nlF));exact nlI) (cvI ?_) (cvI ?_)))|(with_reducible refine isCond ?_;with_reducible refine Tri.cond (by simp only [seval,go_sem,hz,beq_self_eq_true];rfl) (cvI ?_) (cvI ?_))|(with_reducible refine isCv ?_;intro hc;(try simp only [bls,reduceCtorEq] at hc);(try (exfalso;omega)))|(with_reducible refine isDrawn ?_;refine Tri.drawnD mix (by kernel_rfl) (by simp only [List.map_cons,List.map_nil];rfl) ?_)|(with_reducible refine isRet ?_;refine RetOK.q rfl rfl (by simp only [seval,go_sem];rfl) (by decide) (by simp only [seval,go_sem];first|done|rfl) (by simp only [seval,go_sem];first|done|rfl) rfl ?_ <;> (try simp only [seval,go_sem]) <;> (repeat' (with_reducible apply And.intro)) <;> (try rfl)))) <;> (try (first|(with_reducible assumption)|((with_reducible show (_ : Int) ≤ _);omega)|((with_reducible show (_ : Nat) ≤ _);omega))))
  all_goals (have := bindB_len t z (o % 16 - 1) ((madeD m 0 [] 1 1).2 + n / 32768 % 4 - n / 131072 % 8 / 7 * 8); omega)
theorem directoryBinds_own : ownKnob Try.prog.godebug = none := by kernel_rfl
theorem directoryBinds_laid : laidOutB Try.prog = true := by kernel_rfl
set_option maxRecDepth 100000 in
theorem directoryBinds_lifted (os : Os) (started : os.Started) (H : Type) (enc : TypeId × Value → H) :
    ReturnsInHanded {} Try.checked os 8 .any (Rows.directoryBindsSpec.pre6 enc Try.prog Try.f8 Rows.directoryBindsRow.domain false) (Rows.directoryBindsSpec.post enc Try.prog Try.f8 false true false false) := by
  refine returnsInHanded_of_change (C := Try.checked) directoryBinds_own started (by kernel_rfl) Try.func8
    (ChangeSpec.witness6 (enc := enc) (C := Try.checked) false ⟨#[], #[.slice none 0 0, .int .i64 0, .int .i64 0], []⟩ 8 (by kernel_rfl) (by kernel_rfl) (by kernel_rfl) (by kernel_rfl)) ?_
  intro W base args ds gs before hval0 hW hcnd _
  have hval : ∀ (j : Nat) t v, Try.f8.params[j]? = some t → args[j]? = some v → Value.okWide Try.prog W .any base t v := hval0
  have hW' := hW
  obtain ⟨p, q, hA0, hV, rfl, hfz, hnd⟩ := hW
  have hA : DataW.TrodAll enc Try.prog W 0 (fun _ => true) true Try.f8.params.toList args.toList ds p := hA0
  rw [Try.params8] at hA hval
  obtain ⟨v0, vs0, d0, ds0, p0, q0, hargs, rfl, rfl, h0, r0⟩ := trodAll_cons hA
  obtain ⟨v1, vs1, d1, ds1, p1, q1, rfl, rfl, rfl, h1, r1⟩ := trodAll_cons r0
  obtain ⟨v2, vs2, d2, ds2, p2, q2, rfl, rfl, rfl, h2, r2⟩ := trodAll_cons r1
  obtain ⟨rfl, rfl, rfl⟩ := trodAll_nil r2
  obtain rfl : args = #[v0, v1, v2] := by cases args; simp_all
  obtain ⟨a0, x0, w0, l0⟩ := arg_ints Try.underlying22 Try.underlying3 (by kernel_rfl) (hval 0 22 v0 rfl rfl) h0
  obtain ⟨a1, x1, w1⟩ := arg_int Try.underlying3 (hval 1 3 v1 rfl rfl) h1
  obtain ⟨a2, x2, w2⟩ := arg_int Try.underlying3 (hval 2 3 v2 rfl rfl) h2
  exact law_step (xs := [.sl 1 (a0.map fun z => [.sc (.int .i64 z)]),.sc (.int .i64 a1),.sc (.int .i64 a2)]) hW' rfl directoryBinds_laid (by kernel_rfl) (fun gs' h => by subst h;rfl) rfl Try.underlying4 (by simp only [RL];exact ⟨_,_,rfl,x0,⟨_,_,rfl,x1,⟨_,_,rfl,x2,rfl⟩⟩⟩) (directoryBinds_calls)
theorem directoryBinds_over : Rows.directoryBindsRow.holds Try.pinned (OpenSpec.ofChange Rows.directoryBindsSpec) :=
  OpenClaim.holds_of_wide 8 Try.f8 rfl rfl rfl rfl rfl rfl rfl ⟨rfl, rfl, rfl, rfl, rfl⟩ rfl rfl rfl rfl rfl (by kernel_rfl) Try.func8 (by kernel_rfl)
    (of_decide_eq_true (by kernel_rfl)) (by unfold Func.isWrapper; first | (rw [if_pos (by decide +kernel)]; kernel_rfl) | (rw [if_neg (by decide +kernel)]; exact ⟨rfl, rfl⟩))
    (fun os started H enc _ => directoryBinds_lifted os started H enc)
theorem directoryBinds_holds : Rows.DirectoryBindsSaid := directoryBinds_over

end Go.Proofs.Ytpopgpjojbngcaa
