/- Ranks: the law's made, of whose result only the form is told. -/
import Derived.Test.YtnckgbmifigadaaZRkM
import Derived.Test.YtnckgbmifigadaaZRkJ
import Derived.Test.YtnckgbmifigadaaZFrH
set_option linter.unusedSimpArgs false
set_option linter.unusedVariables false
namespace Go.Proofs.Ytnckgbmifigadaa
open Go.RowKit Go.Avm
def rowJr (z : Int) : List D := [.sc (.int .i64 z)]
set_option maxRecDepth 100000 in set_option maxHeartbeats 6400000 in
theorem mader_x {n : Int} {l : List Int} {c : List Int} (hc : ∀ z ∈ c, 0 ≤ z ∧ z ≤ 255) : XCalls Try.prog 31 [] [.sc (.int .i64 n), .sl 1 (l.map rowJr), .sl 1 (c.map rowU)] SmR dR (fun _ => []) := by
  have e1 : newR (2 + 2 * (n % 4)) = (⟨2 + 2 * (n % 4), 0, 0, [], false⟩, 0) := by
    unfold newR
    rw [if_pos (by simp only [evenOk, Bool.and_eq_true, decide_eq_true_eq]; omega)]
  have hnw := rnewr_calls (n := 2 + 2 * (n % 4))
  rw [e1] at hnw
  simp only [dR, List.map_nil] at hnw
  refine of_triX [] [6,7,16,36,39] Try.func31 rfl call31 rfl (by decide) (by decide) rfl rfl Try.ntmps31 (by simp (disch := omega) only [seval,go_sem,cnd,intV,shV,convV,strV,List.replicate,List.zip_nil_left,List.zip_cons_cons];rfl) (by simp (disch := omega) only [seval,go_sem,cnd,intV,shV,convV,strV,List.zip_nil_left,List.zip_cons_cons];rfl) ?_
  ((repeat' (first|((with_reducible refine isTriD ?_);first|((with_reducible refine isCallD ?_);first|((with_reducible refine LVcall (st := []) ?_);simp only [seval,go_sem];first|(refine CallL.c (hnw) ?_))))|(with_reducible (first|refine TVq (st := []) ?_))|simp only [seval,go_sem]|(with_reducible refine oV_st (by simp (disch := omega) only [seval,go_sem,cnd,intV,shV,convV,strV];rfl) ?_))) <;> (try (fail)))
  all_goals (with_reducible refine Tri.loopU (fun (z : Nat × Rk × Int) => [(10,.sc (.int .i64 z.1)),(9,.sc (.int .i64 z.2.2)),(19,.any),(20,.any),(21,.any),(22,.any),(23,.any),(24,.any),(25,.any),(26,.any),(27,.any),(28,.any),(29,.any),(30,.any),(31,.any),(32,.any),(33,.any),(34,.any),(35,.any),(36,.any),(37,.any),(38,.any),(39,.any),(40,.any),(41,.any),(42,.any)]) (fun (z : Nat × Rk × Int) => [(7,.box [.sc (.int .i64 z.2.1.size),.sc (.int .i64 z.2.1.total),.sc (.int .i64 z.2.1.slack),.sl 1 (z.2.1.levels.map lvD),.sc (.bool z.2.1.sat)]),(36,.dead),(39,.dead)]) (fun (z : Nat × Rk × Int) => z.1 ≤ l.length ∧ z.1 ≤ 12 ∧ SmR z.2.1) (fun (z : Nat × Rk × Int) => 20 - z.1) ((0,⟨2 + 2 * (n % 4),0,0,[],false⟩,0)) (⟨Nat.zero_le _,Nat.zero_le _,⟨by simp,by simp,by simp⟩⟩) (by intro _;simp (disch := omega) only [seval,go_sem,cnd,intV,shV,convV,strV];rfl) (by intro _;simp (disch := omega) only [seval,go_sem,cnd,intV,shV,convV,strV];rfl) (by (first|refine leQL_spec ?_);(try simp only [seval,go_sem]);first|done) (by (first|refine leQH_spec ?_);(try simp only [seval,go_sem]);first|done) (fun z hI => ?_))
  all_goals
    obtain ⟨i, f, aa⟩ := z
    obtain ⟨hk, h12, hv⟩ := hI
    simp only at hk h12 hv
    have hin := fun (k : ByteArray) (w : Int) (hk : k.size ≤ 1000000000) => rinsr_calls (r := f) (k := k) (w := w) (a := aa) (c := c) hv.h1 hv.h2 hk hc
    simp only [dR] at hin
    by_cases hlt : i < l.length
    · obtain ⟨x, hx⟩ := get_lt hlt
      have hx' := get_map rowJr hx
      by_cases hi : i < 12
      · ((repeat' (first|((with_reducible refine isTriD ?_);first|((with_reducible refine isCallD ?_);first|((with_reducible (first|(with_unfolding_all refine TriD.callX (dst := _) true [] [] (by simp only [seval,go_sem,hx',rowJr]) rfl (item_x) ⟨by simp only [seval,go_sem,hx',rowJr];first|rfl,rfl⟩ (by decide) (fun _ => rfl) rfl rfl (fun _ => by first|rfl) (fun _ => by first|rfl) (fun t ht => ?_);(try dsimp only at ht))));refine LVs (st := []) ?_)|((with_reducible refine LVcall (st := []) ?_);simp only [seval,go_sem,hx',rowJr];first|(refine CallL.c (hin _ _ ?_) ?_)))|((with_reducible first|refine TriD.step (by simp only [seval,go_sem,hx',rowJr];rfl) ?_);refine LVs (st := []) ?_))|(with_reducible refine isDrawnN 6 ?_;refine Tri.mixedP 6 mix 16 rfl (.f 1 <| .f 2 <| .f 3 <| .f 7 <| .f 8 <| .r 4 <| .f 5 <| .a <| .b 0 (.a <| .b 6 (.a <| .b 9 (.f 10 <| .f 11 <| .f 12 <| .f 13 <| .a <| .b 14 (.f 15 <| .d) .e) .e) .e) <| .b 6 (.a <| .b 0 (.a <| .b 9 (.f 10 <| .f 11 <| .f 12 <| .f 13 <| .a <| .b 14 (.f 15 <| .d) .e) .e) .e) .e) (by kernel_rfl) ?_)|(with_reducible refine isAnyP ?_;first|refine AnyP.D ?_|refine AnyP.F (by simp only [seval,go_sem,List.getElem?_cons_succ,List.getElem?_cons_zero];rfl) (by first|(simp only [seval,go_sem,hx',rowJr];first|done)) (by first|(simp only [seval,go_sem,hx',rowJr];with_reducible rfl)|(simp (disch := omega) only [seval,go_sem,cnd,intV,shV,convV,strV,hx',rowJr];with_reducible rfl)) ?_|refine AnyP.R (by simp only [seval,go_sem,List.getElem?_cons_succ,List.getElem?_cons_zero];rfl) (by first|exact .inl (by simp only [seval,go_sem,hx',rowJr])) (by first|(simp only [seval,go_sem,hx',rowJr];with_reducible rfl)) ?_|refine AnyP.A ?_)|(with_reducible first|exact NextsP.E|refine NextsP.B (by simp only [seval,go_sem,List.getElem?_cons_succ,List.getElem?_cons_zero];rfl) ?_ ?_)|(with_reducible (first|refine TVq (st := []) ?_))|simp only [seval,go_sem,hx',rowJr]|(with_reducible refine oV_st (by simp (disch := omega) only [seval,go_sem,cnd,intV,shV,convV,strV,hx',rowJr];rfl) ?_))) <;> (try (first|((with_reducible show (_ : Nat) ≤ _);omega))))
        all_goals (try omega)
        all_goals (have hsm := insR_small (k := t.1) (w := t.2) (a := aa) (c := c) hv (by omega))
        all_goals (refine isNextM ((i + 1,(insR f t.1 t.2 c aa).1,(insR f t.1 t.2 c aa).2.1)) (by (first|refine leQL_spec ?_);(try simp only [seval,go_sem,dR]);first|((repeat' (with_reducible apply And.intro)) <;> first|rfl);first|done) (by (first|refine leQH_spec ?_);(try simp only [seval,go_sem,dR]);first|done) ?_ ?_ <;> (try (first|omega)))
        all_goals exact ⟨by simp only; omega, by simp only; omega, hsm⟩
      · ((repeat' (first | (with_reducible (first | refine TVq (st := []) ?_)) | simp only [seval, go_sem, hx', rowJr] | (with_reducible refine oV_st (by simp (disch := omega) only [seval, go_sem, cnd, intV, shV, convV, strV, hx', rowJr]; rfl) ?_))) <;> (try (fail)))
        (refine isRetX (f) ?_ ?_)
        · exact hv
        (with_reducible refine isRet ?_; refine RetV (rs := [.cell 6 50]) (by with_unfolding_all rfl) rfl ?_ <;> simp only [seval, go_sem, dR] <;> (repeat' (with_reducible apply And.intro)) <;> (try rfl))
    · ((repeat' (first | (with_reducible (first | refine TVq (st := []) ?_)) | simp only [seval, go_sem] | (with_reducible refine oV_st (by simp (disch := omega) only [seval, go_sem, cnd, intV, shV, convV, strV]; rfl) ?_))) <;> (try (fail)))
      (refine isRetX (f) ?_ ?_)
      · exact hv
      (with_reducible refine isRet ?_; refine RetV (rs := [.cell 6 50]) (by with_unfolding_all rfl) rfl ?_ <;> simp only [seval, go_sem, dR] <;> (repeat' (with_reducible apply And.intro)) <;> (try rfl))
end Go.Proofs.Ytnckgbmifigadaa
