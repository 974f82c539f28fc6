/- RanksOrder: ranks never fall with the key, the greatest key has the rank Total, and a quantile is the smallest key whose rank is high enough. -/
import Derived.Test.YtnckgbmifigadaaZRkXa
import Derived.Test.YtnckgbmifigadaaZRkY
import Derived.Test.YtnckgbmifigadaaZRkW
set_option linter.unusedSimpArgs false
set_option linter.unusedVariables false
namespace Go.Proofs.Ytnckgbmifigadaa
open Go.RowKit Go.Avm Go.ChangeShapes Go.WideShapes Go.ChangeAt
theorem keyT_size3 (j : Int) : 1 ≤ (keyT j).size ∧ (keyT j).size ≤ 3 := by
  unfold keyT
  repeat' split
  all_goals decide
set_option maxRecDepth 100000 in set_option maxHeartbeats 3200000 in
theorem key3_x {n : Int} : XCalls Try.prog 39 [] [.sc (.int .i64 n)] (fun k : ByteArray => 1 ≤ k.size ∧ k.size ≤ 3) (fun k => .sc (.string k)) (fun _ => []) := by
  have hq := keyT_get (n % 256 % 12) (by omega) (by omega)
  have h12 : ((12 : Nat) : Int) = 12 := rfl
  refine of_triX [] [4,17] Try.func39 rfl call39 rfl (by decide) (by decide) rfl rfl Try.ntmps39 (by simp (disch := omega) only [seval,go_sem,cnd,intV,shV,convV,strV,List.replicate,List.zip_nil_left,List.zip_cons_cons];rfl) (by simp (disch := omega) only [seval,go_sem,cnd,intV,shV,convV,strV,List.zip_nil_left,List.zip_cons_cons];rfl) ?_
  (all_goals (try have hZ := (And.intro hq h12));(repeat' (first|(with_reducible (first|refine Tri.seq ?_|refine Tri.skip ?_|refine Tri.ret ?_|refine TriD.nil ?_|refine thenQ_n ?_|refine thenQ_r ?_|refine Tri.regionD (by simp only [List.map_cons,List.map_nil];rfl) ?_))|((with_reducible refine isTriD ?_);first|(with_reducible refine TriD.step (by simp only [seval,go_sem,Go.Avm.byteOf,mapO,Option.map_some,Option.bind_some,hZ];rfl) ?_)|(with_reducible refine TriD.step (by simp (disch := omega) only [seval,go_sem,cnd,intV,shV,convV,strV,Go.Avm.byteOf,mapO,Option.map_some,Option.bind_some,hZ];rfl) ?_))|(with_reducible refine isCond ?_;with_reducible refine Tri.cond (by simp only [seval,go_sem,Go.Avm.byteOf,mapO,Option.map_some,Option.bind_some,hZ];rfl) (cvI ?_) (cvI ?_))|(with_reducible refine isCv ?_;intro hc;(try simp only [bls,reduceCtorEq] at hc);(try (exfalso;omega))))) <;> (try (fail));all_goals (try clear hZ))
  · (refine isRetX (strOfNums [IntKind.u8.wrap n, IntKind.u8.wrap (n / 2), IntKind.u8.wrap (n / 8)]) ?_ ?_)
    · exact ⟨by simp [strOfNums, ByteArray.size], by simp [strOfNums, ByteArray.size]⟩
    (with_reducible refine isRet ?_;refine RetOK.q rfl rfl (by simp only [seval,go_sem];rfl) (by decide) (by simp only [seval,go_sem];first|rfl) (by simp only [seval,go_sem];first|rfl) rfl ?_ <;> (try simp only [seval,go_sem]) <;> (repeat' (with_reducible apply And.intro)) <;> (try rfl))
  · (refine isRetX (keyT (n % 256 % 12)) ?_ ?_)
    · exact keyT_size3 _
    (with_reducible refine isRet ?_;refine RetOK.q rfl rfl (by simp only [seval,go_sem];rfl) (by decide) (by simp only [seval,go_sem];first|rfl) (by simp only [seval,go_sem];first|rfl) rfl ?_ <;> (try simp only [seval,go_sem]) <;> (repeat' (with_reducible apply And.intro)) <;> (try rfl))
set_option maxRecDepth 100000 in set_option maxHeartbeats 3200000 in
theorem item3_x {n : Int} : XCalls Try.prog 18 [] [.sc (.int .i64 n)] (fun x : ByteArray × Int => (1 ≤ x.1.size ∧ x.1.size ≤ 3) ∧ 1 ≤ x.2 ∧ x.2 ≤ 4294967295) (fun x => .agg [.sc (.string x.1), .sc (.int .i64 x.2)]) (fun _ => []) := by
  refine of_triX [] [2,24] Try.func18 rfl call18 rfl (by decide) (by decide) rfl rfl Try.ntmps18 (by simp (disch := omega) only [seval,go_sem,cnd,intV,shV,convV,strV,List.replicate,List.zip_nil_left,List.zip_cons_cons];rfl) (by simp (disch := omega) only [seval,go_sem,cnd,intV,shV,convV,strV,List.zip_nil_left,List.zip_cons_cons];rfl) ?_
  ((repeat' (first|(with_reducible (first|refine Tri.seq ?_|refine Tri.block ?_|refine Tri.skip ?_|refine Tri.ret ?_|refine TriD.nil ?_|refine thenQ_n ?_|refine inBlockQ_n ?_|refine Tri.regionD (by simp only [List.map_cons,List.map_nil];rfl) ?_))|((with_reducible refine isTriD ?_);first|(with_reducible refine TriD.step (by simp only [seval,go_sem];rfl) ?_)|((with_reducible refine isCallD ?_);first|(with_reducible (first|(with_unfolding_all refine TriD.callX (dst := _) true [] [] (by simp only [seval,go_sem]) rfl (key3_x) ⟨by simp only [seval,go_sem];first|rfl,rfl⟩ (by decide) (fun _ => rfl) rfl rfl (fun _ => by first|rfl) (fun _ => by first|rfl) (fun t ht => ?_);(try dsimp only at ht)))))|(with_reducible refine TriD.step (by simp (disch := omega) only [seval,go_sem,cnd,intV,shV,convV,strV];rfl) ?_))|(with_reducible refine isCond ?_;with_reducible refine Tri.cond (by simp only [seval,go_sem];rfl) (cvI ?_) (cvI ?_))|(with_reducible refine isCv ?_;intro hc;(try simp only [bls,reduceCtorEq] at hc);(try (exfalso;omega))))) <;> (try (fail)))
  · (refine isRetX ((t, 1 + n % 65536 * 65537 % 4294967295)) ?_ ?_)
    · exact ⟨ht, by simp only; omega⟩
    (with_reducible refine isRet ?_;refine RetOK.q rfl (by with_unfolding_all (show retD _ _ [.cell 2 29] = _);simp only [seval,go_sem];rfl) (by simp only [seval,go_sem];rfl) (by decide) (by simp only [seval,go_sem];first|rfl) (by simp only [seval,go_sem];first|rfl) rfl ?_ <;> (try simp only [seval,go_sem]) <;> (repeat' (with_reducible apply And.intro)) <;> (try rfl))
  · (refine isRetX ((t, 4294967295 - n % 4)) ?_ ?_)
    · exact ⟨ht, by simp only; omega⟩
    (with_reducible refine isRet ?_;refine RetOK.q rfl (by with_unfolding_all (show retD _ _ [.cell 2 29] = _);simp only [seval,go_sem];rfl) (by simp only [seval,go_sem];rfl) (by decide) (by simp only [seval,go_sem];first|rfl) (by simp only [seval,go_sem];first|rfl) rfl ?_ <;> (try simp only [seval,go_sem]) <;> (repeat' (with_reducible apply And.intro)) <;> (try rfl))
  · (refine isRetX ((t, 1 + n / 16 % 8)) ?_ ?_)
    · exact ⟨ht, by simp only; omega⟩
    (with_reducible refine isRet ?_;refine RetOK.q rfl (by with_unfolding_all (show retD _ _ [.cell 2 29] = _);simp only [seval,go_sem];rfl) (by simp only [seval,go_sem];rfl) (by decide) (by simp only [seval,go_sem];first|rfl) (by simp only [seval,go_sem];first|rfl) rfl ?_ <;> (try simp only [seval,go_sem]) <;> (repeat' (with_reducible apply And.intro)) <;> (try rfl))
/-- What made gives: a valid summary of short keys. -/
def Md3 (r : Rk) : Prop := validR r = 0 ∧ ∀ l ∈ r.levels, ∀ x ∈ l, x.size ≤ 3
theorem md3_new {n : Int} (h : evenOk n = true) : Md3 ⟨n, 0, 0, [], false⟩ := ⟨(GdR.new ⟨#[]⟩ h).v, by simp⟩
theorem Md3.insert {f : Rk} {k : ByteArray} {w aa : Int} {c : List Int} {i : Nat} (h : Md3 f) (ht : f.total ≤ i * 4294967295) (ha : 0 ≤ aa ∧ aa ≤ 41 * i) (hi : i < 12) (hk : (1 ≤ k.size ∧ k.size ≤ 3) ∧ 1 ≤ w ∧ w ≤ 4294967295) :
    Md3 (insR f k w c aa).1 ∧ (insR f k w c aa).1.total ≤ ((i + 1 : Nat) : Int) * 4294967295 ∧ 0 ≤ (insR f k w c aa).2.1 ∧ (insR f k w c aa).2.1 ≤ 41 * ((i + 1 : Nat) : Int) := by
  obtain ⟨i1, i2, i3, i4, i5, i6, i7, i8, _⟩ := insR_ok (P := fun x => x.size ≤ 3) (c := c) (a := aa) h.1 (itemE_ofR (k := k) (w := w) ⟨by omega, hk.2⟩) (by simp only [placeOk, Bool.and_eq_true, decide_eq_true_eq]; omega) (by omega) h.2 (by omega)
  exact ⟨⟨i2, i6⟩, by rw [i4]; omega, by omega, by omega⟩
set_option maxRecDepth 100000 in set_option maxHeartbeats 6400000 in
theorem made3_x {n : Int} {l : List Int} {c : List Int} (hc : ∀ z ∈ c, 0 ≤ z ∧ z ≤ 255) : XCalls Try.prog 31 [] [.sc (.int .i64 n), .sl 1 (l.map rowJr), .sl 1 (c.map rowU)] Md3 dR (fun _ => []) := by
  have hev : evenOk (2 + 2 * (n % 4)) = true := by simp only [evenOk, Bool.and_eq_true, decide_eq_true_eq]; omega
  have e1 : newR (2 + 2 * (n % 4)) = (⟨2 + 2 * (n % 4), 0, 0, [], false⟩, 0) := by
    unfold newR
    rw [if_pos hev]
  have hnw := rnewr_calls (n := 2 + 2 * (n % 4))
  rw [e1] at hnw
  simp only [dR, List.map_nil] at hnw
  refine of_triX [] [6,7,16,36,39] Try.func31 rfl call31 rfl (by decide) (by decide) rfl rfl Try.ntmps31 (by simp (disch := omega) only [seval,go_sem,cnd,intV,shV,convV,strV,List.replicate,List.zip_nil_left,List.zip_cons_cons];rfl) (by simp (disch := omega) only [seval,go_sem,cnd,intV,shV,convV,strV,List.zip_nil_left,List.zip_cons_cons];rfl) ?_
  ((repeat' (first|((with_reducible refine isTriD ?_);first|((with_reducible refine isCallD ?_);first|((with_reducible refine LVcall (st := []) ?_);simp only [seval,go_sem];first|(refine CallL.c (hnw) ?_))))|(with_reducible (first|refine TVq (st := []) ?_))|simp only [seval,go_sem]|(with_reducible refine oV_st (by simp (disch := omega) only [seval,go_sem,cnd,intV,shV,convV,strV];rfl) ?_))) <;> (try (fail)))
  all_goals (with_reducible refine Tri.loopU (fun (z : Nat × Rk × Int) => [(10,.sc (.int .i64 z.1)),(9,.sc (.int .i64 z.2.2)),(19,.any),(20,.any),(21,.any),(22,.any),(23,.any),(24,.any),(25,.any),(26,.any),(27,.any),(28,.any),(29,.any),(30,.any),(31,.any),(32,.any),(33,.any),(34,.any),(35,.any),(36,.any),(37,.any),(38,.any),(39,.any),(40,.any),(41,.any),(42,.any)]) (fun (z : Nat × Rk × Int) => [(7,.box [.sc (.int .i64 z.2.1.size),.sc (.int .i64 z.2.1.total),.sc (.int .i64 z.2.1.slack),.sl 1 (z.2.1.levels.map lvD),.sc (.bool z.2.1.sat)]),(36,.dead),(39,.dead)]) (fun (z : Nat × Rk × Int) => (z.1 ≤ l.length ∧ z.1 ≤ 12) ∧ Md3 z.2.1 ∧ z.2.1.total ≤ z.1 * 4294967295 ∧ 0 ≤ z.2.2 ∧ z.2.2 ≤ 41 * z.1) (fun (z : Nat × Rk × Int) => 20 - z.1) ((0,⟨2 + 2 * (n % 4),0,0,[],false⟩,0)) (⟨⟨Nat.zero_le _,Nat.zero_le _⟩,md3_new hev,by simp,by simp,by simp⟩) (by intro _;simp (disch := omega) only [seval,go_sem,cnd,intV,shV,convV,strV];rfl) (by intro _;simp (disch := omega) only [seval,go_sem,cnd,intV,shV,convV,strV];rfl) (by (first|refine leQL_spec ?_);(try simp only [seval,go_sem]);first|done) (by (first|refine leQH_spec ?_);(try simp only [seval,go_sem]);first|done) (fun z hI => ?_))
  all_goals
    obtain ⟨i, f, aa⟩ := z
    obtain ⟨⟨hk, h12⟩, hv, htt, ha1, ha2⟩ := hI
    simp only at hk h12 hv htt ha1 ha2
    have hin := fun (k : ByteArray) (w : Int) (hk : k.size ≤ 1000000000) => rinsr_calls (r := f) (k := k) (w := w) (a := aa) (c := c) (valid_b1 hv.1) (valid_b2 hv.1) hk hc
    simp only [dR] at hin
    by_cases hlt : i < l.length
    · obtain ⟨x, hx⟩ := get_lt hlt
      have hx' := get_map rowJr hx
      by_cases hi : i < 12
      · ((repeat' (first|((with_reducible refine isTriD ?_);first|((with_reducible refine isCallD ?_);first|((with_reducible refine LVcall (st := []) ?_);simp only [seval,go_sem,hx',rowJr];first|(refine CallL.c (hin _ _ ?_) ?_))|((with_reducible (first|(with_unfolding_all refine TriD.callX (dst := _) true [] [] (by simp only [seval,go_sem,hx',rowJr]) rfl (item3_x) ⟨by simp only [seval,go_sem,hx',rowJr];first|rfl,rfl⟩ (by decide) (fun _ => rfl) rfl rfl (fun _ => by first|rfl) (fun _ => by first|rfl) (fun t ht => ?_);(try dsimp only at ht))));refine LVs (st := []) ?_))|((with_reducible first|refine TriD.step (by simp only [seval,go_sem,hx',rowJr];rfl) ?_);refine LVs (st := []) ?_))|(with_reducible refine isDrawnN 6 ?_;refine Tri.mixedP 6 mix 16 rfl (.f 1 <| .f 2 <| .f 3 <| .f 7 <| .f 8 <| .r 4 <| .f 5 <| .a <| .b 0 (.a <| .b 6 (.a <| .b 9 (.f 10 <| .f 11 <| .f 12 <| .f 13 <| .a <| .b 14 (.f 15 <| .d) .e) .e) .e) <| .b 6 (.a <| .b 0 (.a <| .b 9 (.f 10 <| .f 11 <| .f 12 <| .f 13 <| .a <| .b 14 (.f 15 <| .d) .e) .e) .e) .e) (by kernel_rfl) ?_)|(with_reducible refine isAnyP ?_;first|refine AnyP.D ?_|refine AnyP.F (by simp only [seval,go_sem,List.getElem?_cons_succ,List.getElem?_cons_zero];rfl) (by first|(simp only [seval,go_sem,hx',rowJr];first|done)) (by first|(simp only [seval,go_sem,hx',rowJr];with_reducible rfl)|(simp (disch := omega) only [seval,go_sem,cnd,intV,shV,convV,strV,hx',rowJr];with_reducible rfl)) ?_|refine AnyP.R (by simp only [seval,go_sem,List.getElem?_cons_succ,List.getElem?_cons_zero];rfl) (by first|exact .inl (by simp only [seval,go_sem,hx',rowJr])) (by first|(simp only [seval,go_sem,hx',rowJr];with_reducible rfl)) ?_|refine AnyP.A ?_)|(with_reducible first|exact NextsP.E|refine NextsP.B (by simp only [seval,go_sem,List.getElem?_cons_succ,List.getElem?_cons_zero];rfl) ?_ ?_)|(with_reducible (first|refine TVq (st := []) ?_))|simp only [seval,go_sem,hx',rowJr]|(with_reducible refine oV_st (by simp (disch := omega) only [seval,go_sem,cnd,intV,shV,convV,strV,hx',rowJr];rfl) ?_))) <;> (try (first|((with_reducible show (_ : Nat) ≤ _);omega))))
        all_goals (try omega)
        all_goals (have hsm := hv.insert (c := c) htt ⟨ha1, ha2⟩ hi ht)
        all_goals (refine isNextM ((i + 1,(insR f t.1 t.2 c aa).1,(insR f t.1 t.2 c aa).2.1)) (by (first|refine leQL_spec ?_);(try simp only [seval,go_sem,dR]);first|((repeat' (with_reducible apply And.intro)) <;> first|rfl);first|done) (by (first|refine leQH_spec ?_);(try simp only [seval,go_sem,dR]);first|done) ?_ ?_ <;> (try (first|omega)))
        all_goals exact ⟨⟨by simp only; omega, by simp only; omega⟩, hsm⟩
      · ((repeat' (first | (with_reducible (first | refine TVq (st := []) ?_)) | simp only [seval, go_sem, hx', rowJr] | (with_reducible refine oV_st (by simp (disch := omega) only [seval, go_sem, cnd, intV, shV, convV, strV, hx', rowJr]; rfl) ?_))) <;> (try (fail)))
        (refine isRetX (f) ?_ ?_)
        · exact hv
        (with_reducible refine isRet ?_; refine RetV (rs := [.cell 6 50]) (by with_unfolding_all rfl) rfl ?_ <;> simp only [seval, go_sem, dR] <;> (repeat' (with_reducible apply And.intro)) <;> (try rfl))
    · ((repeat' (first | (with_reducible (first | refine TVq (st := []) ?_)) | simp only [seval, go_sem] | (with_reducible refine oV_st (by simp (disch := omega) only [seval, go_sem, cnd, intV, shV, convV, strV]; rfl) ?_))) <;> (try (fail)))
      (refine isRetX (f) ?_ ?_)
      · exact hv
      (with_reducible refine isRet ?_; refine RetV (rs := [.cell 6 50]) (by with_unfolding_all rfl) rfl ?_ <;> simp only [seval, go_sem, dR] <;> (repeat' (with_reducible apply And.intro)) <;> (try rfl))
theorem quantv_calls {r : Rk} {num : Int} (hv : validR r = 0) (h0 : r.total ≠ 0) (hn : 0 ≤ num) (hn2 : num ≤ 15) : ACalls Try.prog 47 [dR r, .sc (.int .i64 num), .sc (.int .i64 15)] (.tup [.sc (.string (qK r.levels (wantR r num 15))), .sc (.int .i64 0)]) [] := by
  have h := pquant_calls (r := r) (num := num) (den := 15) (valid_b1 hv) (valid_b2 hv)
  rw [show quantR r num 15 = (qK r.levels (wantR r num 15), 0) by unfold quantR; rw [if_neg (by simp [hv]), if_neg (by omega), if_neg h0]] at h
  exact h
theorem quantz_calls {r : Rk} {num : Int} (hv : validR r = 0) (h0 : r.total = 0) (hn : 0 ≤ num) (hn2 : num ≤ 15) : ACalls Try.prog 47 [dR r, .sc (.int .i64 num), .sc (.int .i64 15)] (.tup [.sc (.string ⟨#[]⟩), .sc (.int .i64 17)]) [] := by
  have h := pquant_calls (r := r) (num := num) (den := 15) (valid_b1 hv) (valid_b2 hv)
  rw [show quantR r num 15 = (⟨#[]⟩, 17) by unfold quantR; rw [if_neg (by simp [hv]), if_neg (by omega), if_pos h0]] at h
  exact h
set_option maxRecDepth 100000 in set_option maxHeartbeats 12800000 in
theorem ranksOrder_calls {size : Int} {l : List Int} {c : List Int} {a b num : Int} (hc : ∀ z ∈ c, 0 ≤ z ∧ z ≤ 255) : ACalls Try.prog 13 [.sc (.int .i64 size), .sl 1 (l.map rowJr), .sl 1 (c.map rowU), .sc (.int .i64 a), .sc (.int .i64 b), .sc (.int .i64 num)] (.sc (.bool true)) [] := by
  have hsh := short2_calls (c := c)
  by_cases h100 : c.length ≤ 100
  · rw [decide_eq_true h100] at hsh
    have hm3 := @made3_x size l c hc
    refine of_tri [] [13,27,29,33,36,39,48,54,59,88,97,102,139] Try.func13 rfl call13 rfl (by decide) (by decide) rfl rfl Try.ntmps13 (by simp (disch := omega) only [seval,go_sem,cnd,intV,shV,convV,strV,List.replicate,List.zip_nil_left,List.zip_cons_cons];rfl) (by simp (disch := omega) only [seval,go_sem,cnd,intV,shV,convV,strV,List.zip_nil_left,List.zip_cons_cons];rfl) ?_
    ((repeat' (first|(with_reducible (first|refine Tri.seq ?_|refine Tri.skip ?_|refine TriD.nil ?_|refine thenQ_n ?_|refine Tri.regionD (by simp only [List.map_cons,List.map_nil];rfl) ?_))|((with_reducible refine isTriD ?_);first|(with_reducible refine TriD.step (by simp only [seval,go_sem,dR];rfl) ?_)|((with_reducible refine isCallD ?_);first|((with_reducible (first|refine TriD.dE (by simp only [seval,go_sem,dR];rfl) (by simp only [seval,go_sem,dR];first|rfl) ?_));first|refine CallK.c [] (hsh) (by simp only [seval,go_sem,dR];rfl) ?_)|(with_reducible (first|(with_unfolding_all refine TriD.callX (dst := _) true [] [] (by simp only [seval,go_sem,dR]) rfl (hm3) ⟨by simp only [seval,go_sem,dR];first|done,rfl⟩ (by decide) (fun _ => rfl) rfl rfl (fun _ => by first|rfl) (fun _ => by first|rfl) (fun t ht => ?_);(try dsimp only at ht))|(with_unfolding_all refine TriD.callX (dst := _) true [] [] (by simp only [seval,go_sem,dR]) rfl (key3_x) ⟨by simp only [seval,go_sem,dR];first|rfl,rfl⟩ (by decide) (fun _ => rfl) rfl rfl (fun _ => by first|rfl) (fun _ => by first|rfl) (fun t ht => ?_);(try dsimp only at ht)))))|(with_reducible refine TriD.step (by simp (disch := omega) only [seval,go_sem,cnd,intV,shV,convV,strV,dR];rfl) ?_))|(with_reducible refine isCond ?_;with_reducible refine Tri.cond (by simp only [seval,go_sem,dR];rfl) (cvI ?_) (cvI ?_))|(with_reducible refine isCv ?_;intro hc;(try simp only [bls,reduceCtorEq] at hc);(try (exfalso;omega))))) <;> (try (fail)))
    · rename_i r hr y hy
      have hxy : leK t y := hc.1
      clear hc
      revert t
      intro x hx hxy
      have ok := validR_ok hr.1
      have hpq := rankL_mono hxy 0 r.levels
      have cx := rankv_calls (k := x) hr.1 (by omega)
      have cy := rankv_calls (k := y) hr.1 (by omega)
      have ct := rankv_calls (k := topK) hr.1 (by decide)
      have hpr := rankL_rng x 0 r.levels
      have hqr := rankL_rng y 0 r.levels
      rw [rank_top hr.1 (fun l hl z hz => by have := hr.2 l hl z hz; omega)] at ct
      rw [ok.wt] at hpr hqr
      have ht1 := ok.t1
      have ht2 := ok.t2
      have hn0 : 0 ≤ num % 16 ∧ num % 16 ≤ 15 := by omega
      by_cases h0 : r.total = 0
      · have cq := quantz_calls (num := num % 16) hr.1 h0 hn0.1 hn0.2
        simp only [dR, topK] at cx cy ct cq
        generalize rankL x 0 r.levels = p at *
        generalize rankL y 0 r.levels = q at *
        ((repeat' (first|(with_reducible (first|refine Tri.seq ?_|refine Tri.skip ?_|refine Tri.ret ?_|refine TriD.nil ?_|refine thenQ_n ?_|refine thenQ_r ?_|refine Tri.regionD (by simp only [List.map_cons,List.map_nil];rfl) ?_))|((with_reducible refine isTriD ?_);first|(with_reducible refine TriD.step (by simp only [seval,go_sem];rfl) ?_)|((with_reducible refine isCallD ?_);first|((with_reducible (first|refine TriD.dE (by simp only [seval,go_sem];rfl) (by simp only [seval,go_sem];first|rfl) ?_));first|refine CallK.c [] (cx) (by simp only [seval,go_sem];rfl) ?_|refine CallK.c [] (cy) (by simp only [seval,go_sem];rfl) ?_|refine CallK.c [] (ct) (by simp only [seval,go_sem];rfl) ?_|refine CallK.c [] (cq) (by simp only [seval,go_sem];rfl) ?_|refine CallK.c [] (knownr_calls) (by simp only [seval,go_sem];rfl) ?_))|(with_reducible refine TriD.step (by simp (disch := omega) only [seval,go_sem,cnd,intV,shV,convV,strV];rfl) ?_))|(with_reducible refine isCond ?_;with_reducible refine Tri.cond (by simp only [seval,go_sem];rfl) (cvI ?_) (cvI ?_))|(with_reducible refine isCv ?_;intro hc;(try simp only [bls,reduceCtorEq] at hc);(try (exfalso;omega)))|(with_reducible refine isRet ?_;refine RetOK.q rfl rfl (by simp only [seval,go_sem];rfl) (by decide) (by simp only [seval,go_sem];first|rfl) (by simp only [seval,go_sem];first|rfl) rfl ?_ <;> (try simp only [seval,go_sem]) <;> (repeat' (with_reducible apply And.intro)) <;> (try rfl)))) <;> (try (fail)))
        all_goals done
      · have cq := quantv_calls (num := num % 16) hr.1 h0 hn0.1 hn0.2
        obtain ⟨k1, k2, k3⟩ := quant_law (x := x) hr.1 h0 hn0.1 hn0.2
        have hP1 : 0 ≤ num % 16 * r.total := Int.mul_nonneg hn0.1 ht1
        have hP2 : num % 16 * r.total ≤ 15 * 1099511627776 := Int.mul_le_mul hn0.2 ht2 ht1 (by omega)
        generalize qK r.levels (wantR r (num % 16) 15) = kk at *
        have hks : 1 ≤ kk.size ∧ kk.size ≤ 32 := by simp only [keyOk, Bool.and_eq_true, decide_eq_true_eq] at k1; omega
        have ck := rankv_calls (k := kk) hr.1 hks
        have hkr := rankL_rng kk 0 r.levels
        rw [ok.wt] at hkr
        have hge := le_not kk.toList x.toList
        simp only [dR, topK] at cx cy ct cq ck
        generalize rankL x 0 r.levels = p at *
        generalize rankL y 0 r.levels = q at *
        generalize rankL kk 0 r.levels = v at *
        generalize hPe : num % 16 * r.total = P at *
        cases hb : Op.bytesLess x.toList kk.toList with
        | false =>
          rw [hb] at hge
          (all_goals (try have hZ := (And.intro hPe (And.intro hge hb)));(repeat' (first|(with_reducible (first|refine Tri.seq ?_|refine Tri.skip ?_|refine Tri.ret ?_|refine TriD.nil ?_|refine thenQ_n ?_|refine Tri.regionD (by simp only [List.map_cons,List.map_nil];rfl) ?_))|((with_reducible refine isTriD ?_);first|(with_reducible refine TriD.step (by simp only [seval,go_sem,Bool.not_false,hZ];rfl) ?_)|((with_reducible refine isCallD ?_);first|((with_reducible (first|refine TriD.dE (by simp only [seval,go_sem,Bool.not_false,hZ];rfl) (by simp only [seval,go_sem,Bool.not_false,hZ];first|rfl) ?_));first|refine CallK.c [] (cx) (by simp only [seval,go_sem,Bool.not_false,hZ];rfl) ?_|refine CallK.c [] (cy) (by simp only [seval,go_sem,Bool.not_false,hZ];rfl) ?_|refine CallK.c [] (ct) (by simp only [seval,go_sem,Bool.not_false,hZ];rfl) ?_|refine CallK.c [] (cq) (by simp only [seval,go_sem,Bool.not_false,hZ];rfl) ?_|refine CallK.c [] (ck) (by simp only [seval,go_sem,Bool.not_false,hZ];rfl) ?_|refine CallK.c [] (knownr_calls) (by simp only [seval,go_sem,Bool.not_false,hZ];rfl) ?_))|(with_reducible refine TriD.step (by simp (disch := omega) only [seval,go_sem,cnd,intV,shV,convV,strV,Bool.not_false,hZ];rfl) ?_))|(with_reducible refine isCond ?_;with_reducible refine Tri.cond (by simp only [seval,go_sem,Bool.not_false,hZ];rfl) (cvI ?_) (cvI ?_))|(with_reducible refine isCv ?_;intro hc;(try simp only [bls,reduceCtorEq] at hc);(try (exfalso;omega)))|(with_reducible refine isRet ?_;refine RetOK.q rfl rfl (by simp only [seval,go_sem];rfl) (by decide) (by simp only [seval,go_sem];first|rfl) (by simp only [seval,go_sem];first|rfl) rfl ?_ <;> (try simp only [seval,go_sem]) <;> (repeat' (with_reducible apply And.intro)) <;> (try rfl)))) <;> (try (fail));all_goals (try clear hZ))
          all_goals done
        | true =>
          rw [hb] at hge
          rcases k3 hb with k4 | k4
          · (all_goals (try have hZ := (And.intro hPe (And.intro hge hb)));(repeat' (first|(with_reducible (first|refine Tri.seq ?_|refine Tri.skip ?_|refine Tri.ret ?_|refine TriD.nil ?_|refine thenQ_n ?_|refine Tri.regionD (by simp only [List.map_cons,List.map_nil];rfl) ?_))|((with_reducible refine isTriD ?_);first|(with_reducible refine TriD.step (by simp only [seval,go_sem,Bool.not_true,hZ];rfl) ?_)|((with_reducible refine isCallD ?_);first|((with_reducible (first|refine TriD.dE (by simp only [seval,go_sem,Bool.not_true,hZ];rfl) (by simp only [seval,go_sem,Bool.not_true,hZ];first|rfl) ?_));first|refine CallK.c [] (cx) (by simp only [seval,go_sem,Bool.not_true,hZ];rfl) ?_|refine CallK.c [] (cy) (by simp only [seval,go_sem,Bool.not_true,hZ];rfl) ?_|refine CallK.c [] (ct) (by simp only [seval,go_sem,Bool.not_true,hZ];rfl) ?_|refine CallK.c [] (cq) (by simp only [seval,go_sem,Bool.not_true,hZ];rfl) ?_|refine CallK.c [] (ck) (by simp only [seval,go_sem,Bool.not_true,hZ];rfl) ?_|refine CallK.c [] (knownr_calls) (by simp only [seval,go_sem,Bool.not_true,hZ];rfl) ?_))|(with_reducible refine TriD.step (by simp (disch := omega) only [seval,go_sem,cnd,intV,shV,convV,strV,Bool.not_true,hZ];rfl) ?_))|(with_reducible refine isCond ?_;with_reducible refine Tri.cond (by simp only [seval,go_sem,Bool.not_true,hZ];rfl) (cvI ?_) (cvI ?_))|(with_reducible refine isCv ?_;intro hc;(try simp only [bls,reduceCtorEq] at hc);(try (exfalso;omega)))|(with_reducible refine isRet ?_;refine RetOK.q rfl rfl (by simp only [seval,go_sem];rfl) (by decide) (by simp only [seval,go_sem];first|rfl) (by simp only [seval,go_sem];first|rfl) rfl ?_ <;> (try simp only [seval,go_sem]) <;> (repeat' (with_reducible apply And.intro)) <;> (try rfl)))) <;> (try (fail));all_goals (try clear hZ))
            all_goals done
          · (all_goals (try have hZ := (And.intro hPe (And.intro hge hb)));(repeat' (first|(with_reducible (first|refine Tri.seq ?_|refine Tri.skip ?_|refine Tri.ret ?_|refine TriD.nil ?_|refine thenQ_n ?_|refine Tri.regionD (by simp only [List.map_cons,List.map_nil];rfl) ?_))|((with_reducible refine isTriD ?_);first|(with_reducible refine TriD.step (by simp only [seval,go_sem,Bool.not_true,hZ];rfl) ?_)|((with_reducible refine isCallD ?_);first|((with_reducible (first|refine TriD.dE (by simp only [seval,go_sem,Bool.not_true,hZ];rfl) (by simp only [seval,go_sem,Bool.not_true,hZ];first|rfl) ?_));first|refine CallK.c [] (cx) (by simp only [seval,go_sem,Bool.not_true,hZ];rfl) ?_|refine CallK.c [] (cy) (by simp only [seval,go_sem,Bool.not_true,hZ];rfl) ?_|refine CallK.c [] (ct) (by simp only [seval,go_sem,Bool.not_true,hZ];rfl) ?_|refine CallK.c [] (cq) (by simp only [seval,go_sem,Bool.not_true,hZ];rfl) ?_|refine CallK.c [] (ck) (by simp only [seval,go_sem,Bool.not_true,hZ];rfl) ?_|refine CallK.c [] (knownr_calls) (by simp only [seval,go_sem,Bool.not_true,hZ];rfl) ?_))|(with_reducible refine TriD.step (by simp (disch := omega) only [seval,go_sem,cnd,intV,shV,convV,strV,Bool.not_true,hZ];rfl) ?_)|(with_reducible refine TriD.byGuard (by simp only [seval,go_sem,Bool.not_true,hZ];rfl) (by simp only [seval,go_sem,Bool.not_true,hZ];rfl) (by (fail_if_success (with_reducible exact nlT));(fail_if_success (with_reducible exact nlF));exact nlI) (cvI ?_) (cvI ?_)))|(with_reducible refine isCond ?_;with_reducible refine Tri.cond (by simp only [seval,go_sem,Bool.not_true,hZ];rfl) (cvI ?_) (cvI ?_))|(with_reducible refine isCv ?_;intro hc;(try simp only [bls,reduceCtorEq] at hc);(try (exfalso;omega)))|(with_reducible refine isRet ?_;refine RetOK.q rfl rfl (by simp only [seval,go_sem];rfl) (by decide) (by simp only [seval,go_sem];first|rfl) (by simp only [seval,go_sem];first|rfl) rfl ?_ <;> (try simp only [seval,go_sem]) <;> (repeat' (with_reducible apply And.intro)) <;> (try rfl)))) <;> (try (fail));all_goals (try clear hZ))
            all_goals done
    · rename_i r hr x hx
      have hxy : leK x t := hc.elim (fun h => leK_of h) (fun h => by rw [leK, h]; exact bl_irrefl _)
      clear hc
      revert t
      intro y hy hxy
      have ok := validR_ok hr.1
      have hpq := rankL_mono hxy 0 r.levels
      have cx := rankv_calls (k := x) hr.1 (by omega)
      have cy := rankv_calls (k := y) hr.1 (by omega)
      have ct := rankv_calls (k := topK) hr.1 (by decide)
      have hpr := rankL_rng x 0 r.levels
      have hqr := rankL_rng y 0 r.levels
      rw [rank_top hr.1 (fun l hl z hz => by have := hr.2 l hl z hz; omega)] at ct
      rw [ok.wt] at hpr hqr
      have ht1 := ok.t1
      have ht2 := ok.t2
      have hn0 : 0 ≤ num % 16 ∧ num % 16 ≤ 15 := by omega
      by_cases h0 : r.total = 0
      · have cq := quantz_calls (num := num % 16) hr.1 h0 hn0.1 hn0.2
        simp only [dR, topK] at cx cy ct cq
        generalize rankL x 0 r.levels = p at *
        generalize rankL y 0 r.levels = q at *
        ((repeat' (first|(with_reducible (first|refine Tri.seq ?_|refine Tri.skip ?_|refine Tri.ret ?_|refine TriD.nil ?_|refine thenQ_n ?_|refine thenQ_r ?_|refine Tri.regionD (by simp only [List.map_cons,List.map_nil];rfl) ?_))|((with_reducible refine isTriD ?_);first|(with_reducible refine TriD.step (by simp only [seval,go_sem];rfl) ?_)|((with_reducible refine isCallD ?_);first|((with_reducible (first|refine TriD.dE (by simp only [seval,go_sem];rfl) (by simp only [seval,go_sem];first|rfl) ?_));first|refine CallK.c [] (cx) (by simp only [seval,go_sem];rfl) ?_|refine CallK.c [] (cy) (by simp only [seval,go_sem];rfl) ?_|refine CallK.c [] (ct) (by simp only [seval,go_sem];rfl) ?_|refine CallK.c [] (cq) (by simp only [seval,go_sem];rfl) ?_|refine CallK.c [] (knownr_calls) (by simp only [seval,go_sem];rfl) ?_))|(with_reducible refine TriD.step (by simp (disch := omega) only [seval,go_sem,cnd,intV,shV,convV,strV];rfl) ?_))|(with_reducible refine isCond ?_;with_reducible refine Tri.cond (by simp only [seval,go_sem];rfl) (cvI ?_) (cvI ?_))|(with_reducible refine isCv ?_;intro hc;(try simp only [bls,reduceCtorEq] at hc);(try (exfalso;omega)))|(with_reducible refine isRet ?_;refine RetOK.q rfl rfl (by simp only [seval,go_sem];rfl) (by decide) (by simp only [seval,go_sem];first|rfl) (by simp only [seval,go_sem];first|rfl) rfl ?_ <;> (try simp only [seval,go_sem]) <;> (repeat' (with_reducible apply And.intro)) <;> (try rfl)))) <;> (try (fail)))
        all_goals done
      · have cq := quantv_calls (num := num % 16) hr.1 h0 hn0.1 hn0.2
        obtain ⟨k1, k2, k3⟩ := quant_law (x := x) hr.1 h0 hn0.1 hn0.2
        have hP1 : 0 ≤ num % 16 * r.total := Int.mul_nonneg hn0.1 ht1
        have hP2 : num % 16 * r.total ≤ 15 * 1099511627776 := Int.mul_le_mul hn0.2 ht2 ht1 (by omega)
        generalize qK r.levels (wantR r (num % 16) 15) = kk at *
        have hks : 1 ≤ kk.size ∧ kk.size ≤ 32 := by simp only [keyOk, Bool.and_eq_true, decide_eq_true_eq] at k1; omega
        have ck := rankv_calls (k := kk) hr.1 hks
        have hkr := rankL_rng kk 0 r.levels
        rw [ok.wt] at hkr
        have hge := le_not kk.toList x.toList
        simp only [dR, topK] at cx cy ct cq ck
        generalize rankL x 0 r.levels = p at *
        generalize rankL y 0 r.levels = q at *
        generalize rankL kk 0 r.levels = v at *
        generalize hPe : num % 16 * r.total = P at *
        cases hb : Op.bytesLess x.toList kk.toList with
        | false =>
          rw [hb] at hge
          (all_goals (try have hZ := (And.intro hPe (And.intro hge hb)));(repeat' (first|(with_reducible (first|refine Tri.seq ?_|refine Tri.skip ?_|refine Tri.ret ?_|refine TriD.nil ?_|refine thenQ_n ?_|refine Tri.regionD (by simp only [List.map_cons,List.map_nil];rfl) ?_))|((with_reducible refine isTriD ?_);first|(with_reducible refine TriD.step (by simp only [seval,go_sem,Bool.not_false,hZ];rfl) ?_)|((with_reducible refine isCallD ?_);first|((with_reducible (first|refine TriD.dE (by simp only [seval,go_sem,Bool.not_false,hZ];rfl) (by simp only [seval,go_sem,Bool.not_false,hZ];first|rfl) ?_));first|refine CallK.c [] (cx) (by simp only [seval,go_sem,Bool.not_false,hZ];rfl) ?_|refine CallK.c [] (cy) (by simp only [seval,go_sem,Bool.not_false,hZ];rfl) ?_|refine CallK.c [] (ct) (by simp only [seval,go_sem,Bool.not_false,hZ];rfl) ?_|refine CallK.c [] (cq) (by simp only [seval,go_sem,Bool.not_false,hZ];rfl) ?_|refine CallK.c [] (ck) (by simp only [seval,go_sem,Bool.not_false,hZ];rfl) ?_|refine CallK.c [] (knownr_calls) (by simp only [seval,go_sem,Bool.not_false,hZ];rfl) ?_))|(with_reducible refine TriD.step (by simp (disch := omega) only [seval,go_sem,cnd,intV,shV,convV,strV,Bool.not_false,hZ];rfl) ?_))|(with_reducible refine isCond ?_;with_reducible refine Tri.cond (by simp only [seval,go_sem,Bool.not_false,hZ];rfl) (cvI ?_) (cvI ?_))|(with_reducible refine isCv ?_;intro hc;(try simp only [bls,reduceCtorEq] at hc);(try (exfalso;omega)))|(with_reducible refine isRet ?_;refine RetOK.q rfl rfl (by simp only [seval,go_sem];rfl) (by decide) (by simp only [seval,go_sem];first|rfl) (by simp only [seval,go_sem];first|rfl) rfl ?_ <;> (try simp only [seval,go_sem]) <;> (repeat' (with_reducible apply And.intro)) <;> (try rfl)))) <;> (try (fail));all_goals (try clear hZ))
          all_goals done
        | true =>
          rw [hb] at hge
          rcases k3 hb with k4 | k4
          · (all_goals (try have hZ := (And.intro hPe (And.intro hge hb)));(repeat' (first|(with_reducible (first|refine Tri.seq ?_|refine Tri.skip ?_|refine Tri.ret ?_|refine TriD.nil ?_|refine thenQ_n ?_|refine Tri.regionD (by simp only [List.map_cons,List.map_nil];rfl) ?_))|((with_reducible refine isTriD ?_);first|(with_reducible refine TriD.step (by simp only [seval,go_sem,Bool.not_true,hZ];rfl) ?_)|((with_reducible refine isCallD ?_);first|((with_reducible (first|refine TriD.dE (by simp only [seval,go_sem,Bool.not_true,hZ];rfl) (by simp only [seval,go_sem,Bool.not_true,hZ];first|rfl) ?_));first|refine CallK.c [] (cx) (by simp only [seval,go_sem,Bool.not_true,hZ];rfl) ?_|refine CallK.c [] (cy) (by simp only [seval,go_sem,Bool.not_true,hZ];rfl) ?_|refine CallK.c [] (ct) (by simp only [seval,go_sem,Bool.not_true,hZ];rfl) ?_|refine CallK.c [] (cq) (by simp only [seval,go_sem,Bool.not_true,hZ];rfl) ?_|refine CallK.c [] (ck) (by simp only [seval,go_sem,Bool.not_true,hZ];rfl) ?_|refine CallK.c [] (knownr_calls) (by simp only [seval,go_sem,Bool.not_true,hZ];rfl) ?_))|(with_reducible refine TriD.step (by simp (disch := omega) only [seval,go_sem,cnd,intV,shV,convV,strV,Bool.not_true,hZ];rfl) ?_))|(with_reducible refine isCond ?_;with_reducible refine Tri.cond (by simp only [seval,go_sem,Bool.not_true,hZ];rfl) (cvI ?_) (cvI ?_))|(with_reducible refine isCv ?_;intro hc;(try simp only [bls,reduceCtorEq] at hc);(try (exfalso;omega)))|(with_reducible refine isRet ?_;refine RetOK.q rfl rfl (by simp only [seval,go_sem];rfl) (by decide) (by simp only [seval,go_sem];first|rfl) (by simp only [seval,go_sem];first|rfl) rfl ?_ <;> (try simp only [seval,go_sem]) <;> (repeat' (with_reducible apply And.intro)) <;> (try rfl)))) <;> (try (fail));all_goals (try clear hZ))
            all_goals done
          · (all_goals (try have hZ := (And.intro hPe (And.intro hge hb)));(repeat' (first|(with_reducible (first|refine Tri.seq ?_|refine Tri.skip ?_|refine Tri.ret ?_|refine TriD.nil ?_|refine thenQ_n ?_|refine Tri.regionD (by simp only [List.map_cons,List.map_nil];rfl) ?_))|((with_reducible refine isTriD ?_);first|(with_reducible refine TriD.step (by simp only [seval,go_sem,Bool.not_true,hZ];rfl) ?_)|((with_reducible refine isCallD ?_);first|((with_reducible (first|refine TriD.dE (by simp only [seval,go_sem,Bool.not_true,hZ];rfl) (by simp only [seval,go_sem,Bool.not_true,hZ];first|rfl) ?_));first|refine CallK.c [] (cx) (by simp only [seval,go_sem,Bool.not_true,hZ];rfl) ?_|refine CallK.c [] (cy) (by simp only [seval,go_sem,Bool.not_true,hZ];rfl) ?_|refine CallK.c [] (ct) (by simp only [seval,go_sem,Bool.not_true,hZ];rfl) ?_|refine CallK.c [] (cq) (by simp only [seval,go_sem,Bool.not_true,hZ];rfl) ?_|refine CallK.c [] (ck) (by simp only [seval,go_sem,Bool.not_true,hZ];rfl) ?_|refine CallK.c [] (knownr_calls) (by simp only [seval,go_sem,Bool.not_true,hZ];rfl) ?_))|(with_reducible refine TriD.step (by simp (disch := omega) only [seval,go_sem,cnd,intV,shV,convV,strV,Bool.not_true,hZ];rfl) ?_)|(with_reducible refine TriD.byGuard (by simp only [seval,go_sem,Bool.not_true,hZ];rfl) (by simp only [seval,go_sem,Bool.not_true,hZ];rfl) (by (fail_if_success (with_reducible exact nlT));(fail_if_success (with_reducible exact nlF));exact nlI) (cvI ?_) (cvI ?_)))|(with_reducible refine isCond ?_;with_reducible refine Tri.cond (by simp only [seval,go_sem,Bool.not_true,hZ];rfl) (cvI ?_) (cvI ?_))|(with_reducible refine isCv ?_;intro hc;(try simp only [bls,reduceCtorEq] at hc);(try (exfalso;omega)))|(with_reducible refine isRet ?_;refine RetOK.q rfl rfl (by simp only [seval,go_sem];rfl) (by decide) (by simp only [seval,go_sem];first|rfl) (by simp only [seval,go_sem];first|rfl) rfl ?_ <;> (try simp only [seval,go_sem]) <;> (repeat' (with_reducible apply And.intro)) <;> (try rfl)))) <;> (try (fail));all_goals (try clear hZ))
            all_goals done
  · rw [decide_eq_false h100] at hsh
    refine of_tri [] [13,27,29,33,36,39,48,54,59,88,97,102,139] Try.func13 rfl call13 rfl (by decide) (by decide) rfl rfl Try.ntmps13 (by simp (disch := omega) only [seval,go_sem,cnd,intV,shV,convV,strV,List.replicate,List.zip_nil_left,List.zip_cons_cons];rfl) (by simp (disch := omega) only [seval,go_sem,cnd,intV,shV,convV,strV,List.zip_nil_left,List.zip_cons_cons];rfl) ?_
    ((repeat' (first|(with_reducible (first|refine Tri.seq ?_|refine Tri.ret ?_|refine TriD.nil ?_|refine thenQ_n ?_|refine thenQ_r ?_|refine Tri.regionD (by simp only [List.map_cons,List.map_nil];rfl) ?_))|((with_reducible refine isTriD ?_);first|(with_reducible refine TriD.step (by simp only [seval,go_sem];rfl) ?_)|((with_reducible refine isCallD ?_);first|((with_reducible (first|refine TriD.dE (by simp only [seval,go_sem];rfl) (by simp only [seval,go_sem];first|rfl) ?_));first|refine CallK.c [] (hsh) (by simp only [seval,go_sem];rfl) ?_|refine CallK.c [] (knownr_calls) (by simp only [seval,go_sem];rfl) ?_)))|(with_reducible refine isCond ?_;with_reducible refine Tri.cond (by simp only [seval,go_sem];rfl) (cvI ?_) (cvI ?_))|(with_reducible refine isCv ?_;intro hc;(try simp only [bls,reduceCtorEq] at hc);(try (exfalso;omega)))|(with_reducible refine isRet ?_;refine RetOK.q rfl rfl (by simp only [seval,go_sem];rfl) (by decide) (by simp only [seval,go_sem];first|rfl) (by simp only [seval,go_sem];first|rfl) rfl ?_ <;> (try simp only [seval,go_sem]) <;> (repeat' (with_reducible apply And.intro)) <;> (try rfl)))) <;> (try (fail)))
    all_goals done
end Go.Proofs.Ytnckgbmifigadaa
