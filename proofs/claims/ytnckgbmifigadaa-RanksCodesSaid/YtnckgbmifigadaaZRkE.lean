/- Ranks: the reference's sorted, Bit and settle walked. -/
import Derived.Test.YtnckgbmifigadaaZRkD
import Derived.Test.YtnckgbmifigadaaZRkA
set_option linter.unusedSimpArgs false
set_option linter.unusedVariables false
namespace Go.Proofs.Ytnckgbmifigadaa
open Go.RowKit Go.Avm
set_option maxRecDepth 100000 in set_option maxHeartbeats 6400000 in
theorem rsorted_calls {l : List ByteArray} (hl : l.length ≤ 100000) : ACalls Try.prog 112 [.sl 1 (l.map rowKr)] (.sl 1 ((sortK l).map rowKr)) [] := by
  rw [← insK_eq]
  refine of_tri [] [17,18] Try.func112 rfl call112 rfl (by decide) (by decide) rfl rfl Try.ntmps112 (by simp (disch := omega) only [seval,go_sem,cnd,intV,shV,convV,strV,List.replicate,List.zip_nil_left,List.zip_cons_cons];rfl) (by simp (disch := omega) only [seval,go_sem,cnd,intV,shV,convV,strV,List.zip_nil_left,List.zip_cons_cons];rfl) ?_
  ((repeat' (first | (with_reducible (first | refine TVq (st := []) ?_)) | simp only [seval, go_sem])) <;> (try (fail)))
  (refine Tri.virt 3 18 1 (by first | (simp only [seval, go_sem]; first | done)) (by first | (simp only [seval, go_sem]; first | done)) (by simp only [seval, go_sem]; rfl) ?_)
  (with_reducible refine Tri.loopU (fun (t : Nat × List ByteArray) => [(4,.sc (.int .i64 t.1)),(3,.slo 18 1 0 t.2.length),(5,.any),(6,.any),(7,.any),(8,.any),(9,.any),(10,.any),(11,.any),(12,.any),(13,.any),(14,.any),(15,.any),(16,.any),(17,.any),(18,.any),(19,.any),(20,.any),(21,.any),(22,.any),(23,.any),(24,.any),(25,.any),(26,.any),(27,.any),(28,.any),(29,.any),(30,.any),(31,.any),(32,.any),(33,.any),(34,.any),(35,.any),(36,.any),(37,.any),(38,.any),(39,.any),(40,.any),(41,.any),(42,.any),(43,.any),(44,.any),(45,.any),(46,.any),(47,.any),(48,.any),(49,.any),(50,.any),(51,.any),(52,.any),(53,.any)]) (fun (t : Nat × List ByteArray) => [(18,.row 1 (t.2.map rowKr)),(17,.dead)]) (fun (t : Nat × List ByteArray) => t.1 ≤ l.length ∧ t.2.length = t.1 ∧ insK t.2 (l.drop t.1) = insK [] l) (fun (t : Nat × List ByteArray) => l.length - t.1) ((0,[])) (⟨Nat.zero_le _,rfl,rfl⟩) (by intro _;simp (disch := omega) only [seval,go_sem,cnd,intV,shV,convV,strV];rfl) (by intro _;simp (disch := omega) only [seval,go_sem,cnd,intV,shV,convV,strV];rfl) (by (first|refine leQL_spec ?_);(try simp only [seval,go_sem]);first|done) (by (first|refine leQH_spec ?_);(try simp only [seval,go_sem]);first|done) (fun t hI => ?_))
  obtain ⟨i, out⟩ := t
  obtain ⟨hi, ho, hf⟩ := hI
  simp only at hi ho hf
  by_cases hlt : i < l.length
  · obtain ⟨v, hv⟩ := get_lt hlt
    have hv' := get_map rowKr hv
    rw [drop_get hv, insK] at hf
    have e0 : ((out.length + (0 + 1) : Nat) : Int) - 1 = (out.length : Nat) := by omega
    ((repeat' (first|(with_reducible (first|refine TVq (st := []) ?_))|simp only [seval,go_sem,hv',e0,rowKr,List.length_append,List.length_map,List.length_cons,List.length_nil]|(with_reducible refine oV_st (by simp (disch := omega) only [seval,go_sem,cnd,intV,shV,convV,strV,hv',e0,rowKr,List.length_append,List.length_map,List.length_cons,List.length_nil];rfl) ?_))) <;> (try (fail)))
    all_goals (with_reducible refine Tri.loopU (fun (u : Nat × List ByteArray) => [(5,.sc (.int .i64 u.1)),(22,.any),(23,.any),(24,.any),(25,.any),(26,.any),(27,.any),(28,.any),(29,.any),(30,.any),(31,.any),(32,.any),(33,.any),(34,.any),(35,.any),(36,.any),(37,.any),(38,.any),(39,.any),(40,.any),(41,.any),(42,.any),(43,.any),(44,.any),(45,.any),(46,.any),(47,.any),(48,.any),(49,.any),(50,.any),(51,.any),(52,.any),(53,.any)]) (fun (u : Nat × List ByteArray) => [(18,.row 1 (u.2.map rowKr))]) (fun (u : Nat × List ByteArray) => u.1 ≤ out.length ∧ u.2.length = out.length + 1 ∧ bubK u.2 u.1 = bubK (out ++ [v]) out.length) (fun (u : Nat × List ByteArray) => u.1) ((out.length,out ++ [v])) (⟨Nat.le_refl _,by simp,rfl⟩) (by intro _;simp (disch := omega) only [seval,go_sem,cnd,intV,shV,convV,strV];rfl) (by intro _;simp (disch := omega) only [seval,go_sem,cnd,intV,shV,convV,strV];rfl) (by (first|refine leQL_spec ?_);(try simp only [seval,go_sem,rowKr]);first|done) (by (first|refine leQH_spec ?_);(try simp only [seval,go_sem,rowKr]);first|((repeat' (with_reducible apply And.intro)) <;> first|(simp [rowKr];done));first|done) (fun u hI => ?_))
    all_goals
      obtain ⟨k, cur⟩ := u
      obtain ⟨hk, hc, hb⟩ := hI
      simp only at hk hc hb
      cases k with
      | zero =>
        simp only [bubK] at hb
        subst hb
        ((repeat' (first|(with_reducible refine ListD.nil ?_)|((with_reducible refine isListD ?_);first|(with_reducible refine ListD.step (by simp only [seval,go_sem];rfl) ?_)|(with_reducible refine ListD.step (by simp (disch := omega) only [seval,go_sem,cnd,intV,shV,convV,strV];rfl) ?_))|(with_reducible refine isDrawn ?_;refine Tri.drawnD mix (by kernel_rfl) (by simp only [List.map_cons,List.map_nil];rfl) ?_)|(with_reducible (first|refine TVq (st := []) ?_))|simp only [seval,go_sem]|(with_reducible refine oV_st (by simp (disch := omega) only [seval,go_sem,cnd,intV,shV,convV,strV];rfl) ?_))) <;> (try (fail)))
        all_goals (try (refine isNextM ((i + 1,bubK (out ++ [v]) out.length)) (by (first|refine leQL_spec ?_);(try simp only [seval,go_sem,rowKr,bubK_len]);first|((repeat' (with_reducible apply And.intro)) <;> first|rfl|(simp [rowKr,bubK_len];done));first|done) (by (first|refine leQH_spec ?_);(try simp only [seval,go_sem,rowKr,bubK_len]);first|done) ?_ ?_ <;> (try (first|omega))))
        all_goals (try (exact ⟨by simp only; omega, by simp only [bubK_len, List.length_append, List.length_cons, List.length_nil]; omega, hf⟩))
      | succ j =>
        obtain ⟨y, hy⟩ := get_lt (show j < cur.length by omega)
        obtain ⟨x, hx⟩ := get_lt (show j + 1 < cur.length by omega)
        have hy' := get_map rowKr hy
        have hx' := get_map rowKr hx
        have e1 : ((j + 1 : Nat) : Int) - 1 = (j : Nat) := by omega
        cases hbe : Op.bytesLess x.toList y.toList with
        | true =>
          rw [bubK_yes hx hy hbe] at hb
          have hs2 : ∀ r, ((cur.map rowKr).set (j + 1) r)[j]? = some (rowKr y) := fun r => by rw [List.getElem?_set_ne (by omega)]; exact hy'
          (all_goals (try have hZ := (And.intro hx' (And.intro hy' (And.intro hbe hs2))));(repeat' (first|((with_reducible refine isTriD ?_);first|((with_reducible first|refine TriD.step (by simp only [seval,go_sem,e1,Int.toNat_natCast,rowKr,hZ];rfl) ?_);refine LVs (st := []) ?_))|(with_reducible refine ListD.nil ?_)|((with_reducible refine isListD ?_);first|(with_reducible refine ListD.step (by simp only [seval,go_sem,e1,Int.toNat_natCast,rowKr,hZ];rfl) ?_)|(with_reducible refine ListD.step (by simp (disch := omega) only [seval,go_sem,cnd,intV,shV,convV,strV,e1,Int.toNat_natCast,rowKr,hZ];rfl) ?_))|(with_reducible refine isDrawnN 9 ?_;refine Tri.mixedP 9 mix 18 rfl (.f 0 <| .f 1 <| .f 2 <| .f 3 <| .f 4 <| .f 5 <| .f 6 <| .f 7 <| .f 8 <| .f 10 <| .f 11 <| .f 12 <| .a <| .b 9 (.a <| .b 13 (.f 14 <| .a <| .b 15 (.f 16 <| .a <| .b 17 (.d) .e) .e) .e) <| .b 13 (.a <| .b 9 (.f 14 <| .a <| .b 15 (.f 16 <| .a <| .b 17 (.d) .e) .e) .e) .e) (by kernel_rfl) ?_)|(with_reducible refine isAnyP ?_;first|refine AnyP.D ?_|refine AnyP.F (by simp only [seval,go_sem,List.getElem?_cons_succ,List.getElem?_cons_zero];rfl) (by first|(simp only [seval,go_sem,e1,Int.toNat_natCast,rowKr,hZ];first|done)) (by first|(simp only [seval,go_sem,e1,Int.toNat_natCast,rowKr,hZ];with_reducible rfl)|(simp (disch := omega) only [seval,go_sem,cnd,intV,shV,convV,strV,e1,Int.toNat_natCast,rowKr,hZ];with_reducible rfl)) ?_|refine AnyP.A ?_)|(with_reducible first|exact NextsP.E|refine NextsP.B (by simp only [seval,go_sem,List.getElem?_cons_succ,List.getElem?_cons_zero];rfl) ?_ ?_)|(with_reducible refine isDrawn ?_;refine Tri.drawnD mix (by kernel_rfl) (by simp only [List.map_cons,List.map_nil];rfl) ?_)|(with_reducible (first|refine TVq (st := []) ?_))|simp only [seval,go_sem,e1,Int.toNat_natCast,rowKr,hZ]|(with_reducible refine oV_st (by simp (disch := omega) only [seval,go_sem,cnd,intV,shV,convV,strV,e1,Int.toNat_natCast,rowKr,hZ];rfl) ?_))) <;> (try (fail));all_goals (try clear hZ))
          all_goals (try (refine isNextM ((j, (cur.set (j + 1) y).set j x)) (by (first | refine leQL_spec ?_); (try simp only [seval, go_sem, rowKr]); first | done) (by (first | refine leQH_spec ?_); (try simp only [seval, go_sem, rowKr]); first | done) ?_ ?_ <;> (try (first | omega))))
          all_goals (try (exact ⟨by simp only; omega, by simp only [List.length_set]; omega, hb⟩))
        | false =>
          rw [bubK_no hx hy hbe] at hb
          subst hb
          (all_goals (try have hZ := (And.intro hx' (And.intro hy' hbe)));(repeat' (first|(with_reducible refine ListD.nil ?_)|((with_reducible refine isListD ?_);first|(with_reducible refine ListD.step (by simp only [seval,go_sem,e1,Int.toNat_natCast,rowKr,hZ];rfl) ?_)|(with_reducible refine ListD.step (by simp (disch := omega) only [seval,go_sem,cnd,intV,shV,convV,strV,e1,Int.toNat_natCast,rowKr,hZ];rfl) ?_))|(with_reducible refine isDrawn ?_;refine Tri.drawnD mix (by kernel_rfl) (by simp only [List.map_cons,List.map_nil];rfl) ?_)|(with_reducible (first|refine TVq (st := []) ?_))|simp only [seval,go_sem,e1,Int.toNat_natCast,rowKr,hZ]|(with_reducible refine oV_st (by simp (disch := omega) only [seval,go_sem,cnd,intV,shV,convV,strV,e1,Int.toNat_natCast,rowKr,hZ];rfl) ?_))) <;> (try (fail));all_goals (try clear hZ))
          all_goals (try (refine isNextM ((i + 1,bubK (out ++ [v]) out.length)) (by (first|refine leQL_spec ?_);(try simp only [seval,go_sem,rowKr,bubK_len]);first|((repeat' (with_reducible apply And.intro)) <;> first|rfl|(simp [rowKr,bubK_len];done));first|done) (by (first|refine leQH_spec ?_);(try simp only [seval,go_sem,rowKr,bubK_len]);first|done) ?_ ?_ <;> (try (first|omega))))
          all_goals (try (exact ⟨by simp only; omega, by simp only [bubK_len, List.length_append, List.length_cons, List.length_nil]; omega, hf⟩))
  · have e : insK [] l = out := by rw [← hf, List.drop_eq_nil_of_le (by omega)]; simp [insK]
    rw [e]
    ((repeat' (first|(with_reducible refine isRet ?_;(refine RetOK.frz 18 (by simp only [seval,go_sem];rfl) (by simp only [seval,go_sem];rfl) ?_);(with_reducible refine isRet ?_;refine RetOK.q rfl rfl (by simp only [seval,go_sem];rfl) (by decide) (by simp only [seval,go_sem];first|rfl) (by simp only [seval,go_sem];first|rfl) rfl ?_ <;> (try simp only [seval,go_sem]) <;> (repeat' (with_reducible apply And.intro)) <;> (try rfl)))|(with_reducible (first|refine TVq (st := []) ?_))|simp only [seval,go_sem]|(with_reducible refine oV_st (by simp (disch := omega) only [seval,go_sem,cnd,intV,shV,convV,strV];rfl) ?_))) <;> (try (fail)))
def rowU (z : Int) : List D := [.sc (.int .u8 z)]
set_option maxRecDepth 100000 in set_option maxHeartbeats 1600000 in
theorem and1_u8 : ∀ x : Fin 256, bits .and .u8 (x.val : Int) 1 = (x.val : Int) % 2 := by decide
theorem byte_bit (z : Int) (m : Nat) (hz : 0 ≤ z ∧ z ≤ 255) : IntKind.i64.wrap (bits .and .u8 (z.fdiv (2 ^ m)) 1) = z / 2 ^ m % 2 := by
  have hp : (0 : Int) < 2 ^ m := by exact_mod_cast Nat.pos_of_ne_zero (by simp)
  rw [Int.fdiv_eq_ediv_of_nonneg _ (by omega)]
  have h0 : 0 ≤ z / 2 ^ m := Int.ediv_nonneg hz.1 (by omega)
  have h1 : z / 2 ^ m ≤ 255 := Int.le_trans (Int.ediv_le_self _ hz.1) hz.2
  generalize z / 2 ^ m = x at h0 h1
  have := and1_u8 ⟨x.toNat, by omega⟩
  simp only [Int.toNat_of_nonneg h0] at this
  rw [this]
  exact IntWalk.i64_in _ ⟨by omega, by omega⟩
theorem bitR_cases (c : List Int) (i : Int) (hz : ∀ z ∈ c, 0 ≤ z ∧ z ≤ 255) : (i < 0 ∧ bitR c i = 0) ∨ (0 ≤ i ∧ (c.length : Int) ≤ i / 8 ∧ bitR c i = 0) ∨
    (0 ≤ i ∧ ¬ (c.length : Int) ≤ i / 8 ∧ ∃ z, c[(i / 8).toNat]? = some z ∧ (0 ≤ z ∧ z ≤ 255) ∧ bitR c i = z / 2 ^ (7 - (i % 8).toNat) % 2) := by
  unfold bitR
  by_cases h : i < 0
  · exact .inl ⟨h, if_pos h⟩
  · rw [if_neg h]
    by_cases h2 : (c.length : Int) ≤ i / 8
    · exact .inr (.inl ⟨by omega, h2, if_pos h2⟩)
    · rw [if_neg h2]
      obtain ⟨z, hx⟩ := get_lt (show (i / 8).toNat < c.length by omega)
      exact .inr (.inr ⟨by omega, h2, z, hx, hz z (List.mem_of_getElem? hx), by rw [List.getD_eq_getElem?_getD, hx]; rfl⟩)
set_option maxRecDepth 100000 in set_option maxHeartbeats 6400000 in
theorem pbit_calls {c : List Int} {i : Int} (hz : ∀ z ∈ c, 0 ≤ z ∧ z ≤ 255) (h0 : -9223372036854775808 ≤ i) (h1 : i ≤ 9223372036854775807) : ACalls Try.prog 111 [.sl 1 (c.map rowU), .sc (.int .i64 i)] (.sc (.int .i64 (bitR c i))) [] := by
  rcases bitR_cases c i hz with ⟨h, e⟩ | ⟨h, h2, e⟩ | ⟨h, h2, z, hx, hzz, e⟩
  all_goals rw [e]
  · refine of_tri [] [] Try.func111 rfl call111 rfl (by decide) (by decide) rfl rfl Try.ntmps111 (by simp (disch := omega) only [seval,go_sem,cnd,intV,shV,convV,strV,List.replicate,List.zip_nil_left,List.zip_cons_cons];rfl) (by simp (disch := omega) only [seval,go_sem,cnd,intV,shV,convV,strV,List.zip_nil_left,List.zip_cons_cons];rfl) ?_
    ((repeat' (first|(with_reducible refine isRet ?_;refine RetV (rs := [.tmp 4]) (by with_unfolding_all rfl) rfl ?_ <;> simp only [seval,go_sem] <;> (repeat' (with_reducible apply And.intro)) <;> (try rfl))|(with_reducible (first|refine TVq (st := []) ?_))|simp only [seval,go_sem]|(with_reducible refine oV_st (by simp (disch := omega) only [seval,go_sem,cnd,intV,shV,convV,strV];rfl) ?_))) <;> (try (fail)))
  · refine of_tri [] [] Try.func111 rfl call111 rfl (by decide) (by decide) rfl rfl Try.ntmps111 (by simp (disch := omega) only [seval,go_sem,cnd,intV,shV,convV,strV,List.replicate,List.zip_nil_left,List.zip_cons_cons];rfl) (by simp (disch := omega) only [seval,go_sem,cnd,intV,shV,convV,strV,List.zip_nil_left,List.zip_cons_cons];rfl) ?_
    ((repeat' (first|(with_reducible refine isRet ?_;refine RetV (rs := [.tmp 4]) (by with_unfolding_all rfl) rfl ?_ <;> simp only [seval,go_sem] <;> (repeat' (with_reducible apply And.intro)) <;> (try rfl))|(with_reducible (first|refine TVq (st := []) ?_))|simp only [seval,go_sem]|(with_reducible refine oV_st (by simp (disch := omega) only [seval,go_sem,cnd,intV,shV,convV,strV];rfl) ?_))) <;> (try (fail)))
  · have hx' := get_map rowU hx
    have e2 : min (7 - i % 8).toNat 8 = 7 - (i % 8).toNat := by omega
    have e3 := byte_bit z (7 - (i % 8).toNat) hzz
    refine of_tri [] [] Try.func111 rfl call111 rfl (by decide) (by decide) rfl rfl Try.ntmps111 (by simp (disch := omega) only [seval,go_sem,cnd,intV,shV,convV,strV,List.replicate,List.zip_nil_left,List.zip_cons_cons];rfl) (by simp (disch := omega) only [seval,go_sem,cnd,intV,shV,convV,strV,List.zip_nil_left,List.zip_cons_cons];rfl) ?_
    ((repeat' (first|(with_reducible refine isRet ?_;refine RetV (rs := [.tmp 4]) (by with_unfolding_all rfl) rfl ?_ <;> simp only [seval,go_sem] <;> (repeat' (with_reducible apply And.intro)) <;> (try rfl))|(with_reducible (first|refine TVq (st := []) ?_))|simp only [seval,go_sem,hx',rowU]|(with_reducible refine oV_st (by simp (disch := omega) only [seval,go_sem,cnd,intV,shV,convV,strV,hx',rowU];rfl) ?_))) <;> (try (fail)))
    all_goals (rw [show (7 - i % 8).toNat = 7 - (i % 8).toNat by omega]; exact e3)
set_option maxRecDepth 100000 in set_option maxHeartbeats 6400000 in
theorem rbit_calls {c : List Int} {i : Int} (hz : ∀ z ∈ c, 0 ≤ z ∧ z ≤ 255) (h0 : -9223372036854775808 ≤ i) (h1 : i ≤ 9223372036854775807) : ACalls Try.prog 113 [.sl 1 (c.map rowU), .sc (.int .i64 i)] (.sc (.int .i64 (bitR c i))) [] := by
  rcases bitR_cases c i hz with ⟨h, e⟩ | ⟨h, h2, e⟩ | ⟨h, h2, z, hx, hzz, e⟩
  all_goals rw [e]
  · refine of_tri [] [] Try.func113 rfl call113 rfl (by decide) (by decide) rfl rfl Try.ntmps113 (by simp (disch := omega) only [seval,go_sem,cnd,intV,shV,convV,strV,List.replicate,List.zip_nil_left,List.zip_cons_cons];rfl) (by simp (disch := omega) only [seval,go_sem,cnd,intV,shV,convV,strV,List.zip_nil_left,List.zip_cons_cons];rfl) ?_
    ((repeat' (first|(with_reducible refine isRet ?_;refine RetV (rs := [.tmp 4]) (by with_unfolding_all rfl) rfl ?_ <;> simp only [seval,go_sem] <;> (repeat' (with_reducible apply And.intro)) <;> (try rfl))|(with_reducible (first|refine TVq (st := []) ?_))|simp only [seval,go_sem]|(with_reducible refine oV_st (by simp (disch := omega) only [seval,go_sem,cnd,intV,shV,convV,strV];rfl) ?_))) <;> (try (fail)))
  · refine of_tri [] [] Try.func113 rfl call113 rfl (by decide) (by decide) rfl rfl Try.ntmps113 (by simp (disch := omega) only [seval,go_sem,cnd,intV,shV,convV,strV,List.replicate,List.zip_nil_left,List.zip_cons_cons];rfl) (by simp (disch := omega) only [seval,go_sem,cnd,intV,shV,convV,strV,List.zip_nil_left,List.zip_cons_cons];rfl) ?_
    ((repeat' (first|(with_reducible refine isRet ?_;refine RetV (rs := [.tmp 4]) (by with_unfolding_all rfl) rfl ?_ <;> simp only [seval,go_sem] <;> (repeat' (with_reducible apply And.intro)) <;> (try rfl))|(with_reducible (first|refine TVq (st := []) ?_))|simp only [seval,go_sem]|(with_reducible refine oV_st (by simp (disch := omega) only [seval,go_sem,cnd,intV,shV,convV,strV];rfl) ?_))) <;> (try (fail)))
  · have hx' := get_map rowU hx
    have e2 : min (7 - i % 8).toNat 64 = 7 - (i % 8).toNat := by omega
    have e3 := byte_bit z (7 - (i % 8).toNat) hzz
    refine of_tri [] [] Try.func113 rfl call113 rfl (by decide) (by decide) rfl rfl Try.ntmps113 (by simp (disch := omega) only [seval,go_sem,cnd,intV,shV,convV,strV,List.replicate,List.zip_nil_left,List.zip_cons_cons];rfl) (by simp (disch := omega) only [seval,go_sem,cnd,intV,shV,convV,strV,List.zip_nil_left,List.zip_cons_cons];rfl) ?_
    ((repeat' (first|(with_reducible refine isRet ?_;refine RetV (rs := [.tmp 4]) (by with_unfolding_all rfl) rfl ?_ <;> simp only [seval,go_sem] <;> (repeat' (with_reducible apply And.intro)) <;> (try rfl))|(with_reducible (first|refine TVq (st := []) ?_))|simp only [seval,go_sem,hx',rowU]|(with_reducible refine oV_st (by simp (disch := omega) only [seval,go_sem,cnd,intV,shV,convV,strV,hx',rowU];rfl) ?_))) <;> (try (fail)))
    all_goals (rw [show (7 - i % 8).toNat = 7 - (i % 8).toNat by omega, Int.fdiv_eq_ediv_of_nonneg _ (by have := two_pos (7 - (i % 8).toNat); omega)])
end Go.Proofs.Ytnckgbmifigadaa
