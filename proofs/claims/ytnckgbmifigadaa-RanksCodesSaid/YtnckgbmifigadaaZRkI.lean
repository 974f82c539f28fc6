/- Ranks: Insert of the program walked. -/
import Derived.Test.YtnckgbmifigadaaZRkH
import Derived.Test.YtnckgbmifigadaaZRkF
import Derived.Test.YtnckgbmifigadaaZRkB
set_option linter.unusedSimpArgs false
set_option linter.unusedVariables false
namespace Go.Proofs.Ytnckgbmifigadaa
open Go.RowKit Go.Avm
theorem trimK_len (F : List (List ByteArray)) : (trimK F).length ≤ F.length ∧ F.take (trimK F).length = trimK F := by
  have h : ∀ n, ∀ m, m ≤ n → m ≤ F.length → (trimK (F.take m)).length ≤ m ∧ F.take (trimK (F.take m)).length = trimK (F.take m) := by
    intro n
    induction n with
    | zero => intro m h1 h2; obtain rfl : m = 0 := by omega
              simp [trimK_nil]
    | succ n ih =>
      intro m h1 h2
      rcases trim_cases F m h2 with ⟨h0, e⟩ | ⟨h0, hq, e⟩ | ⟨h0, x, q, hq, e⟩
      · subst h0; simp [trimK_nil]
      · rw [e]
        have := ih (m - 1) (by omega) (by omega)
        exact ⟨by omega, this.2⟩
      · rw [e, List.length_take, Nat.min_eq_left h2]; exact ⟨Nat.le_refl _, rfl⟩
  have := h F.length F.length (Nat.le_refl _) (Nat.le_refl _)
  rwa [List.take_length] at this
theorem trimK_rows (F : List (List ByteArray)) : List.take (trimK F).length (F.map lvD) = (trimK F).map lvD := by rw [← List.map_take, (trimK_len F).2]
theorem addL_bound {ls : List (List ByteArray)} {n B : Nat} {u : List ByteArray} (h : ∀ l ∈ ls, l.length ≤ B) : ∀ l ∈ addL ls n u, l.length ≤ B + u.length := by
  intro l hl
  obtain ⟨x, hx⟩ := get_lt (show n < (padL ls (n + 1)).length by rw [padL_len]; omega)
  have hp : ∀ y ∈ padL ls (n + 1), y.length ≤ B := by
    intro y hy
    rcases List.mem_append.1 hy with hy | hy
    · exact h y hy
    · rw [(List.mem_replicate.1 hy).2]; simp
  rw [addL_at hx] at hl
  rcases List.mem_or_eq_of_mem_set hl with hl | hl
  · have := hp l hl; omega
  · subst hl
    have := hp x (List.mem_of_getElem? hx)
    rw [List.length_append]; omega
theorem putK_bound {k : ByteArray} : ∀ (ps : List Nat) {ls : List (List ByteArray)} {B : Nat}, (∀ l ∈ ls, l.length ≤ B) → ∀ l ∈ putK k ps ls, l.length ≤ B + ps.length
  | [], ls, B, h => by simpa [putK_nil] using h
  | p :: ps, ls, B, h => by
    intro l hl
    rw [putK_cons] at hl
    have := putK_bound ps (addL_bound (n := p) (u := [k]) h) l hl
    simp only [List.length_cons, List.length_nil] at this ⊢; omega
theorem putK_len {k : ByteArray} : ∀ (ps : List Nat) (ls : List (List ByteArray)), (∀ p ∈ ps, p < 41) → ls.length ≤ 41 → (putK k ps ls).length ≤ 41
  | [], ls, _, h => h
  | p :: ps, ls, hp, h => by
    rw [putK_cons]
    refine putK_len ps _ (fun q hq => hp q (List.mem_cons_of_mem _ hq)) ?_
    have := hp p (List.mem_cons_self ..)
    rw [addL_len]; omega
theorem insR_cases (r : Rk) (k : ByteArray) (w : Int) (c : List Int) (a : Int) :
    (validR r ≠ 0 ∧ insR r k w c a = (zeroR, 0, validR r)) ∨ (validR r = 0 ∧ itemE k w ≠ 0 ∧ insR r k w c a = (zeroR, 0, itemE k w)) ∨ (validR r = 0 ∧ itemE k w = 0 ∧ placeOk a = false ∧ insR r k w c a = (zeroR, 0, 5)) ∨
    (validR r = 0 ∧ itemE k w = 0 ∧ placeOk a = true ∧ 1099511627776 < r.total + w ∧ insR r k w c a = (⟨r.size, r.total, r.slack, r.levels, true⟩, a, 0)) ∨
    (validR r = 0 ∧ itemE k w = 0 ∧ placeOk a = true ∧ ¬ 1099511627776 < r.total + w ∧ insR r k w c a = (⟨r.size,r.total + w,(settleK r.size c r.slack a (putK k (powS w.toNat 0) r.levels)).2.1,(settleK r.size c r.slack a (putK k (powS w.toNat 0) r.levels)).1,r.sat⟩,(settleK r.size c r.slack a (putK k (powS w.toNat 0) r.levels)).2.2,0)) := by
  unfold insR
  by_cases h1 : validR r = 0
  · rw [if_neg (by simp [h1])]
    by_cases h2 : itemE k w = 0
    · rw [if_neg (by simp [h2])]
      by_cases h3 : placeOk a = false
      · exact .inr (.inr (.inl ⟨h1, h2, h3, if_pos h3⟩))
      · rw [if_neg h3]
        have h3' : placeOk a = true := by simpa using h3
        by_cases h4 : 1099511627776 < r.total + w
        · exact .inr (.inr (.inr (.inl ⟨h1, h2, h3', h4, if_pos h4⟩)))
        · exact .inr (.inr (.inr (.inr ⟨h1, h2, h3', h4, if_neg h4⟩)))
    · rw [if_pos h2]; exact .inr (.inl ⟨h1, h2, rfl⟩)
  · rw [if_pos h1]; exact .inl ⟨h1, rfl⟩
theorem itemE_okR {k : ByteArray} {w : Int} (h : itemE k w = 0) : 1 ≤ w ∧ w ≤ 4294967295 ∧ keyOk k = true := by
  unfold itemE at h
  split at h
  · omega
  · rename_i h1
    split at h
    · omega
    · exact ⟨by omega, by omega, by simpa using h1⟩
theorem placeOk_iff {a : Int} (h : placeOk a = true) : 0 ≤ a ∧ a ≤ 1073741824 := by simp only [placeOk, Bool.and_eq_true, decide_eq_true_eq] at h; exact h
set_option maxRecDepth 100000 in set_option maxHeartbeats 12800000 in
theorem insr_calls {r : Rk} {k : ByteArray} {w a : Int} {c : List Int} (hl : r.levels.length ≤ 1000) (hk : ∀ l ∈ r.levels, l.length ≤ 100000 ∧ ∀ x ∈ l, x.size ≤ 1000000000) (hkk : k.size ≤ 1000000000) (hc : ∀ z ∈ c, 0 ≤ z ∧ z ≤ 255) :
    ACalls Try.prog 32 [dR r, .agg [.sc (.string k), .sc (.int .i64 w)], .sl 1 (c.map rowU), .sc (.int .i64 a)] (.tup [dR (insR r k w c a).1, .sc (.int .i64 (insR r k w c a).2.1), .sc (.int .i64 (insR r k w c a).2.2)]) [] := by
  have hvd := validr_calls (r := r) hl hk
  have hcp := copied_calls (r := r) hl (fun l h => (hk l h).1)
  rcases insR_cases r k w c a with ⟨h1, e⟩ | ⟨h1, h2, e⟩ | ⟨h1, h2, h3, e⟩ | ⟨h1, h2, h3, h4, e⟩ | ⟨h1, h2, h3, h4, e⟩
  all_goals rw [e]
  · obtain ⟨s, t, sl, ls, sat⟩ := r
    simp only [dR, zeroR, List.map_nil] at hvd hcp ⊢
    refine of_tri [] [4,5,8,16,22,28,32,50,59,60,64,160] Try.func32 rfl call32 rfl (by decide) (by decide) rfl rfl Try.ntmps32 (by simp (disch := omega) only [seval,go_sem,↓nsP,nsM,nmsN,cnd,intV,shV,convV,strV,List.replicate,List.zip_nil_left,List.zip_cons_cons];rfl) (by simp (disch := omega) only [seval,go_sem,↓nsP,nsM,nmsN,cnd,intV,shV,convV,strV,List.zip_nil_left,List.zip_cons_cons];rfl) ?_
    ((repeat' (first|((with_reducible refine isTriD ?_);first|((with_reducible refine isCallD ?_);first|((with_reducible refine LVcall (st := []) ?_);simp only [seval,go_sem,↓nsP,nsM,nmsN];first|(refine CallL.c (hvd) ?_))))|(with_reducible refine isRet ?_;refine RetV (rs := [.cell 8 50,.tmp 9,.tmp 10]) (by with_unfolding_all rfl) rfl ?_ <;> simp only [seval,go_sem,↓nsP,nsM,nmsN] <;> (repeat' (with_reducible apply And.intro)) <;> (try rfl))|(with_reducible (first|refine TVq (st := []) ?_))|simp only [seval,go_sem,↓nsP,nsM,nmsN]|(with_reducible refine oV_st (by simp (disch := omega) only [seval,go_sem,↓nsP,nsM,nmsN,cnd,intV,shV,convV,strV];rfl) ?_))) <;> (try (fail)))
  · obtain ⟨s, t, sl, ls, sat⟩ := r
    rw [h1] at hvd
    simp only [dR, zeroR, List.map_nil] at hvd hcp ⊢
    refine of_tri [] [4,5,8,16,22,28,32,50,59,60,64,160] Try.func32 rfl call32 rfl (by decide) (by decide) rfl rfl Try.ntmps32 (by simp (disch := omega) only [seval,go_sem,↓nsP,nsM,nmsN,cnd,intV,shV,convV,strV,List.replicate,List.zip_nil_left,List.zip_cons_cons];rfl) (by simp (disch := omega) only [seval,go_sem,↓nsP,nsM,nmsN,cnd,intV,shV,convV,strV,List.zip_nil_left,List.zip_cons_cons];rfl) ?_
    ((repeat' (first|((with_reducible refine isTriD ?_);first|((with_reducible refine isCallD ?_);first|((with_reducible refine LVcall (st := []) ?_);simp only [seval,go_sem,↓nsP,nsM,nmsN];first|(refine CallL.c (hvd) ?_)|(refine CallL.c (vitem_calls ?_) ?_))))|(with_reducible refine isRet ?_;refine RetV (rs := [.cell 8 50,.tmp 9,.tmp 10]) (by with_unfolding_all rfl) rfl ?_ <;> simp only [seval,go_sem,↓nsP,nsM,nmsN] <;> (repeat' (with_reducible apply And.intro)) <;> (try rfl))|(with_reducible (first|refine TVq (st := []) ?_))|simp only [seval,go_sem,↓nsP,nsM,nmsN]|(with_reducible refine oV_st (by simp (disch := omega) only [seval,go_sem,↓nsP,nsM,nmsN,cnd,intV,shV,convV,strV];rfl) ?_))) <;> (try (first|(with_reducible assumption))))
  · obtain ⟨s, t, sl, ls, sat⟩ := r
    rw [h1] at hvd
    simp only [dR, zeroR, List.map_nil] at hvd hcp ⊢
    refine of_tri [] [4,5,8,16,22,28,32,50,59,60,64,160] Try.func32 rfl call32 rfl (by decide) (by decide) rfl rfl Try.ntmps32 (by simp (disch := omega) only [seval,go_sem,↓nsP,nsM,nmsN,cnd,intV,shV,convV,strV,List.replicate,List.zip_nil_left,List.zip_cons_cons];rfl) (by simp (disch := omega) only [seval,go_sem,↓nsP,nsM,nmsN,cnd,intV,shV,convV,strV,List.zip_nil_left,List.zip_cons_cons];rfl) ?_
    (all_goals (try have hZ := (And.intro h2 h3));(repeat' (first|((with_reducible refine isTriD ?_);first|((with_reducible refine isCallD ?_);first|((with_reducible refine LVcall (st := []) ?_);simp only [seval,go_sem,↓nsP,nsM,nmsN,hZ];first|(refine CallL.c (hvd) ?_)|(refine CallL.c (vitem_calls ?_) ?_)|(refine CallL.c (placer_calls) ?_))))|(with_reducible refine isRet ?_;refine RetV (rs := [.cell 8 50,.tmp 9,.tmp 10]) (by with_unfolding_all rfl) rfl ?_ <;> simp only [seval,go_sem,↓nsP,nsM,nmsN] <;> (repeat' (with_reducible apply And.intro)) <;> (try rfl))|(with_reducible (first|refine TVq (st := []) ?_))|simp only [seval,go_sem,↓nsP,nsM,nmsN,hZ]|(with_reducible refine oV_st (by simp (disch := omega) only [seval,go_sem,↓nsP,nsM,nmsN,cnd,intV,shV,convV,strV,hZ];rfl) ?_))) <;> (try (first|(with_reducible assumption)));all_goals (try clear hZ))
  · have ok := validR_ok h1
    have hi := itemE_okR h2
    obtain ⟨s, t, sl, ls, sat⟩ := r
    have hb := ok.t1; have hb2 := ok.t2
    rw [h1] at hvd
    simp only [dR] at hvd hcp hb hb2 h4 ⊢
    refine of_tri [] [4,5,8,16,22,28,32,50,59,60,64,160] Try.func32 rfl call32 rfl (by decide) (by decide) rfl rfl Try.ntmps32 (by simp (disch := omega) only [seval,go_sem,↓nsP,nsM,nmsN,cnd,intV,shV,convV,strV,List.replicate,List.zip_nil_left,List.zip_cons_cons];rfl) (by simp (disch := omega) only [seval,go_sem,↓nsP,nsM,nmsN,cnd,intV,shV,convV,strV,List.zip_nil_left,List.zip_cons_cons];rfl) ?_
    (all_goals (try have hZ := (And.intro h2 h3));(repeat' (first|((with_reducible refine isTriD ?_);first|((with_reducible refine isCallD ?_);first|((with_reducible refine LVcall (st := []) ?_);simp only [seval,go_sem,↓nsP,nsM,nmsN,nst_row,hZ];first|(refine CallL.c (hvd) ?_)|(refine CallL.n (hcp) ?_)|(refine CallL.c (vitem_calls ?_) ?_)|(refine CallL.c (placer_calls) ?_))))|(with_reducible (first|refine TVq (st := []) ?_))|simp only [seval,go_sem,↓nsP,nsM,nmsN,nst_row,hZ]|(with_reducible refine oV_st (by simp (disch := omega) only [seval,go_sem,↓nsP,nsM,nmsN,cnd,intV,shV,convV,strV,nst_row,hZ];rfl) ?_))) <;> (try (first|(with_reducible assumption)));all_goals (try clear hZ))
    all_goals (refine RetOK.rowO 32 1 (by simp only [seval, go_sem, ↓nsP, nsM, nmsN]; rfl) (by simp only [seval, go_sem, ↓nsP, nsM, nmsN]; rfl) ?_)
    all_goals (refine RetOK.frz 32 (by simp only [seval, go_sem, ↓nsP, nsM, nmsN]; rfl) (by simp only [seval, go_sem, ↓nsP, nsM, nmsN, h2, h3, nst_row]; rfl) ?_)
    all_goals (with_reducible refine isRet ?_; refine RetV (rs := [.cell 8 50, .tmp 9, .tmp 10]) (by with_unfolding_all rfl) rfl ?_ <;> simp only [seval, go_sem, ↓nsP, nsM, nmsN, nst_row] <;> (repeat' (with_reducible apply And.intro)) <;> (try rfl))
    all_goals done
  · have ok := validR_ok h1
    have hi := itemE_okR h2
    have hpl := placeOk_iff h3
    obtain ⟨s, t, sl, ls, sat⟩ := r
    obtain ⟨s1, s2, s3, t1, t2, l1, l2, ln, lev, lst, wt⟩ := ok
    rw [h1] at hvd
    simp only at s1 s2 s3 t1 t2 l1 l2 ln lev lst wt h4
    have hW : w.toNat < 2 ^ 33 := by omega
    have hps := powS_lt 33 w.toNat 0 hW
    have hpn := powS_len 33 w.toNat 0 hW
    have hpw := ppow_calls (n := w) (by omega) (by omega)
    have hwl : wtL 0 (putK k (powS w.toNat 0) ls) ≤ 1099511627776 := by
      rw [wtL_putK k 33 w.toNat 0 ls hW, wt]; simp; omega
    have hlb : ∀ l ∈ ls, l.length ≤ 31 := fun l h => by have := (lev l h).1; omega
    generalize hP : powS w.toNat 0 = P at *
    have hpk : ∀ i, (putK k (P.take i) ls).length ≤ 41 := fun i => putK_len _ _ (fun p hp => by have := hps p (List.mem_of_mem_take hp); omega) ln
    have hpb : ∀ i, ∀ l ∈ putK k (P.take i) ls, l.length ≤ 64 := fun i l h => by
      have := putK_bound (P.take i) hlb l h
      rw [List.length_take] at this; omega
    have hst := settle_calls (ls := putK k P ls) (c := c) (size := s) (total := t + w) (sl := sl) (a := a) (sat := sat) ⟨s1, s2⟩ hc hpl ⟨l1, l2⟩ (by have := hpk P.length; rw [List.take_length] at this; omega) (fun l h => by have := hpb P.length l (by rw [List.take_length]; exact h); omega) hwl
    have htr := trimK_rows (setS s c 0 sl a (putK k P ls)).1
    have htl := (trimK_len (setS s c 0 sl a (putK k P ls)).1).1
    simp only [settleK] at hst ⊢
    simp only [dR] at hvd hcp ⊢
    refine of_tri [] [4,5,8,16,22,28,32,50,59,60,64,160] Try.func32 rfl call32 rfl (by decide) (by decide) rfl rfl Try.ntmps32 (by simp (disch := omega) only [seval,go_sem,↓nsP,nsM,nmsN,cnd,intV,shV,convV,strV,List.replicate,List.zip_nil_left,List.zip_cons_cons];rfl) (by simp (disch := omega) only [seval,go_sem,↓nsP,nsM,nmsN,cnd,intV,shV,convV,strV,List.zip_nil_left,List.zip_cons_cons];rfl) ?_
    (all_goals (try have hZ := (And.intro h2 h3));(repeat' (first|((with_reducible refine isTriD ?_);first|((with_reducible refine isCallD ?_);first|((with_reducible refine LVcall (st := []) ?_);simp only [seval,go_sem,↓nsP,nsM,nmsN,hZ];first|(refine CallL.c (hvd) ?_)|(refine CallL.n (hcp) ?_)|(refine CallL.c (hpw) ?_)|(refine CallL.c (vitem_calls ?_) ?_)|(refine CallL.c (placer_calls) ?_))))|(with_reducible (first|refine TVq (st := []) ?_))|simp only [seval,go_sem,↓nsP,nsM,nmsN,hZ]|(with_reducible refine oV_st (by simp (disch := omega) only [seval,go_sem,↓nsP,nsM,nmsN,cnd,intV,shV,convV,strV,hZ];rfl) ?_))) <;> (try (first|(with_reducible assumption)));all_goals (try clear hZ))
    all_goals (refine Tri.rn 32 160 (by decide) (by first | (simp only [seval, go_sem, ↓nsP, nsM, nmsN]; first | done | fail) | rfl | decide) (by simp only [seval, go_sem, ↓nsP, nsM, nmsN]; rfl) ?_)
    all_goals (with_reducible refine Tri.loopV (fun (i : Nat) => [(52,.sc (.int .i64 i)),(32,.any),(14,.any),(53,.any),(54,.any),(55,.any),(56,.any),(57,.any),(58,.any),(59,.any),(60,.any),(61,.any)]) (fun (i : Nat) => [(8,.box [.sc (.int .i64 s),.sc (.int .i64 (t + w)),.sc (.int .i64 sl),.slo 160 1 0 (putK k (P.take i) ls).length,.sc (.bool sat)]),(160,nestO 1 (nst (putK k (P.take i) ls))),(32,.dead),(59,.dead),(60,.dead)]) (fun (i : Nat) => i ≤ P.length) (fun (i : Nat) => P.length - i) (0) (Nat.zero_le _) (by intro _;simp (disch := omega) only [seval,go_sem,↓nsP,nsM,nmsN,cnd,intV,shV,convV,strV];rfl) (by intro _;simp (disch := omega) only [seval,go_sem,↓nsP,nsM,nmsN,cnd,intV,shV,convV,strV];rfl) (by (first|refine leQL_spec ?_);(try simp only [seval,go_sem,↓nsP,nsM,nmsN,putK_nil,List.take_zero]);first|done) (by (first|refine leQH_spec ?_);(try simp only [seval,go_sem,↓nsP,nsM,nmsN,putK_nil,List.take_zero]);first|done) (fun i hI => ?_))
    all_goals
      by_cases hlt : i < P.length
      · obtain ⟨p, hp⟩ := get_lt hlt
        have hp' := get_map rowP hp
        have hpp := hps p (List.mem_of_getElem? hp)
        have hadd := add_calls (s := s) (t := t + w) (sl := sl) (sat := sat) (ls := putK k (P.take i) ls) (lv := p) (keys := [k]) (by have := hpk i; omega) (by omega) (by simp) (fun l h => by have := hpb i l h; omega)
        have hpt : addL (putK k (P.take i) ls) p [k] = putK k (P.take (i + 1)) ls := by rw [List.take_add_one, hp, ← putK_snoc]; rfl
        rw [hpt] at hadd
        ((repeat' (first|((with_reducible refine isTriD ?_);first|((with_reducible refine isCallD ?_);first|((with_reducible (first|(refine TriD.cJ (dst := some 60) [60] (by simp only [seval,go_sem,↓nsP,nsM,nmsN,hp',rowP,rowKr,List.map_cons,List.map_nil];rfl) (by simp only [seval,go_sem,↓nsP,nsM,nmsN,hp',rowP,rowKr,List.map_cons,List.map_nil];first|rfl) (hadd) (by simp only [seval,go_sem,↓nsP,nsM,nmsN,hp',rowP,rowKr,List.map_cons,List.map_nil];first|done) (by simp only [seval,go_sem,↓nsP,nsM,nmsN,hp',rowP,rowKr,List.map_cons,List.map_nil];first|done) (by simp only [seval,go_sem,↓nsP,nsM,nmsN,hp',rowP,rowKr,List.map_cons,List.map_nil];rfl) ?_)));refine LVs (st := []) ?_))|(with_reducible refine TriD.frz 59 (by simp only [seval,go_sem,↓nsP,nsM,nmsN,hp',rowP,rowKr,List.map_cons,List.map_nil];rfl) (by simp only [seval,go_sem,↓nsP,nsM,nmsN,hp',rowP,rowKr,List.map_cons,List.map_nil];rfl) ?_;refine LVs (st := []) ?_))|(with_reducible (first|refine TVq (st := []) ?_))|simp only [seval,go_sem,↓nsP,nsM,nmsN,hp',rowP,rowKr,List.map_cons,List.map_nil]|(with_reducible refine oV_st (by simp (disch := omega) only [seval,go_sem,↓nsP,nsM,nmsN,cnd,intV,shV,convV,strV,hp',rowP,rowKr,List.map_cons,List.map_nil];rfl) ?_))) <;> (try (fail)))
        all_goals ((first|refine isNextVM (i + 1) (Imp.rnTo 60 160 (by decide) (by first|(simp only [seval,go_sem,↓nsP,nsM,nmsN];first|done)) (by simp only [seval,go_sem,↓nsP,nsM,nmsN];rfl) (Imp.les (by (first|refine leQL_spec ?_);(try simp only [seval,go_sem,↓nsP,nsM,nmsN]);first|((repeat' (with_reducible apply And.intro)) <;> first|rfl);first|done) (by (first|refine leQH_spec ?_);(try simp only [seval,go_sem,↓nsP,nsM,nmsN]);first|done))) ?_ ?_) <;> (try (first|omega)))
        all_goals done
      · have e1 : P.take i = P := List.take_of_length_le (by omega)
        rw [e1]
        ((repeat' (first|((with_reducible refine isTriD ?_);first|((with_reducible refine isCallD ?_);first|((with_reducible (first|(refine TriD.cJ (dst := some 64) [64] (by simp only [seval,go_sem,↓nsP,nsM,nmsN];rfl) (by simp only [seval,go_sem,↓nsP,nsM,nmsN];first|rfl) (hst) (by simp only [seval,go_sem,↓nsP,nsM,nmsN];first|done) (by simp only [seval,go_sem,↓nsP,nsM,nmsN];first|done) (by simp only [seval,go_sem,↓nsP,nsM,nmsN];rfl) ?_)));refine LVs (st := []) ?_)))|(with_reducible (first|refine TVq (st := []) ?_))|simp only [seval,go_sem,↓nsP,nsM,nmsN]|(with_reducible refine oV_st (by simp (disch := omega) only [seval,go_sem,↓nsP,nsM,nmsN,cnd,intV,shV,convV,strV];rfl) ?_))) <;> (try (fail)))
        all_goals (refine RetOK.frz 64 (by simp only [seval, go_sem, ↓nsP, nsM, nmsN]; rfl) (by simp only [seval, go_sem, ↓nsP, nsM, nmsN]; rfl) ?_)
        all_goals (with_reducible refine isRet ?_; refine RetV (rs := [.cell 8 50, .tmp 9, .tmp 10]) (by with_unfolding_all rfl) rfl ?_ <;> simp only [seval, go_sem, ↓nsP, nsM, nmsN, htr, htl] <;> (repeat' (with_reducible apply And.intro)) <;> (try rfl))
        all_goals done
end Go.Proofs.Ytnckgbmifigadaa
