/- Ranks: settle of the program walked. -/
import Derived.Test.YtnckgbmifigadaaZRkG
import Derived.Test.YtnckgbmifigadaaZRkE
set_option linter.unusedSimpArgs false
set_option linter.unusedVariables false
namespace Go.Proofs.Ytnckgbmifigadaa
open Go.RowKit Go.Avm
theorem TV_scope {P : Program} {st : List Nat} {c : Code} {Q : Exit → St → Prop} {σ : St} : TV P st (.scope c) Q σ = Tri P (.scope c) Q σ := rfl
theorem TriD.impT {P : Program} {ds : List (Option Nat)} {Q : Exit → St → Prop} {l : List Oper} {σ σ' : St} (h : Imp σ σ') (hn : TriD P ds Q l σ') : TriD P ds Q l σ := fun all ha => TriL.imp h (hn all ha)
theorem TriD.setOT {P : Program} {ds : List (Option Nat)} {Q : Exit → St → Prop} {l : List Oper} {σ σ' : St} (o : Nat) {X Y : Avm.Obj} (ho : hget σ.heap o = X) (hXY : X = Y) (hd : X ≠ .dead) (he : ({ σ with heap := hset σ.heap o Y } : St) = σ') (hn : TriD P ds Q l σ') : TriD P ds Q l σ := by
  subst hXY
  rw [hset_self ho hd] at he
  subst he
  exact hn
def firstQ (X : St) : Exit → St → Prop := fun e σ => e = .normal ∧ Imp σ X
theorem firstQ_n {X σ : St} : firstQ X .normal σ = Imp σ X := by simp [firstQ]
/-- A scope with one label to which the run jumps back, by what turns. -/
theorem Tri.jumpsV {P : Program} {Q : Exit → St → Prop} {s : List D} {h : List (Nat × Avm.Obj)} {τ : Type} {A R : Code} (lb : Nat) (l : τ → List (Nat × D)) (m : τ → List (Nat × Avm.Obj)) (I : τ → Prop) (μ : τ → Nat) (t0 : τ) (h0 : I t0)
    {s' : τ → List D} {h' : τ → List (Nat × Avm.Obj)} (hA : findLabel A lb = none) (es : ∀ t, setL (l t) s = s' t) (eh : ∀ t, setH (m t) h = h' t)
    (first : Tri P A (firstQ { slots := s' t0, heap := h' t0 }) { slots := s, heap := h })
    (pass : ∀ t, I t → Tri P R (jumpQ lb (fun σ' => ∃ t', I t' ∧ μ t' < μ t ∧ Imp σ' { slots := s' t', heap := h' t' }) Q) { slots := s' t, heap := h' t }) : Tri P (.scope (.seq A (.seq (.label lb) R))) Q { slots := s, heap := h } := by
  refine Tri.jumps lb (fun t => { slots := s' t, heap := h' t }) I μ (rest := .seq .skip R) (by simp [findLabel, hA]) ?_ (fun t hI => Tri.seq (Tri.skip (pass t hI)))
  refine Tri.seq (Tri.mono first ?_)
  rintro e σ ⟨rfl, hi⟩
  refine Tri.imp hi (Tri.seq (TVs (st := []) (c := .label lb) ?_))
  refine Tri.mono (pass t0 h0) ?_
  intro e σ hq
  cases e with
  | goto l' =>
    obtain ⟨h1, t', h2, _, h3⟩ := hq
    exact ⟨h1, t', h2, h3⟩
  | _ => exact hq
attribute [go_sem] TV_scope firstQ_n
theorem addH_len (u : List ByteArray) (ls : List (List ByteArray)) : (addH u ls).length = max ls.length 1 := by cases ls <;> simp [addH] <;> omega
theorem addH_bound {u : List ByteArray} {ls : List (List ByteArray)} (hu : u.length ≤ 100) (hl : ∀ l ∈ ls, l.length ≤ 100) : (∀ l ∈ addH u ls, l.length ≤ 200) ∧ (∀ l ∈ (addH u ls).tail, l.length ≤ 100) := by
  cases ls with
  | nil => exact ⟨fun l h => by simp only [addH, List.mem_singleton] at h; subst h; omega, fun l h => by simp [addH] at h⟩
  | cons y r =>
    refine ⟨fun l h => ?_, fun l h => hl l (List.mem_cons_of_mem _ h)⟩
    simp only [addH] at h
    rcases List.mem_cons.1 h with rfl | h
    · have := hl y (List.mem_cons_self ..)
      rw [List.length_append]; omega
    · exact Nat.le_trans (hl l (List.mem_cons_of_mem _ h)) (by decide)
theorem sortk_any {ns : List ByteArray} {n : Nat} (hn : ns.length = n) (hl : n ≤ 1000000) : MCalls Try.prog 90 [.row 1 (ns.map rowKr)] [.slo 0 1 0 n] (.tup []) [.row 1 ((sortK ns).map rowKr)] := by
  by_cases h : 0 < n
  · exact sortk_calls hn h hl
  · obtain rfl : n = 0 := by omega
    obtain rfl : ns = [] := List.eq_nil_of_length_eq_zero hn
    have e : sortK [] = [] := List.eq_nil_of_length_eq_zero (by rw [sortK_len]; rfl)
    rw [e]
    exact sortk_none
theorem nst_at (d : List (List ByteArray)) (l s : List ByteArray) (r : List (List ByteArray)) : (nst (d ++ l :: r)).set d.length (s.map rowKr) = nst (d ++ s :: r) := by
  rw [nst_set, List.set_append_right _ _ (Nat.le_refl _), Nat.sub_self]; rfl
theorem stay_odd {S : List ByteArray} (h : S.length % 2 = 1) : ∃ x, S[S.length - 1]? = some x ∧ stayK S = [x] := by
  obtain ⟨x, hx⟩ := get_lt (show S.length - 1 < S.length by omega)
  refine ⟨x, hx, ?_⟩
  rw [stayK, show S.length / 2 * 2 = S.length - 1 by omega, drop_get hx, List.drop_eq_nil_of_le (by omega)]
theorem stay_even {S : List ByteArray} (h : S.length % 2 = 0) : stayK S = [] := by rw [stayK, List.drop_eq_nil_of_le (by omega)]
set_option maxRecDepth 100000 in set_option maxHeartbeats 12800000 in
theorem settle_calls {ls : List (List ByteArray)} {c : List Int} {size total sl a : Int} {sat : Bool} (hs : 2 ≤ size ∧ size ≤ 32) (hc : ∀ z ∈ c,0 ≤ z ∧ z ≤ 255) (ha : 0 ≤ a ∧ a ≤ 1073741824) (hsl : 0 ≤ sl ∧ sl ≤ 1099511627776) (hl : ls.length ≤ 900) (hk : ∀ l ∈ ls,l.length ≤ 100) (hw : wtL 0 ls ≤ 1099511627776) :
    MCalls Try.prog 79 [.box [.sc (.int .i64 size), .sc (.int .i64 total), .sc (.int .i64 sl), .slo 1 1 0 ls.length, .sc (.bool sat)], nestO 1 (nst ls)] [.ref 0 0, .sl 1 (c.map rowU), .sc (.int .i64 a)] (.sc (.int .i64 (settleK size c sl a ls).2.2))
      [.box [.sc (.int .i64 size), .sc (.int .i64 total), .sc (.int .i64 (settleK size c sl a ls).2.1), .slo 2 1 0 (settleK size c sl a ls).1.length, .sc (.bool sat)], .dead, .row 1 ((setS size c 0 sl a ls).1.map lvD)] := by
  simp only [settleK]
  generalize hF : setS size c 0 sl a ls = G
  obtain ⟨F, fs, fa⟩ := G
  have hI0 : ([] ++ (setS size c 0 sl a ls).1,(setS size c 0 sl a ls).2) = (F,fs,fa) ∧ ((∀ l ∈ ls,l.length ≤ 200) ∧ (∀ l ∈ ls.tail,l.length ≤ 100)) ∧ (0 + ls.length ≤ 950 ∧ ∀ l ∈ ([] : List (List ByteArray)),l.length ≤ 200) ∧ (0 ≤ sl ∧ sl ≤ 1099511627776) ∧ (0 ≤ a ∧ a ≤ 1073741824 + ((0 : Nat) : Int)) ∧ wtL 0 ls ≤ 1099511627776 :=
    ⟨by rw [List.nil_append, hF], ⟨fun l h => Nat.le_trans (hk l h) (by decide), fun l h => hk l (List.mem_of_mem_tail h)⟩, ⟨by omega, by simp⟩, hsl, by omega, hw⟩
  refine of_tri [1000,1001] [28,46,54,66,67,78,94,160,161] Try.func79 rfl call79 rfl (by decide) (by decide) (by first|rfl) (by first|(simp only [seval,go_sem,↓nsP,nsM,nmsN,List.all_cons,List.all_nil,Bool.and_true,List.length_cons,List.length_nil];done)) Try.ntmps79 (by simp (disch := omega) only [seval,go_sem,↓nsP,nsM,nmsN,cnd,intV,shV,convV,strV,List.replicate,List.zip_nil_left,List.zip_cons_cons];rfl) (by simp (disch := omega) only [seval,go_sem,↓nsP,nsM,nmsN,cnd,intV,shV,convV,strV,List.zip_nil_left,List.zip_cons_cons];rfl) ?_
  (refine Tri.rn 1001 160 (by decide) (by first | (simp only [seval, go_sem, ↓nsP, nsM, nmsN]; first | done | fail) | rfl | decide) (by simp only [seval, go_sem, ↓nsP, nsM, nmsN]; rfl) ?_)
  ((repeat' (first | (with_reducible (first | refine TVq (st := []) ?_)) | simp only [seval, go_sem, ↓nsP, nsM, nmsN])) <;> (try (fail)))
  (with_reducible refine Tri.jumpsV 0 (fun (z : List (List ByteArray) × List (List ByteArray) × Int × Int) => [(7,.sc (.int .i64 z.1.length)),(2,.sc (.int .i64 z.2.2.2)),(6,.any),(8,.any),(9,.any),(10,.any),(11,.any),(12,.any),(13,.any),(14,.any),(15,.any),(16,.any),(17,.any),(18,.any),(19,.any),(20,.any),(21,.any),(22,.any),(23,.any),(24,.any),(25,.any),(26,.any),(27,.any),(28,.any),(29,.any),(30,.any),(31,.any),(32,.any),(33,.any),(34,.any),(35,.any),(36,.any),(37,.any),(38,.any),(39,.any),(40,.any),(41,.any),(42,.any),(43,.any),(44,.any),(45,.any),(46,.any),(47,.any),(48,.any),(49,.any),(50,.any),(51,.any),(52,.any),(53,.any),(54,.any),(55,.any),(56,.any),(57,.any),(58,.any),(59,.any),(60,.any),(61,.any),(62,.any),(63,.any),(64,.any),(65,.any),(66,.any),(67,.any),(68,.any),(69,.any),(70,.any),(71,.any),(72,.any),(73,.any),(74,.any),(75,.any),(76,.any),(77,.any),(78,.any),(79,.any),(80,.any),(81,.any),(82,.any),(83,.any),(84,.any),(85,.any),(86,.any),(87,.any),(88,.any),(89,.any),(90,.any),(91,.any),(92,.any),(93,.any),(94,.any),(95,.any),(96,.any),(97,.any),(98,.any),(99,.any),(100,.any),(101,.any),(102,.any),(103,.any),(104,.any),(105,.any),(106,.any),(107,.any),(108,.any),(109,.any),(110,.any),(111,.any),(112,.any),(113,.any),(114,.any),(115,.any),(116,.any),(117,.any),(118,.any),(119,.any),(120,.any),(121,.any),(122,.any),(123,.any),(124,.any),(125,.any),(126,.any),(127,.any),(128,.any)]) (fun (z : List (List ByteArray) × List (List ByteArray) × Int × Int) => [(1000,.box [.sc (.int .i64 size),.sc (.int .i64 total),.sc (.int .i64 z.2.2.1),.slo 160 1 0 (z.1.length + z.2.1.length),.sc (.bool sat)]),(160,nestO 1 (nst (z.1 ++ z.2.1))),(28,.dead),(46,.dead),(54,.dead),(66,.dead),(67,.dead),(78,.dead),(94,.dead)]) (fun (z : List (List ByteArray) × List (List ByteArray) × Int × Int) => (z.1 ++ (setS size c z.1.length z.2.2.1 z.2.2.2 z.2.1).1,(setS size c z.1.length z.2.2.1 z.2.2.2 z.2.1).2) = (F,fs,fa) ∧ ((∀ l ∈ z.2.1,l.length ≤ 200) ∧ (∀ l ∈ z.2.1.tail,l.length ≤ 100)) ∧ (z.1.length + z.2.1.length ≤ 950 ∧ ∀ l ∈ z.1,l.length ≤ 200) ∧ (0 ≤ z.2.2.1 ∧ z.2.2.1 ≤ 1099511627776) ∧ (0 ≤ z.2.2.2 ∧ z.2.2.2 ≤ 1073741824 + z.1.length) ∧ wtL z.1.length z.2.1 ≤ 1099511627776) (fun (z : List (List ByteArray) × List (List ByteArray) × Int × Int) => keysN z.2.1) (([],ls,sl,a)) ((by with_unfolding_all exact hI0)) ?_ (by intro _;simp (disch := omega) only [seval,go_sem,↓nsP,nsM,nmsN,cnd,intV,shV,convV,strV];rfl) (by intro _;simp (disch := omega) only [seval,go_sem,↓nsP,nsM,nmsN,cnd,intV,shV,convV,strV];rfl) ?_ (fun z hI => ?_));(with_unfolding_all rfl)
  · ((repeat' (first | (with_reducible (first | refine TVr (st := []) ?_)) | simp only [seval, go_sem, ↓nsP, nsM, nmsN])) <;> (try (fail)))
    all_goals (refine Imp.les (by (first | refine leQL_spec ?_); (try simp only [seval, go_sem, ↓nsP, nsM, nmsN]); first | done) (by (first | refine leQH_spec ?_); (try simp only [seval, go_sem, ↓nsP, nsM, nmsN]); first | done))
  obtain ⟨dn, rest, s1, a1⟩ := z
  obtain ⟨hG, ⟨hr200, hr100⟩, ⟨hdr, hd100⟩, hs1, ha1, hwt⟩ := hI
  simp only at hG hr200 hr100 hdr hd100 hs1 ha1 hwt
  cases rest with
  | nil =>
    rw [setS_nil, List.append_nil] at hG
    obtain ⟨rfl, rfl, rfl⟩ : dn = F ∧ s1 = fs ∧ a1 = fa := by simpa using hG
    have hrow : Avm.Obj.row 1 ((nst (dn ++ [])).map fun rows => [D.sl 1 rows]) = .row 1 (dn.map lvD) := by rw [List.append_nil, nst_row]
    (refine Tri.rowO 160 1 (by simp only [seval, go_sem, ↓nsP, nsM, nmsN]; rfl) (by simp only [seval, go_sem, ↓nsP, nsM, nmsN]; rfl) ?_)
    (refine Tri.setO 160 (by simp only [seval, go_sem, ↓nsP, nsM, nmsN]; first | done | rfl) (hrow) (by simp) (by simp only [seval, go_sem, ↓nsP, nsM, nmsN]; rfl) ?_)
    ((repeat' (first|(with_reducible (first|refine TVq (st := []) ?_))|simp only [seval,go_sem,↓nsP,nsM,nmsN,List.length_nil,Nat.add_zero]|(with_reducible refine oV_st (by simp (disch := omega) only [seval,go_sem,↓nsP,nsM,nmsN,cnd,intV,shV,convV,strV,List.length_nil,Nat.add_zero];rfl) ?_))) <;> (try (fail)))
    all_goals (with_reducible refine Tri.loopU (fun (m : Nat) => [(12,.sc (.int .i64 m)),(102,.any),(103,.any),(104,.any),(105,.any),(106,.any),(107,.any),(108,.any),(109,.any),(110,.any),(111,.any),(112,.any),(113,.any),(114,.any),(115,.any),(116,.any),(117,.any),(118,.any),(119,.any),(120,.any),(121,.any),(122,.any),(123,.any),(124,.any),(125,.any),(126,.any),(127,.any)]) (fun (m : Nat) => [(1000,.box [.sc (.int .i64 size),.sc (.int .i64 total),.sc (.int .i64 s1),.slo 160 1 0 m,.sc (.bool sat)])]) (fun (m : Nat) => m ≤ dn.length ∧ trimK (dn.take m) = trimK dn) (fun (m : Nat) => m) (dn.length) (⟨Nat.le_refl _,by rw [List.take_length]⟩) (by intro _;simp (disch := omega) only [seval,go_sem,↓nsP,nsM,nmsN,cnd,intV,shV,convV,strV];rfl) (by intro _;simp (disch := omega) only [seval,go_sem,↓nsP,nsM,nmsN,cnd,intV,shV,convV,strV];rfl) (by (first|refine leQL_spec ?_);(try simp only [seval,go_sem,↓nsP,nsM,nmsN]);first|done) (by (first|refine leQH_spec ?_);(try simp only [seval,go_sem,↓nsP,nsM,nmsN]);first|done) (fun m hI => ?_))
    all_goals
      obtain ⟨hm, htr⟩ := hI
      have hml : (dn.take m).length = m := by rw [List.length_take]; omega
      rcases trim_cases dn m hm with ⟨h0, e⟩ | ⟨h0, hq, e⟩ | ⟨h0, x, q, hq, e⟩
      · rw [← htr, e, hml]
        ((repeat' (first | (with_reducible (first | refine TVq (st := []) ?_)) | simp only [seval, go_sem, ↓nsP, nsM, nmsN] | (with_reducible refine oV_st (by simp (disch := omega) only [seval, go_sem, ↓nsP, nsM, nmsN, cnd, intV, shV, convV, strV]; rfl) ?_))) <;> (try (fail)))
        all_goals (with_reducible refine isRet ?_; refine RetVn [160] (rs := [.tmp 6]) (by with_unfolding_all rfl) rfl (by with_unfolding_all rfl) ?_ <;> simp only [seval, go_sem, ↓nsP, nsM, nmsN] <;> (repeat' (with_reducible apply And.intro)) <;> (try rfl))
      · have hq' := get_map lvD hq
        have hcast : ((m : Int) - 1).toNat = m - 1 := by omega
        (all_goals (try have hZ := (And.intro hq' hcast));(repeat' (first|(with_reducible (first|refine TVq (st := []) ?_))|simp only [seval,go_sem,↓nsP,nsM,nmsN,lvD,hZ]|(with_reducible refine oV_st (by simp (disch := omega) only [seval,go_sem,↓nsP,nsM,nmsN,cnd,intV,shV,convV,strV,lvD,hZ];rfl) ?_))) <;> (try (fail));all_goals (try clear hZ))
        all_goals (refine isNextM (m - 1) (by (first|refine leQL_spec ?_);(try simp only [seval,go_sem,↓nsP,nsM,nmsN]);first|((repeat' (with_reducible apply And.intro)) <;> first|omega);first|done) (by (first|refine leQH_spec ?_);(try simp only [seval,go_sem,↓nsP,nsM,nmsN]);first|done) ?_ ?_ <;> (try (first|omega)))
        all_goals exact ⟨by omega, by rw [← e]; exact htr⟩
      · rw [← htr, e, hml]
        have hq' := get_map lvD hq
        have hcast : ((m : Int) - 1).toNat = m - 1 := by omega
        (all_goals (try have hZ := (And.intro hq' hcast));(repeat' (first|(with_reducible (first|refine TVq (st := []) ?_))|simp only [seval,go_sem,↓nsP,nsM,nmsN,lvD,hZ]|(with_reducible refine oV_st (by simp (disch := omega) only [seval,go_sem,↓nsP,nsM,nmsN,cnd,intV,shV,convV,strV,lvD,hZ];rfl) ?_))) <;> (try (fail));all_goals (try clear hZ))
        all_goals (with_reducible refine isRet ?_; refine RetVn [160] (rs := [.tmp 6]) (by with_unfolding_all rfl) rfl (by with_unfolding_all rfl) ?_ <;> simp only [seval, go_sem, ↓nsP, nsM, nmsN] <;> (repeat' (with_reducible apply And.intro)) <;> (try rfl))
  | cons l rest =>
    have hll := hr200 l (List.mem_cons_self ..)
    have hj : (nst (dn ++ l :: rest))[dn.length]? = some (l.map rowKr) := nst_get (by simp)
    have hjl : dn.length < (nst (dn ++ l :: rest)).length := by rw [nst_len]; simp
    have hLs := sortK_len l
    have hso := sortk_any (ns := l) rfl (by omega)
    (refine Tri.takeO 160 dn.length 161 1 (by simp only [seval, go_sem, ↓nsP, nsM, nmsN]; first | done) (hj) (by first | (simp only [seval, go_sem, ↓nsP, nsM, nmsN]; first | done)) (by decide) (by simp only [seval, go_sem, ↓nsP, nsM, nmsN]; rfl) ?_)
    by_cases hfull : (l.length : Int) < size
    · rw [setS_keep hfull] at hG
      have hset := nst_at dn l (sortK l) rest
      ((repeat' (first|((with_reducible refine isTriD ?_);first|(with_reducible refine isLoadN ?_;with_reducible refine TriD.loadN (by simp only [seval,go_sem,↓nsP,nsM,nmsN,List.length_cons,List.length_map,hLs,nset_len,nst_len]) (by simp only [seval,go_sem,↓nsP,nsM,nmsN,List.length_cons,List.length_map,hLs,nset_len,nst_len];rfl) (by simp only [seval,go_sem,↓nsP,nsM,nmsN,List.length_cons,List.length_map,hLs,nset_len,nst_len];rfl) (by simp only [seval,go_sem,↓nsP,nsM,nmsN,List.length_cons,List.length_map,hLs,nset_len,nst_len];rfl) (by simp (disch := omega) only [seval,go_sem,↓nsP,nsM,nmsN,cnd,intV,shV,convV,strV,List.length_cons,List.length_map,hLs,nset_len,nst_len,nget_set];rfl) (by with_unfolding_all rfl) (by with_unfolding_all rfl) (by simp only [seval,go_sem,↓nsP,nsM,nmsN,List.length_cons,List.length_map,hLs,nset_len,nst_len];rfl) ?_;refine LVs (st := []) ?_)|((with_reducible refine isCallD ?_);first|((with_reducible (first|(refine TriD.cI (dst := _) [] (by simp only [seval,go_sem,↓nsP,nsM,nmsN,List.length_cons,List.length_map,hLs,nset_len,nst_len];rfl) (by simp only [seval,go_sem,↓nsP,nsM,nmsN,List.length_cons,List.length_map,hLs,nset_len,nst_len];first|rfl) (hso) (by simp only [seval,go_sem,↓nsP,nsM,nmsN,List.length_cons,List.length_map,hLs,nset_len,nst_len];first|done) (by simp only [seval,go_sem,↓nsP,nsM,nmsN,List.length_cons,List.length_map,hLs,nset_len,nst_len];first|done) (by simp only [seval,go_sem,↓nsP,nsM,nmsN,List.length_cons,List.length_map,hLs,nset_len,nst_len];rfl) ?_)));refine LVs (st := []) ?_)))|(with_reducible (first|refine TVq (st := []) ?_))|simp only [seval,go_sem,↓nsP,nsM,nmsN,List.length_cons,List.length_map,hLs,nset_len,nst_len]|(with_reducible refine oV_st (by simp (disch := omega) only [seval,go_sem,↓nsP,nsM,nmsN,cnd,intV,shV,convV,strV,List.length_cons,List.length_map,hLs,nset_len,nst_len];rfl) ?_))) <;> (try (fail)))
      all_goals ((first|refine isNextVM ((dn ++ [sortK l],rest,s1,a1)) (Imp.healO 160 dn.length 161 1 (by first|assumption) (by simp only [seval,go_sem,↓nsP,nsM,nmsN];rfl) (by simp only [seval,go_sem,↓nsP,nsM,nmsN];rfl) (by first|(simp [hset,List.append_assoc,List.cons_append,List.nil_append,List.length_append,List.length_cons,List.length_nil,hLs];done)) (by decide) (by decide) (by decide) (by simp only [seval,go_sem,↓nsP,nsM,nmsN];rfl) (Imp.les (by (first|refine leQL_spec ?_);(try simp only [seval,go_sem,↓nsP,nsM,nmsN,hset,List.append_assoc,List.cons_append,List.nil_append,List.length_append,List.length_cons,List.length_nil,hLs]);first|((repeat' (with_reducible apply And.intro)) <;> first|rfl);first|done) (by (first|refine leQH_spec ?_);(try simp only [seval,go_sem,↓nsP,nsM,nmsN,hset,List.append_assoc,List.cons_append,List.nil_append,List.length_append,List.length_cons,List.length_nil,hLs]);first|((repeat' (with_reducible apply And.intro)) <;> first|omega);first|done))) ?_ ?_) <;> (try (fail)))
      · refine ⟨by simp only [len1];rw [List.append_assoc];exact hG,⟨fun x hx => Nat.le_trans (hr100 x hx) (by decide),fun x hx => hr100 x (List.mem_of_mem_tail hx)⟩,⟨by simp only [len1];simp only [List.length_cons] at hdr;omega,fun x hx => ?_⟩,hs1,⟨ha1.1,by simp only [len1];omega⟩,by simp only [len1];exact Int.le_trans (wtL_tail _ _ _) hwt⟩
        rcases List.mem_append.1 hx with hx | hx
        · exact hd100 x hx
        · rw [List.mem_singleton.1 hx]; omega
      · simp only [keysN]; omega
    · have hi39 := wt_two hwt (by omega)
      have hmin : min dn.length 64 = dn.length := by omega
      have hp1 := two_pos dn.length
      have hp2 : (2 : Int) ^ dn.length ≤ 2 ^ 39 := by exact_mod_cast Nat.pow_le_pow_right (by decide) hi39
      have hsm : ACalls Try.prog 87 [.sc (.int .i64 s1), .sc (.int .i64 (2 ^ dn.length)), .sc (.int .i64 1099511627776)] (.tup [.sc (.int .i64 (sumT s1 (2 ^ dn.length)).1), .sc (.bool (sumT s1 (2 ^ dn.length)).2)]) [] := addp_calls (by omega) (by omega) (by omega) (by omega) (by omega) (by omega)
      have hrs := sumT_range s1 (2 ^ dn.length)
      have hb0 := bitR_rng c a1
      obtain ⟨b0, hb0'⟩ := Int.eq_ofNat_of_zero_le hb0.1
      have hbt : (bitR c a1).toNat = b0 := by omega
      have hb1 : b0 ≤ 1 := by omega
      have hful := settle_full hG (by omega) hs.1
      have hwf := wt_full l dn.length hb1 rest
      have hup := upK_len (sortK l) hb1
      have hne := upK_ne (l := sortK l) hb1 (by omega)
      have hbi := pbit_calls (c := c) (i := a1) hc (by omega) (by omega)
      have hsl := stayK_len (sortK l)
      rw [hb0'] at hbi
      rw [hbt, addC_ne hne] at hful
      generalize hS : sortK l = S at *
      have hbd := addH_bound (u := evK (lowK S) b0) (ls := rest) (by omega) (fun x hx => hr100 x hx)
      have hadd := add_calls (s := size) (t := total) (sl := (sumT s1 (2 ^ dn.length)).1) (sat := sat) (ls := dn ++ stayK S :: rest) (lv := dn.length + 1) (keys := evK (lowK S) b0) (by simp only [List.length_append, List.length_cons] at hdr ⊢; omega) (by omega) (by omega) (fun x hx => by
        rcases List.mem_append.1 hx with hx | hx
        · exact Nat.le_trans (hd100 x hx) (by decide)
        · rcases List.mem_cons.1 hx with rfl | hx
          · omega
          · exact Nat.le_trans (hr100 x hx) (by decide))
      rw [addL_app, show ((dn.length + 1 : Nat) : Int) = (dn.length : Int) + 1 from by omega] at hadd
      simp only [List.length_append, List.length_cons] at hadd
      rcases Nat.mod_two_eq_zero_or_one S.length with hp | hp
      · have hse := stay_even hp
        have hpar : (l.length : Int) % 2 = 0 := by omega
        have heq : Avm.Obj.ext (nestX 1 (((nst (dn ++ l :: rest)).map NC.own).set dn.length (.own []))) = nestO 1 (nst (dn ++ stayK S :: rest)) := by
          rw [nestO_set hjl, hse]; exact congrArg (nestO 1) (nst_at dn l [] rest)
        (all_goals (try have hZ := (And.intro hpar hLs));(repeat' (first|((with_reducible refine isTriD ?_);first|(with_reducible refine isLoadN ?_;with_reducible refine TriD.loadN (by simp only [seval,go_sem,↓nsP,nsM,nmsN,hZ]) (by simp only [seval,go_sem,↓nsP,nsM,nmsN,hZ];rfl) (by simp only [seval,go_sem,↓nsP,nsM,nmsN,hZ];rfl) (by simp only [seval,go_sem,↓nsP,nsM,nmsN,hZ];rfl) (by simp (disch := omega) only [seval,go_sem,↓nsP,nsM,nmsN,cnd,intV,shV,convV,strV,hZ,nget_set];rfl) (by with_unfolding_all rfl) (by with_unfolding_all rfl) (by simp only [seval,go_sem,↓nsP,nsM,nmsN,hZ];rfl) ?_;refine LVs (st := []) ?_)|((with_reducible refine isCallD ?_);first|((with_reducible (first|(refine TriD.cI (dst := _) [] (by simp only [seval,go_sem,↓nsP,nsM,nmsN,hZ];rfl) (by simp only [seval,go_sem,↓nsP,nsM,nmsN,hZ];first|rfl) (hso) (by simp only [seval,go_sem,↓nsP,nsM,nmsN,hZ];first|done) (by simp only [seval,go_sem,↓nsP,nsM,nmsN,hZ];first|done) (by simp only [seval,go_sem,↓nsP,nsM,nmsN,hZ];rfl) ?_)));refine LVs (st := []) ?_)|((with_reducible refine LVcall (st := []) ?_);simp only [seval,go_sem,↓nsP,nsM,nmsN,hZ];first|(refine CallL.c (hbi) ?_))))|(with_reducible (first|refine TVq (st := []) ?_))|simp only [seval,go_sem,↓nsP,nsM,nmsN,hZ]|(with_reducible refine oV_st (by simp (disch := omega) only [seval,go_sem,↓nsP,nsM,nmsN,cnd,intV,shV,convV,strV,hZ];rfl) ?_))) <;> (try (fail));all_goals (try clear hZ))
        all_goals (refine Tri.virt 10 67 1 (by first | (simp only [seval, go_sem, ↓nsP, nsM, nmsN]; first | done)) (by first | (simp only [seval, go_sem, ↓nsP, nsM, nmsN]; first | done)) (by simp only [seval, go_sem, ↓nsP, nsM, nmsN]; rfl) ?_)
        all_goals (with_reducible refine Tri.loopU (fun (u : Nat × List ByteArray) => [(11,.sc (.int .i64 u.1)),(10,.slo 67 1 0 u.2.length),(55,.any),(56,.any),(57,.any),(58,.any),(59,.any),(60,.any),(61,.any),(62,.any),(63,.any),(64,.any),(65,.any),(66,.any),(67,.any)]) (fun (u : Nat × List ByteArray) => [(67,.row 1 (u.2.map rowKr)),(66,.dead)]) (fun (u : Nat × List ByteArray) => u.2 ++ evK (lowK S) u.1 = evK (lowK S) b0 ∧ u.1 ≤ S.length + 2) (fun (u : Nat × List ByteArray) => S.length + 2 - u.1) ((b0,[])) (⟨rfl,by omega⟩) (by intro _;simp (disch := omega) only [seval,go_sem,↓nsP,nsM,nmsN,cnd,intV,shV,convV,strV];rfl) (by intro _;simp (disch := omega) only [seval,go_sem,↓nsP,nsM,nmsN,cnd,intV,shV,convV,strV];rfl) (by (first|refine leQL_spec ?_);(try simp only [seval,go_sem,↓nsP,nsM,nmsN]);first|done) (by (first|refine leQH_spec ?_);(try simp only [seval,go_sem,↓nsP,nsM,nmsN]);first|done) (fun u hI => ?_))
        all_goals
          obtain ⟨k, up⟩ := u
          obtain ⟨hu, hku⟩ := hI
          simp only at hu hku
          have hupl : up.length ≤ 100 := by
            have := congrArg List.length hu
            rw [List.length_append, hup] at this
            omega
          by_cases hkl : k < S.length / 2 * 2
          · obtain ⟨x, hx⟩ := get_lt (show k < S.length by omega)
            have hx' := get_map rowKr hx
            rw [evK_lt (lowK_get hkl hx)] at hu
            (all_goals (try have hZ := (And.intro hx' hLs));(repeat' (first|(with_reducible (first|refine TVq (st := []) ?_))|simp only [seval,go_sem,↓nsP,nsM,nmsN,rowKr,hZ]|(with_reducible refine oV_st (by simp (disch := omega) only [seval,go_sem,↓nsP,nsM,nmsN,cnd,intV,shV,convV,strV,rowKr,hZ];rfl) ?_))) <;> (try (fail));all_goals (try clear hZ))
            all_goals (refine isNextM ((k + 2,up ++ [x])) (by (first|refine leQL_spec ?_);(try simp only [seval,go_sem,↓nsP,nsM,nmsN,rowKr,List.length_append,List.length_map,List.length_cons,List.length_nil]);first|((repeat' (with_reducible apply And.intro)) <;> first|rfl);first|done) (by (first|refine leQH_spec ?_);(try simp only [seval,go_sem,↓nsP,nsM,nmsN,rowKr,List.length_append,List.length_map,List.length_cons,List.length_nil]);first|((repeat' (with_reducible apply And.intro)) <;> first|(simp [rowKr,List.length_append,List.length_map,List.length_cons,List.length_nil];done));first|done) ?_ ?_ <;> (try (first|omega)))
            all_goals exact ⟨by simpa using hu, by simp only; omega⟩
          · rw [evK_ge (by rw [lowK_len]; omega), List.append_nil] at hu
            subst hu
            (all_goals (try have hZ := (And.intro hLs hmin));(repeat' (first|((with_reducible refine isTriD ?_);first|(with_reducible refine isStoreN ?_;with_reducible refine TriD.storeN (by simp only [seval,go_sem,↓nsP,nsM,nmsN,Int.one_mul,nset_len,nst_len,List.length_append,List.length_cons,hZ]) (by simp only [seval,go_sem,↓nsP,nsM,nmsN,Int.one_mul,nset_len,nst_len,List.length_append,List.length_cons,hZ];rfl) (by with_unfolding_all rfl) (by simp only [seval,go_sem,↓nsP,nsM,nmsN,Int.one_mul,nset_len,nst_len,List.length_append,List.length_cons,hZ];rfl) (by simp only [seval,go_sem,↓nsP,nsM,nmsN,Int.one_mul,nset_len,nst_len,List.length_append,List.length_cons,hZ];rfl) (by simp only [seval,go_sem,↓nsP,nsM,nmsN,Int.one_mul,nset_len,nst_len,List.length_append,List.length_cons,hZ];rfl) (by first|(simp only [seval,go_sem,↓nsP,nsM,nmsN,Int.one_mul,nset_len,nst_len,List.length_append,List.length_cons,hZ];first|omega)) (by simp only [seval,go_sem,↓nsP,nsM,nmsN,Int.one_mul,nset_len,nst_len,List.length_append,List.length_cons,hZ];rfl) ?_;refine LVs (st := []) ?_)|((with_reducible refine isCallD ?_);first|((with_reducible refine LVcall (st := []) ?_);simp only [seval,go_sem,↓nsP,nsM,nmsN,Int.one_mul,nset_len,nst_len,List.length_append,List.length_cons,hZ];first|(refine CallL.c (hsm) ?_;simp only [seval,go_sem,↓nsP,nsM,nmsN,Int.one_mul,nset_len,nst_len,List.length_append,List.length_cons,hZ];(fail_if_success (with_reducible refine isResV ?_)))))|((with_reducible first|refine TriD.step (by simp only [seval,go_sem,↓nsP,nsM,nmsN,Int.one_mul,nset_len,nst_len,List.length_append,List.length_cons,hZ];rfl) ?_);refine LVs (st := []) ?_)|(with_reducible refine TriD.frz 67 (by simp only [seval,go_sem,↓nsP,nsM,nmsN,Int.one_mul,nset_len,nst_len,List.length_append,List.length_cons,hZ];rfl) (by simp only [seval,go_sem,↓nsP,nsM,nmsN,Int.one_mul,nset_len,nst_len,List.length_append,List.length_cons,hZ];rfl) ?_;refine LVs (st := []) ?_))|(with_reducible refine isDrawnN 16 ?_;refine Tri.mixedP 16 mix 14 rfl (.f 0 <| .f 1 <| .f 5 <| .f 6 <| .a <| .b 2 (.f 3 <| .a <| .b 4 (.a <| .b 7 (.f 8 <| .f 9 <| .f 10 <| .a <| .b 11 (.f 12 <| .a <| .b 13 (.d) .e) .e) .e) .e) .e) (by kernel_rfl) ?_)|(with_reducible refine isAnyP ?_;first|refine AnyP.D ?_|refine AnyP.F (by simp only [seval,go_sem,↓nsP,nsM,nmsN,List.getElem?_cons_succ,List.getElem?_cons_zero];rfl) (by first|(simp only [seval,go_sem,↓nsP,nsM,nmsN,Int.one_mul,nset_len,nst_len,List.length_append,List.length_cons,hZ];first|done)) (by first|(simp only [seval,go_sem,↓nsP,nsM,nmsN,Int.one_mul,nset_len,nst_len,List.length_append,List.length_cons,hZ];with_reducible rfl)|(simp (disch := omega) only [seval,go_sem,↓nsP,nsM,nmsN,cnd,intV,shV,convV,strV,Int.one_mul,nset_len,nst_len,List.length_append,List.length_cons,hZ];with_reducible rfl)) ?_|refine AnyP.A ?_)|(with_reducible first|exact NextsP.E|refine NextsP.B (by simp only [seval,go_sem,↓nsP,nsM,nmsN,List.getElem?_cons_succ,List.getElem?_cons_zero];rfl) ?_ ?_)|(with_reducible (first|refine TVq (st := []) ?_))|simp only [seval,go_sem,↓nsP,nsM,nmsN,Int.one_mul,nset_len,nst_len,List.length_append,List.length_cons,hZ]|(with_reducible refine oV_st (by simp (disch := omega) only [seval,go_sem,↓nsP,nsM,nmsN,cnd,intV,shV,convV,strV,Int.one_mul,nset_len,nst_len,List.length_append,List.length_cons,hZ];rfl) ?_))) <;> (try (fail));all_goals (try clear hZ))
            all_goals (refine TriD.setOT 160 (by simp only [seval, go_sem, ↓nsP, nsM, nmsN]; first | done) (heq) (by first | (simp; done)) (by simp only [seval, go_sem, ↓nsP, nsM, nmsN]; rfl) ?_)
            all_goals ((repeat' (first|((with_reducible refine isTriD ?_);first|((with_reducible refine isCallD ?_);first|((with_reducible (first|(refine TriD.cJ (dst := some 94) [94] (by simp only [seval,go_sem,↓nsP,nsM,nmsN,List.length_append,List.length_cons];rfl) (by simp only [seval,go_sem,↓nsP,nsM,nmsN,List.length_append,List.length_cons];first|rfl) (hadd) (by simp only [seval,go_sem,↓nsP,nsM,nmsN,List.length_append,List.length_cons];first|done) (by simp only [seval,go_sem,↓nsP,nsM,nmsN,List.length_append,List.length_cons];first|done) (by simp only [seval,go_sem,↓nsP,nsM,nmsN,List.length_append,List.length_cons];rfl) ?_)));refine LVs (st := []) ?_)))|simp only [seval,go_sem,↓nsP,nsM,nmsN,List.length_append,List.length_cons]|(with_reducible refine oV_st (by simp (disch := omega) only [seval,go_sem,↓nsP,nsM,nmsN,cnd,intV,shV,convV,strV,List.length_append,List.length_cons];rfl) ?_))) <;> (try (fail)))
            all_goals ((first|refine isNextVM ((dn ++ [stayK S],addH (evK (lowK S) b0) rest,(sumT s1 (2 ^ dn.length)).1,a1 + 1)) (Imp.rnTo 94 160 (by decide) (by first|(simp only [seval,go_sem,↓nsP,nsM,nmsN];first|done)) (by simp only [seval,go_sem,↓nsP,nsM,nmsN];rfl) (Imp.les (by (first|refine leQL_spec ?_);(try simp only [seval,go_sem,↓nsP,nsM,nmsN,List.append_assoc,List.cons_append,List.nil_append,List.length_append,List.length_cons,List.length_nil]);first|((repeat' (with_reducible apply And.intro)) <;> first|rfl);first|done) (by (first|refine leQH_spec ?_);(try simp only [seval,go_sem,↓nsP,nsM,nmsN,List.append_assoc,List.cons_append,List.nil_append,List.length_append,List.length_cons,List.length_nil]);first|((repeat' (with_reducible apply And.intro)) <;> first|omega);first|done))) ?_ ?_) <;> (try (fail)))
            · refine ⟨by simp only [len1] at hful ⊢; exact hful, hbd, ⟨by simp only [len1, addH_len]; simp only [List.length_cons] at hdr; omega, fun x hx => ?_⟩, hrs, ⟨by simp only; omega, by simp only [len1]; omega⟩, ?_⟩
              · rcases List.mem_append.1 hx with hx | hx
                · exact hd100 x hx
                · rw [List.mem_singleton.1 hx]; omega
              · have h0 : 0 ≤ ((stayK S).length : Int) * 2 ^ dn.length := Int.mul_nonneg (by omega) (by omega)
                simp only [len1]
                omega
            · have hk2 := keysN_addH (evK (lowK S) b0) rest
              simp only [keysN]
              omega
      · obtain ⟨x0, hx0, hse⟩ := stay_odd hp
        have hx0' := get_map rowKr hx0
        rw [hLs] at hx0'
        have hpar : (l.length : Int) % 2 = 1 := by omega
        have heq : nestO 1 ((nst (dn ++ l :: rest)).set dn.length [[D.sc (.string x0)]]) = nestO 1 (nst (dn ++ stayK S :: rest)) := by
          rw [hse]; exact congrArg (nestO 1) (nst_at dn l [x0] rest)
        have hcast : ((l.length : Int) - 1).toNat = l.length - 1 := by omega
        (all_goals (try have hZ := (And.intro hx0' (And.intro hcast (And.intro hpar hLs))));(repeat' (first|((with_reducible refine isTriD ?_);first|(with_reducible refine isLoadN ?_;with_reducible refine TriD.loadN (by simp only [seval,go_sem,↓nsP,nsM,nmsN,rowKr,hZ]) (by simp only [seval,go_sem,↓nsP,nsM,nmsN,rowKr,hZ];rfl) (by simp only [seval,go_sem,↓nsP,nsM,nmsN,rowKr,hZ];rfl) (by simp only [seval,go_sem,↓nsP,nsM,nmsN,rowKr,hZ];rfl) (by simp (disch := omega) only [seval,go_sem,↓nsP,nsM,nmsN,cnd,intV,shV,convV,strV,rowKr,hZ,nget_set];rfl) (by with_unfolding_all rfl) (by with_unfolding_all rfl) (by simp only [seval,go_sem,↓nsP,nsM,nmsN,rowKr,hZ];rfl) ?_;refine LVs (st := []) ?_)|((with_reducible refine isCallD ?_);first|((with_reducible (first|(refine TriD.cI (dst := _) [] (by simp only [seval,go_sem,↓nsP,nsM,nmsN,rowKr,hZ];rfl) (by simp only [seval,go_sem,↓nsP,nsM,nmsN,rowKr,hZ];first|rfl) (hso) (by simp only [seval,go_sem,↓nsP,nsM,nmsN,rowKr,hZ];first|done) (by simp only [seval,go_sem,↓nsP,nsM,nmsN,rowKr,hZ];first|done) (by simp only [seval,go_sem,↓nsP,nsM,nmsN,rowKr,hZ];rfl) ?_)));refine LVs (st := []) ?_)|((with_reducible refine LVcall (st := []) ?_);simp only [seval,go_sem,↓nsP,nsM,nmsN,rowKr,hZ];first|(refine CallL.c (hbi) ?_))))|(with_reducible (first|refine TVq (st := []) ?_))|simp only [seval,go_sem,↓nsP,nsM,nmsN,rowKr,hZ]|(with_reducible refine oV_st (by simp (disch := omega) only [seval,go_sem,↓nsP,nsM,nmsN,cnd,intV,shV,convV,strV,rowKr,hZ];rfl) ?_))) <;> (try (fail));all_goals (try clear hZ))
        all_goals (refine Tri.virt 10 67 1 (by first | (simp only [seval, go_sem, ↓nsP, nsM, nmsN]; first | done)) (by first | (simp only [seval, go_sem, ↓nsP, nsM, nmsN]; first | done)) (by simp only [seval, go_sem, ↓nsP, nsM, nmsN]; rfl) ?_)
        all_goals (with_reducible refine Tri.loopU (fun (u : Nat × List ByteArray) => [(11,.sc (.int .i64 u.1)),(10,.slo 67 1 0 u.2.length),(55,.any),(56,.any),(57,.any),(58,.any),(59,.any),(60,.any),(61,.any),(62,.any),(63,.any),(64,.any),(65,.any),(66,.any),(67,.any)]) (fun (u : Nat × List ByteArray) => [(67,.row 1 (u.2.map rowKr)),(66,.dead)]) (fun (u : Nat × List ByteArray) => u.2 ++ evK (lowK S) u.1 = evK (lowK S) b0 ∧ u.1 ≤ S.length + 2) (fun (u : Nat × List ByteArray) => S.length + 2 - u.1) ((b0,[])) (⟨rfl,by omega⟩) (by intro _;simp (disch := omega) only [seval,go_sem,↓nsP,nsM,nmsN,cnd,intV,shV,convV,strV];rfl) (by intro _;simp (disch := omega) only [seval,go_sem,↓nsP,nsM,nmsN,cnd,intV,shV,convV,strV];rfl) (by (first|refine leQL_spec ?_);(try simp only [seval,go_sem,↓nsP,nsM,nmsN]);first|done) (by (first|refine leQH_spec ?_);(try simp only [seval,go_sem,↓nsP,nsM,nmsN]);first|done) (fun u hI => ?_))
        all_goals
          obtain ⟨k, up⟩ := u
          obtain ⟨hu, hku⟩ := hI
          simp only at hu hku
          have hupl : up.length ≤ 100 := by
            have := congrArg List.length hu
            rw [List.length_append, hup] at this
            omega
          by_cases hkl : k < S.length / 2 * 2
          · obtain ⟨x, hx⟩ := get_lt (show k < S.length by omega)
            have hx' := get_map rowKr hx
            rw [evK_lt (lowK_get hkl hx)] at hu
            (all_goals (try have hZ := (And.intro hx' hLs));(repeat' (first|(with_reducible (first|refine TVq (st := []) ?_))|simp only [seval,go_sem,↓nsP,nsM,nmsN,rowKr,hZ]|(with_reducible refine oV_st (by simp (disch := omega) only [seval,go_sem,↓nsP,nsM,nmsN,cnd,intV,shV,convV,strV,rowKr,hZ];rfl) ?_))) <;> (try (fail));all_goals (try clear hZ))
            all_goals (refine isNextM ((k + 2,up ++ [x])) (by (first|refine leQL_spec ?_);(try simp only [seval,go_sem,↓nsP,nsM,nmsN,rowKr,List.length_append,List.length_map,List.length_cons,List.length_nil]);first|((repeat' (with_reducible apply And.intro)) <;> first|rfl);first|done) (by (first|refine leQH_spec ?_);(try simp only [seval,go_sem,↓nsP,nsM,nmsN,rowKr,List.length_append,List.length_map,List.length_cons,List.length_nil]);first|((repeat' (with_reducible apply And.intro)) <;> first|(simp [rowKr,List.length_append,List.length_map,List.length_cons,List.length_nil];done));first|done) ?_ ?_ <;> (try (first|omega)))
            all_goals exact ⟨by simpa using hu, by simp only; omega⟩
          · rw [evK_ge (by rw [lowK_len]; omega), List.append_nil] at hu
            subst hu
            (all_goals (try have hZ := (And.intro hLs hmin));(repeat' (first|((with_reducible refine isTriD ?_);first|(with_reducible refine isStoreN ?_;with_reducible refine TriD.storeN (by simp only [seval,go_sem,↓nsP,nsM,nmsN,Int.one_mul,nset_len,nst_len,List.length_append,List.length_cons,hZ]) (by simp only [seval,go_sem,↓nsP,nsM,nmsN,Int.one_mul,nset_len,nst_len,List.length_append,List.length_cons,hZ];rfl) (by with_unfolding_all rfl) (by simp only [seval,go_sem,↓nsP,nsM,nmsN,Int.one_mul,nset_len,nst_len,List.length_append,List.length_cons,hZ];rfl) (by simp only [seval,go_sem,↓nsP,nsM,nmsN,Int.one_mul,nset_len,nst_len,List.length_append,List.length_cons,hZ];rfl) (by simp only [seval,go_sem,↓nsP,nsM,nmsN,Int.one_mul,nset_len,nst_len,List.length_append,List.length_cons,hZ];rfl) (by first|(simp only [seval,go_sem,↓nsP,nsM,nmsN,Int.one_mul,nset_len,nst_len,List.length_append,List.length_cons,hZ];first|omega)) (by simp only [seval,go_sem,↓nsP,nsM,nmsN,Int.one_mul,nset_len,nst_len,List.length_append,List.length_cons,hZ];rfl) ?_;refine LVs (st := []) ?_)|((with_reducible refine isCallD ?_);first|((with_reducible refine LVcall (st := []) ?_);simp only [seval,go_sem,↓nsP,nsM,nmsN,Int.one_mul,nset_len,nst_len,List.length_append,List.length_cons,hZ];first|(refine CallL.c (hsm) ?_;simp only [seval,go_sem,↓nsP,nsM,nmsN,Int.one_mul,nset_len,nst_len,List.length_append,List.length_cons,hZ];(fail_if_success (with_reducible refine isResV ?_)))))|((with_reducible first|refine TriD.step (by simp only [seval,go_sem,↓nsP,nsM,nmsN,Int.one_mul,nset_len,nst_len,List.length_append,List.length_cons,hZ];rfl) ?_);refine LVs (st := []) ?_)|(with_reducible refine TriD.frz 67 (by simp only [seval,go_sem,↓nsP,nsM,nmsN,Int.one_mul,nset_len,nst_len,List.length_append,List.length_cons,hZ];rfl) (by simp only [seval,go_sem,↓nsP,nsM,nmsN,Int.one_mul,nset_len,nst_len,List.length_append,List.length_cons,hZ];rfl) ?_;refine LVs (st := []) ?_))|(with_reducible refine isDrawnN 16 ?_;refine Tri.mixedP 16 mix 14 rfl (.f 0 <| .f 1 <| .f 5 <| .f 6 <| .a <| .b 2 (.f 3 <| .a <| .b 4 (.a <| .b 7 (.f 8 <| .f 9 <| .f 10 <| .a <| .b 11 (.f 12 <| .a <| .b 13 (.d) .e) .e) .e) .e) .e) (by kernel_rfl) ?_)|(with_reducible refine isAnyP ?_;first|refine AnyP.D ?_|refine AnyP.F (by simp only [seval,go_sem,↓nsP,nsM,nmsN,List.getElem?_cons_succ,List.getElem?_cons_zero];rfl) (by first|(simp only [seval,go_sem,↓nsP,nsM,nmsN,Int.one_mul,nset_len,nst_len,List.length_append,List.length_cons,hZ];first|done)) (by first|(simp only [seval,go_sem,↓nsP,nsM,nmsN,Int.one_mul,nset_len,nst_len,List.length_append,List.length_cons,hZ];with_reducible rfl)|(simp (disch := omega) only [seval,go_sem,↓nsP,nsM,nmsN,cnd,intV,shV,convV,strV,Int.one_mul,nset_len,nst_len,List.length_append,List.length_cons,hZ];with_reducible rfl)) ?_|refine AnyP.A ?_)|(with_reducible first|exact NextsP.E|refine NextsP.B (by simp only [seval,go_sem,↓nsP,nsM,nmsN,List.getElem?_cons_succ,List.getElem?_cons_zero];rfl) ?_ ?_)|(with_reducible (first|refine TVq (st := []) ?_))|simp only [seval,go_sem,↓nsP,nsM,nmsN,Int.one_mul,nset_len,nst_len,List.length_append,List.length_cons,hZ]|(with_reducible refine oV_st (by simp (disch := omega) only [seval,go_sem,↓nsP,nsM,nmsN,cnd,intV,shV,convV,strV,Int.one_mul,nset_len,nst_len,List.length_append,List.length_cons,hZ];rfl) ?_))) <;> (try (fail));all_goals (try clear hZ))
            all_goals (refine TriD.impT (Imp.healO 160 dn.length 46 1 (by first|assumption) (by simp only [seval,go_sem,↓nsP,nsM,nmsN];rfl) (by simp only [seval,go_sem,↓nsP,nsM,nmsN];rfl) (by first|rfl) (by decide) (by decide) (by decide) (by simp only [seval,go_sem,↓nsP,nsM,nmsN];rfl) (Imp.refl _)) ?_)
            all_goals (refine TriD.setOT 160 (by simp only [seval, go_sem, ↓nsP, nsM, nmsN]; first | done) (heq) (by first | exact nestO_ne) (by simp only [seval, go_sem, ↓nsP, nsM, nmsN]; rfl) ?_)
            all_goals ((repeat' (first|((with_reducible refine isTriD ?_);first|((with_reducible refine isCallD ?_);first|((with_reducible (first|(refine TriD.cJ (dst := some 94) [94] (by simp only [seval,go_sem,↓nsP,nsM,nmsN,List.length_append,List.length_cons];rfl) (by simp only [seval,go_sem,↓nsP,nsM,nmsN,List.length_append,List.length_cons];first|rfl) (hadd) (by simp only [seval,go_sem,↓nsP,nsM,nmsN,List.length_append,List.length_cons];first|done) (by simp only [seval,go_sem,↓nsP,nsM,nmsN,List.length_append,List.length_cons];first|done) (by simp only [seval,go_sem,↓nsP,nsM,nmsN,List.length_append,List.length_cons];rfl) ?_)));refine LVs (st := []) ?_)))|simp only [seval,go_sem,↓nsP,nsM,nmsN,List.length_append,List.length_cons]|(with_reducible refine oV_st (by simp (disch := omega) only [seval,go_sem,↓nsP,nsM,nmsN,cnd,intV,shV,convV,strV,List.length_append,List.length_cons];rfl) ?_))) <;> (try (fail)))
            all_goals ((first|refine isNextVM ((dn ++ [stayK S],addH (evK (lowK S) b0) rest,(sumT s1 (2 ^ dn.length)).1,a1 + 1)) (Imp.rnTo 94 160 (by decide) (by first|(simp only [seval,go_sem,↓nsP,nsM,nmsN];first|done)) (by simp only [seval,go_sem,↓nsP,nsM,nmsN];rfl) (Imp.les (by (first|refine leQL_spec ?_);(try simp only [seval,go_sem,↓nsP,nsM,nmsN,List.append_assoc,List.cons_append,List.nil_append,List.length_append,List.length_cons,List.length_nil]);first|((repeat' (with_reducible apply And.intro)) <;> first|rfl);first|done) (by (first|refine leQH_spec ?_);(try simp only [seval,go_sem,↓nsP,nsM,nmsN,List.append_assoc,List.cons_append,List.nil_append,List.length_append,List.length_cons,List.length_nil]);first|((repeat' (with_reducible apply And.intro)) <;> first|omega);first|done))) ?_ ?_) <;> (try (fail)))
            · refine ⟨by simp only [len1] at hful ⊢; exact hful, hbd, ⟨by simp only [len1, addH_len]; simp only [List.length_cons] at hdr; omega, fun x hx => ?_⟩, hrs, ⟨by simp only; omega, by simp only [len1]; omega⟩, ?_⟩
              · rcases List.mem_append.1 hx with hx | hx
                · exact hd100 x hx
                · rw [List.mem_singleton.1 hx]; omega
              · have h0 : 0 ≤ ((stayK S).length : Int) * 2 ^ dn.length := Int.mul_nonneg (by omega) (by omega)
                simp only [len1]
                omega
            · have hk2 := keysN_addH (evK (lowK S) b0) rest
              simp only [keysN]
              omega
end Go.Proofs.Ytnckgbmifigadaa
