/- The reference's list of the versions of a dump, in their order: its walk. -/
import Derived.Test.YtmgodadmafcliaaGreatZCoB
import Derived.Test.YtmgodadmafcliaaGreatZVnP
set_option linter.unusedSimpArgs false
set_option linter.unusedVariables false
namespace Go.Proofs.YtmgodadmafcliaaGreat
open Go.RowKit Go.Avm
set_option maxRecDepth 100000 in set_option maxHeartbeats 3200000 in
theorem point_calls {a b c d:Int} {p:List (List D)}:ACalls Tryz.prog 37 [.agg [.sc (.int .i64 a), .sc (.int .i64 b), .sc (.int .i64 c), .sc (.int .i64 d), .sl 1 p]] (.agg [.sc (.int .i64 a), .sc (.int .i64 b)]) []:=by
 refine of_tri [] [1,2] Tryz.func37 rfl call37 rfl (by decide) (by decide) rfl rfl Tryz.ntmps37 (by simp (disch:=omega) only [seval,go_sem,cnd,intV,shV,convV,strV,List.replicate,l_2,l_1];rfl) (by simp (disch:=omega) only [seval,go_sem,cnd,intV,shV,convV,strV,l_2,l_1];rfl) ?_
 ((repeat' (first|(with_reducible refine isRet ?_;refine RetV (rs:=[.cell 2 40]) (by with_unfolding_all rfl) rfl ?_<;>simp only [seval,go_sem]<;>(repeat' (with_reducible apply And.intro))<;>(try rfl))|(with_reducible (refine TVq (st:=[]) ?_))|simp only [seval,go_sem]))<;>(try (fail)))
set_option maxRecDepth 100000 in set_option maxHeartbeats 3200000 in
theorem before_calls {a b c d:Int}:ACalls Tryz.prog 36 [.agg [.sc (.int .i64 a), .sc (.int .i64 b)], .agg [.sc (.int .i64 c), .sc (.int .i64 d)]] (.sc (.bool (ptLt a b c d))) []:=by
 refine of_tri [] [2,3] Tryz.func36 rfl call36 rfl (by decide) (by decide) rfl rfl Tryz.ntmps36 (by simp (disch:=omega) only [seval,go_sem,cnd,intV,shV,convV,strV,List.replicate,l_2,l_1];rfl) (by simp (disch:=omega) only [seval,go_sem,cnd,intV,shV,convV,strV,l_2,l_1];rfl) ?_
 ((repeat' (first|(with_reducible refine isCv ?_;intro hc;(try simp only [bls,reduceCtorEq] at hc);(try (exfalso;omega)))|((with_reducible refine isTriD ?_);((with_reducible first|refine TriD.step (by simp only [seval,go_sem];rfl) ?_|refine TriD.step (by simp (disch:=omega) only [seval,go_sem,cnd,intV,shV,convV,strV];rfl) ?_);refine LVs (st:=[21,22]) ?_))|(with_reducible refine isRet ?_;refine RetV (rs:=[.tmp 4]) (by with_unfolding_all rfl) rfl ?_<;>simp only [seval,go_sem]<;>(repeat' (with_reducible apply And.intro))<;>(try rfl))|(with_reducible (refine TVq (st:=[21,22]) ?_))|simp only [seval,go_sem]|(with_reducible first|refine oV_st (by simp (disch:=omega) only [seval,go_sem,cnd,intV,shV,convV,strV];rfl) ?_|refine gV_split (by simp only [seval,go_sem];rfl) (by simp only [seval,go_sem];rfl) (by simp only [seval,go_sem];done) (cvI ?_) (cvI ?_) (by simp only [seval,go_sem]))))<;>(try (fail)))
 all_goals (unfold ptLt;by_cases h1:a<c<;>by_cases h2:a=c<;>by_cases h3:b<d<;>simp_all<;>omega)
theorem versO_step {id:Int} {l:List Ver} {k:Nat} {v:Ver} {a A:List Vn} (hv:l[k]? = some v) (hf:versO id (l.drop k) a=A):versO id (l.drop (k+1)) (insV ⟨id,v⟩ a)=A:=by
 rw [drop_get hv] at hf;exact hf
theorem versR_step {l:List Ob} {k:Nat} {o:Ob} {a A:List Vn} (ho:l[k]? = some o) (hf:versR (l.drop k) a=A):versR (l.drop (k+1)) (versO o.id o.vers a)=A:=by
 rw [drop_get ho] at hf;exact hf
theorem mul1000 {k:Nat}:1000*(k+1)=1000*k+1000:=by omega
set_option maxRecDepth 100000 in set_option maxHeartbeats 12800000 in
theorem versr_calls {com:Int} {l:List Ob} {bd pn pg:List (List D)} (hl:l.length≤1000) (hv: ∀ o∈l,o.vers.length≤1000):ACalls Tryz.prog 32 [.agg [.sc (.int .i64 com), .sl 2 (l.map rowOb), .sl 4 bd, .sl 2 pn, .sl 3 pg]] (.sl 5 ((versR l []).map rowVn)) []:=by
 generalize hA:versR l []=A
 refine of_tri [] [1,42,43,54,60,61] Tryz.func32 rfl call32 rfl (by decide) (by decide) rfl rfl Tryz.ntmps32 (by simp (disch:=omega) only [seval,go_sem,cnd,intV,shV,convV,strV,List.replicate,l_2,l_1];rfl) (by simp (disch:=omega) only [seval,go_sem,cnd,intV,shV,convV,strV,l_2,l_1];rfl) ?_
 ((repeat' (first|(with_reducible (refine TVq (st:=[]) ?_))|simp only [seval,go_sem]))<;>(try (fail)))
 all_goals (refine Tri.bx 1 (by simp only [seval,go_sem];rfl) (by simp only [seval,go_sem];first|done|rfl) (by simp only [seval,go_sem];rfl) ?_)
 all_goals (refine Tri.virt 3 43 5 (by first|(simp only [seval,go_sem];done)) (by first|(simp only [seval,go_sem];done)) (by simp only [seval,go_sem];rfl) ?_)
 all_goals (with_reducible refine Tri.loopU (fun (t:Nat×List Vn)=>[(4,.sc (.int .i64 t.1)),(3,.slo 43 5 0 t.2.length),(5,.any),(6,.any),(7,.any),(8,.any),(9,.any),(10,.any),(11,.any),(12,.any),(13,.any),(14,.any),(15,.any),(16,.any),(17,.any),(18,.any),(19,.any),(20,.any),(21,.any),(22,.any),(23,.any),(24,.any),(25,.any),(26,.any),(27,.any),(28,.any),(29,.any),(30,.any),(31,.any),(32,.any),(33,.any),(34,.any),(35,.any),(36,.any),(37,.any),(38,.any),(39,.any),(40,.any),(41,.any),(42,.any),(43,.any),(44,.any),(45,.any),(46,.any),(47,.any),(48,.any),(49,.any),(50,.any),(51,.any),(52,.any),(53,.any),(54,.any),(55,.any),(56,.any),(57,.any),(58,.any),(59,.any),(60,.any),(61,.any),(62,.any),(63,.any),(64,.any),(65,.any),(66,.any),(67,.any),(68,.any),(69,.any),(70,.any),(71,.any),(72,.any),(73,.any),(74,.any),(75,.any),(76,.any),(77,.any),(78,.any),(79,.any),(80,.any)]) (fun (t:Nat×List Vn)=>[(43,.row 5 (t.2.map rowVn)),(42,.dead),(54,.dead),(60,.dead),(61,.dead)]) (fun (t:Nat×List Vn)=>t.1≤l.length∧t.2.length≤1000*t.1∧versR (l.drop t.1) t.2=A) (fun (t:Nat×List Vn)=>l.length-t.1) ((0,[])) (⟨Nat.zero_le _,by simp,by simpa using hA⟩) (by intro _;simp (disch:=omega) only [seval,go_sem,cnd,intV,shV,convV,strV];rfl) (by intro _;simp (disch:=omega) only [seval,go_sem,cnd,intV,shV,convV,strV];rfl) (by (refine leQL_spec ?_);(try simp only [seval,go_sem]);done) (by (refine leQH_spec ?_);(try simp only [seval,go_sem]);done) (fun t hI=>?_))
 all_goals
  obtain ⟨k,a⟩:=t
  obtain ⟨hk,hal,hf⟩:=hI
  simp only at hk hal hf
  by_cases hlt:k<l.length
  ·obtain ⟨o,ho⟩:=get_lt hlt
   have ho':=get_map rowOb ho
   have hvl:=hv o (List.mem_of_getElem? ho)
   have h2:=versR_step ho hf
   generalize hB:versO o.id o.vers a=B at h2
   ((repeat' (first|(with_reducible (refine TVq (st:=[]) ?_))|simp only [seval,go_sem,ho',rowOb]|(with_reducible refine oV_st (by simp (disch:=omega) only [seval,go_sem,cnd,intV,shV,convV,strV,ho',rowOb];rfl) ?_)))<;>(try (fail)))
   all_goals (with_reducible refine Tri.loopU (fun (t:Nat×List Vn)=>[(5,.sc (.int .i64 t.1)),(3,.slo 43 5 0 t.2.length),(6,.any),(14,.any),(15,.any),(16,.any),(17,.any),(18,.any),(19,.any),(20,.any),(21,.any),(22,.any),(23,.any),(24,.any),(25,.any),(26,.any),(27,.any),(28,.any),(29,.any),(30,.any),(31,.any),(32,.any),(33,.any),(34,.any),(35,.any),(36,.any),(37,.any),(38,.any),(39,.any),(40,.any),(41,.any),(42,.any),(43,.any),(44,.any),(45,.any),(46,.any),(47,.any),(48,.any),(49,.any),(50,.any),(51,.any),(52,.any),(53,.any),(54,.any),(55,.any),(56,.any),(57,.any),(58,.any),(59,.any),(60,.any),(61,.any),(62,.any),(63,.any),(64,.any),(65,.any),(66,.any),(67,.any),(68,.any),(69,.any),(70,.any),(71,.any),(72,.any),(73,.any),(74,.any),(75,.any),(76,.any),(77,.any),(78,.any),(79,.any),(80,.any)]) (fun (t:Nat×List Vn)=>[(43,.row 5 (t.2.map rowVn)),(42,.dead),(54,.dead),(60,.dead),(61,.dead)]) (fun (t:Nat×List Vn)=>t.1≤o.vers.length∧t.2.length≤1000*k+t.1∧versO o.id (o.vers.drop t.1) t.2=B) (fun (t:Nat×List Vn)=>o.vers.length-t.1) ((0,a)) (⟨Nat.zero_le _,by simpa using hal,by simpa using hB⟩) (by intro _;simp (disch:=omega) only [seval,go_sem,cnd,intV,shV,convV,strV];rfl) (by intro _;simp (disch:=omega) only [seval,go_sem,cnd,intV,shV,convV,strV];rfl) (by (refine leQL_spec ?_);(try simp only [seval,go_sem]);done) (by (refine leQH_spec ?_);(try simp only [seval,go_sem]);done) (fun t hI=>?_))
   all_goals
    obtain ⟨j,a2⟩:=t
    obtain ⟨hj,hal2,hf2⟩:=hI
    simp only at hj hal2 hf2
    by_cases hlt2:j<o.vers.length
    ·obtain ⟨v,hvj⟩:=get_lt hlt2
     have hvj':=get_map rowV hvj
     have h3:=versO_step hvj hf2
     have hk1:=mul1000 (k:=k)
     have hl1:(List.map rowVn a2++[[D.sc (Value.int IntKind.i64 o.id),D.sc (Value.int IntKind.i64 v.from_),D.sc (Value.int IntKind.i64 v.to),D.sc (Value.int IntKind.i64 v.size),D.sl 1 (List.map rowI v.pages)]]).length=a2.length+1:=by simp
     have hen:(List.map rowVn a2++[[D.sc (Value.int IntKind.i64 o.id),D.sc (Value.int IntKind.i64 v.from_),D.sc (Value.int IntKind.i64 v.to),D.sc (Value.int IntKind.i64 v.size),D.sl 1 (List.map rowI v.pages)]])=(insAt a2 a2.length ⟨o.id,v⟩).map rowVn:=by rw [insAt_end];simp [rowVn]
     (all_goals (try have hZ:=(And.intro ho' (And.intro hvj' hl1)));(repeat' (first|((with_reducible refine isTriD ?_);((with_reducible first|refine TriD.step (by simp only [seval,go_sem,rowOb,rowV,hZ];rfl) ?_|refine TriD.step (by simp (disch:=omega) only [seval,go_sem,cnd,intV,shV,convV,strV,rowOb,rowV,hZ];rfl) ?_);refine LVs (st:=[]) ?_))|(with_reducible refine isDrawnN 8 ?_;(try (refine Tri.bx 1 (by simp only [seval,go_sem,rowOb,rowV,hZ];rfl) (by simp only [seval,go_sem,rowOb,rowV,hZ];fail) (by simp only [seval,go_sem,rowOb,rowV,hZ];rfl) ?_));refine Tri.mixedP 8 mix 20 rfl (.f 0 <| .f 1 <| .f 3 <| .f 7 <| .f 9 <| .f 13 <| .r 2 <| .f 4 <| .f 5 <| .r 6 <| .r 8 <| .f 10 <| .f 11 <| .r 12 <| .f 14 <| .r 15 <| .a <| .b 16 (.a <| .b 17 (.a <| .b 18 (.f 19 <| .d) .e) .e) .e) (by kernel_rfl) ?_)|(with_reducible refine isAnyP ?_;first|refine AnyP.D ?_|refine AnyP.F (by simp only [seval,go_sem,l_7,l_6];rfl) (by first|(simp only [seval,go_sem,rowOb,rowV,hZ];done)) (by first|(simp only [seval,go_sem,rowOb,rowV,hZ];with_reducible rfl)|(simp (disch:=omega) only [seval,go_sem,cnd,intV,shV,convV,strV,rowOb,rowV,hZ];with_reducible rfl)) ?_|refine AnyP.R (by simp only [seval,go_sem,l_7,l_6];rfl) (by first|(refine .inl ?_;simp only [seval,go_sem,rowOb,rowV,hZ];done)) (by first|(simp only [seval,go_sem,rowOb,rowV,hZ];with_reducible rfl)) ?_|refine AnyP.A ?_)|(with_reducible first|exact NextsP.E|refine NextsP.B (by simp only [seval,go_sem,l_7,l_6];rfl) ?_ ?_)|(with_reducible (refine TVq (st:=[]) ?_))|simp only [seval,go_sem,rowOb,rowV,hZ]|(with_reducible refine oV_st (by simp (disch:=omega) only [seval,go_sem,cnd,intV,shV,convV,strV,rowOb,rowV,hZ];rfl) ?_)))<;>(try (fail));all_goals (try clear hZ))
     all_goals (with_reducible refine Tri.loopU (fun (j2:Nat)=>[(6,.sc (.int .i64 j2)),(3,.slo 43 5 0 (a2.length+1)),(47,.any),(48,.any),(49,.any),(50,.any),(51,.any),(52,.any),(53,.any),(54,.any),(55,.any),(56,.any),(57,.any),(58,.any),(59,.any),(60,.any),(61,.any),(62,.any),(63,.any),(64,.any),(65,.any),(66,.any),(67,.any),(68,.any),(69,.any),(70,.any),(71,.any),(72,.any),(73,.any),(74,.any),(75,.any),(76,.any),(77,.any),(78,.any),(79,.any),(80,.any)]) (fun (j2:Nat)=>[(43,.row 5 ((insAt a2 j2 ⟨o.id,v⟩).map rowVn)),(54,.dead),(60,.dead),(61,.dead)]) (fun (j2:Nat)=>j2≤a2.length∧stopAt (fun k=>befV ⟨o.id,v⟩ (vnGet a2 k)) j2=stopAt (fun k=>befV ⟨o.id,v⟩ (vnGet a2 k)) a2.length) (fun (j2:Nat)=>j2) (a2.length) (⟨Nat.le_refl _,rfl⟩) (by intro _;simp (disch:=omega) only [seval,go_sem,cnd,intV,shV,convV,strV];rfl) (by intro _;simp (disch:=omega) only [seval,go_sem,cnd,intV,shV,convV,strV];rfl) (by (refine leQL_spec ?_);(try simp only [seval,go_sem,hen]);first|((repeat' (with_reducible apply And.intro))<;>first|omega);done) (by (refine leQH_spec ?_);(try simp only [seval,go_sem,hen]);done) (fun j2 hI=>?_))
     all_goals
      obtain ⟨hj2,hst⟩:=hI
      have hgo: ∀ {R:Prop},(∀ B',stopAt (fun k=>befV ⟨o.id,v⟩ (vnGet a2 k)) a2.length=j2→versO o.id (o.vers.drop (j+1)) (insAt a2 j2 ⟨o.id,v⟩)=B'→B'=B→R)→stopAt (fun k=>befV ⟨o.id,v⟩ (vnGet a2 k)) a2.length=j2→R:=fun r e=>r _ e rfl (by rw [← h3,insV,e])
      have hli:(insAt a2 j2 ⟨o.id,v⟩).length=a2.length+1:=insAt_len hj2
      have hll:((insAt a2 j2 ⟨o.id,v⟩).map rowVn).length=a2.length+1:=by rw [List.length_map];exact hli
      rcases j2 with _|j2
      ·refine hgo (fun B' e1 e2 e3=>?_) (by rw [← hst];rfl)
       subst e3
       ((repeat' (first|(with_reducible refine ListD.nil ?_)|((with_reducible refine isListD ?_);(with_reducible first|refine ListD.step (by simp only [seval,go_sem,hll];rfl) ?_|refine ListD.step (by simp (disch:=omega) only [seval,go_sem,cnd,intV,shV,convV,strV,hll];rfl) ?_))|(with_reducible refine isDrawn ?_;refine Tri.drawnD mix (by kernel_rfl) (by simp only [l_3,l_4];rfl) ?_)|(with_reducible (refine TVq (st:=[]) ?_))|simp only [seval,go_sem,hll]|(with_reducible refine oV_st (by simp (disch:=omega) only [seval,go_sem,cnd,intV,shV,convV,strV,hll];rfl) ?_)))<;>(try (fail)))
       all_goals (try (refine isNextM ((j+1,insAt a2 0 ⟨o.id,v⟩)) (by (refine leQL_spec ?_);(try simp only [seval,go_sem,hli]);first|((repeat' (with_reducible apply And.intro))<;>first|rfl);done) (by (refine leQH_spec ?_);(try simp only [seval,go_sem,hli]);done) ?_ ?_<;>(try (omega))))
       all_goals (try exact ⟨by simp only;omega,by simp only [hli];omega,e2⟩)
      ·obtain ⟨y,hy⟩:=get_lt (show j2<a2.length by omega)
       have g1:=get_map rowVn (insAt_at (x:=⟨o.id,v⟩) hj2)
       have g2:=get_map rowVn ((insAt_pre (x:=⟨o.id,v⟩) hj2).trans hy)
       have hsw:=congrArg (List.map rowVn) (insAt_swap (x:=⟨o.id,v⟩) hy)
       simp only [List.map_set] at hsw
       have ey:vnGet a2 j2=y:=by simp [vnGet,hy]
       rw [stopAt] at hst
       simp only [ey,befV] at hst
       have e1:((j2+1:Nat):Int)-1=j2:=by omega
       simp only [rowVn] at hsw
       generalize hR:insAt a2 (j2+1) ⟨o.id,v⟩=RR at *
       cases hb:ptLt o.id v.from_ y.id y.v.from_ with
       | true=>
         rw [hb,if_pos rfl] at hst
         have g3:((List.map rowVn RR).set (j2+1) (rowVn y))[j2]? = some (rowVn y):=by rw [List.getElem?_set_ne (by omega)];exact g2
         simp only [rowVn] at g3
         ((repeat' (first|((with_reducible refine isTriD ?_);((with_reducible first|refine TriD.step (by simp only [seval,go_sem,g1,g2,g3,rowVn,hb,e1];rfl) ?_);refine LVs (st:=[]) ?_))|(with_reducible refine ListD.nil ?_)|((with_reducible refine isListD ?_);first|(with_reducible refine ListD.step (by simp only [seval,go_sem,g1,g2,g3,rowVn,hb,e1];rfl) ?_)|((with_reducible refine isCallV ?_);((with_reducible (refine ListD.dE (by simp only [seval,go_sem,g1,g2,g3,rowVn,hb,e1];rfl) (by simp only [seval,go_sem,g1,g2,g3,rowVn,hb,e1];rfl) ?_));first|refine CallW.c (point_calls) (by simp only [seval,go_sem,g1,g2,g3,rowVn,hb,e1];rfl) ?_|refine CallW.c (before_calls) (by simp only [seval,go_sem,g1,g2,g3,rowVn,hb,e1];rfl) ?_))|(with_reducible refine ListD.step (by simp (disch:=omega) only [seval,go_sem,cnd,intV,shV,convV,strV,g1,g2,g3,rowVn,hb,e1];rfl) ?_))|(with_reducible refine isDrawnN 12 ?_;(try (refine Tri.bx 1 (by simp only [seval,go_sem,g1,g2,g3,rowVn,hb,e1];rfl) (by simp only [seval,go_sem,g1,g2,g3,rowVn,hb,e1];fail) (by simp only [seval,go_sem,g1,g2,g3,rowVn,hb,e1];rfl) ?_));refine Tri.mixedP 12 mix 18 rfl (.f 0 <| .f 1 <| .f 2 <| .f 3 <| .f 4 <| .f 5 <| .f 6 <| .f 7 <| .f 8 <| .f 10 <| .f 11 <| .f 12 <| .a <| .b 9 (.a <| .b 13 (.f 14 <| .a <| .b 15 (.f 16 <| .a <| .b 17 (.d) .e) .e) .e) <| .b 13 (.a <| .b 9 (.f 14 <| .a <| .b 15 (.f 16 <| .a <| .b 17 (.d) .e) .e) .e) .e) (by kernel_rfl) ?_)|(with_reducible refine isAnyP ?_;first|refine AnyP.D ?_|refine AnyP.F (by simp only [seval,go_sem,l_7,l_6];rfl) (by first|(simp only [seval,go_sem,g1,g2,g3,rowVn,hb,e1];done)) (by first|(simp only [seval,go_sem,g1,g2,g3,rowVn,hb,e1];with_reducible rfl)|(simp (disch:=omega) only [seval,go_sem,cnd,intV,shV,convV,strV,g1,g2,g3,rowVn,hb,e1];with_reducible rfl)) ?_|refine AnyP.A ?_)|(with_reducible first|exact NextsP.E|refine NextsP.B (by simp only [seval,go_sem,l_7,l_6];rfl) ?_ ?_)|(with_reducible refine isDrawn ?_;refine Tri.drawnD mix (by kernel_rfl) (by simp only [l_3,l_4];rfl) ?_)|(with_reducible (refine TVq (st:=[]) ?_))|simp only [seval,go_sem,g1,g2,g3,rowVn,hb,e1]|(with_reducible refine oV_st (by simp (disch:=omega) only [seval,go_sem,cnd,intV,shV,convV,strV,g1,g2,g3,rowVn,hb,e1];rfl) ?_)))<;>(try (fail)))
         all_goals (try (refine isNextM (j2) (by (refine leQL_spec ?_);(try simp only [seval,go_sem,hsw]);done) (by (refine leQH_spec ?_);(try simp only [seval,go_sem,hsw]);done) ?_ ?_<;>(try (omega))))
         all_goals (try exact ⟨by omega,hst⟩)
       | false=>
         rw [hb,if_neg (by decide)] at hst
         refine hgo (fun B' e4 e2 e3=>?_) hst.symm
         subst e3
         (all_goals (try have hZ:=(And.intro hb hll));(repeat' (first|(with_reducible refine ListD.nil ?_)|((with_reducible refine isListD ?_);first|(with_reducible refine ListD.step (by simp only [seval,go_sem,g1,g2,rowVn,e1,hZ];rfl) ?_)|((with_reducible refine isCallV ?_);((with_reducible (refine ListD.dE (by simp only [seval,go_sem,g1,g2,rowVn,e1,hZ];rfl) (by simp only [seval,go_sem,g1,g2,rowVn,e1,hZ];rfl) ?_));first|refine CallW.c (point_calls) (by simp only [seval,go_sem,g1,g2,rowVn,e1,hZ];rfl) ?_|refine CallW.c (before_calls) (by simp only [seval,go_sem,g1,g2,rowVn,e1,hZ];rfl) ?_))|(with_reducible refine ListD.step (by simp (disch:=omega) only [seval,go_sem,cnd,intV,shV,convV,strV,g1,g2,rowVn,e1,hZ];rfl) ?_))|(with_reducible refine isDrawn ?_;refine Tri.drawnD mix (by kernel_rfl) (by simp only [l_3,l_4];rfl) ?_)|(with_reducible (refine TVq (st:=[]) ?_))|simp only [seval,go_sem,g1,g2,rowVn,e1,hZ]|(with_reducible refine oV_st (by simp (disch:=omega) only [seval,go_sem,cnd,intV,shV,convV,strV,g1,g2,rowVn,e1,hZ];rfl) ?_)))<;>(try (fail));all_goals (try clear hZ))
         all_goals (try (refine isNextM ((j+1,RR)) (by (refine leQL_spec ?_);(try simp only [seval,go_sem,hli]);first|((repeat' (with_reducible apply And.intro))<;>first|rfl);done) (by (refine leQH_spec ?_);(try simp only [seval,go_sem,hli]);done) ?_ ?_<;>(try (omega))))
         all_goals (try exact ⟨by simp only;omega,by simp only [hli];omega,e2⟩)
    ·rw [List.drop_eq_nil_of_le (by omega)] at hf2
     have h3:a2=B:=hf2
     subst h3
     ((repeat' (first|(with_reducible (refine TVq (st:=[]) ?_))|simp only [seval,go_sem,ho',rowOb]|(with_reducible refine oV_st (by simp (disch:=omega) only [seval,go_sem,cnd,intV,shV,convV,strV,ho',rowOb];rfl) ?_)))<;>(try (fail)))
     all_goals (try (refine isNextM ((k+1,a2)) (by (refine leQL_spec ?_);(try simp only [seval,go_sem]);first|((repeat' (with_reducible apply And.intro))<;>first|rfl);done) (by (refine leQH_spec ?_);(try simp only [seval,go_sem]);done) ?_ ?_<;>(try (omega))))
     all_goals (try exact ⟨by simp only;omega,by simp only;omega,h2⟩)
  ·rw [List.drop_eq_nil_of_le (by omega)] at hf
   have h3:a=A:=hf
   subst h3
   have hll:(List.map rowVn a).length=a.length:=List.length_map _
   ((repeat' (first|(with_reducible refine isRet ?_;(refine RetOK.frz 43 (by simp only [seval,go_sem];rfl) (by simp only [seval,go_sem,hll];rfl) ?_);(with_reducible refine isRet ?_;refine RetOK.q rfl rfl (by simp only [seval,go_sem];rfl) (by decide) (by simp only [seval,go_sem];rfl) (by simp only [seval,go_sem];rfl) rfl ?_<;>(try simp only [seval,go_sem,hll])<;>(repeat' (with_reducible apply And.intro))<;>(try rfl)))|(with_reducible (refine TVq (st:=[]) ?_))|simp only [seval,go_sem,hll]|(with_reducible refine oV_st (by simp (disch:=omega) only [seval,go_sem,cnd,intV,shV,convV,strV,hll];rfl) ?_)))<;>(try (fail)))
   all_goals (try exact List.take_of_length_le (by rw [hll];omega))
end Go.Proofs.YtmgodadmafcliaaGreat
