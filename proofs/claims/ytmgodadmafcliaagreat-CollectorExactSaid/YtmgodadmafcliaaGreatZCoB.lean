/- Collector: the walks of the stable sort (at most nineteen), of entries, Garbage, before and Next of the program. -/
import Derived.Test.YtmgodadmafcliaaGreatZVnP
import Derived.Lib.RowBridge
import Derived.Test.YtmgodadmafcliaaGreatZDiC
set_option linter.unusedSimpArgs false
set_option linter.unusedVariables false
namespace Go.Proofs.YtmgodadmafcliaaGreat
open Go.RowKit Go.Avm
set_option maxRecDepth 100000 in set_option maxHeartbeats 6400000 in
theorem stable_calls {l:List Vn} {n:Nat} (hn:l.length=n) (hl:n≤19):MCalls Tryz.prog 81 [.row 5 (l.map rowVn)] [.slo 0 5 0 n, .sc (.int .i64 n), .fn 60 []] (.tup []) [.row 5 ((sortV [] l).map rowVn)]:=by
 have hi:=isortv_calls (l:=l) (pre:=[]) (post:=[]) (a:=0) (b:=n) (n:=n) rfl (by omega) (by simp) (by omega)
 simp only [List.nil_append,List.append_nil,Int.ofNat_zero] at hi
 refine of_tri [1000] [18,27,43,60] Tryz.func81 rfl call81 rfl (by decide) (by decide) rfl rfl Tryz.ntmps81 (by simp (disch:=omega) only [seval,go_sem,cnd,intV,shV,convV,strV,List.replicate,l_2,l_1];rfl) (by simp (disch:=omega) only [seval,go_sem,cnd,intV,shV,convV,strV,l_2,l_1];rfl) ?_
 ((repeat' (first|(with_reducible (refine TVq (st:=[]) ?_))|simp only [seval,go_sem]))<;>(try (fail)))
 all_goals (with_reducible refine Tri.loopU (fun (k:Nat)=>[(7,.sc (.int .i64 0)),(8,.sc (.int .i64 20)),(11,.any),(12,.any),(13,.any),(14,.any),(15,.any),(16,.any),(17,.any),(18,.any),(19,.any),(20,.any),(21,.any),(22,.any)]) (fun (k:Nat)=>[(1000,.row 5 (l.map rowVn)),(18,.dead)]) (fun (k:Nat)=>True) (fun (k:Nat)=>0) (0) (trivial) (by intro _;simp (disch:=omega) only [seval,go_sem,cnd,intV,shV,convV,strV];rfl) (by intro _;simp (disch:=omega) only [seval,go_sem,cnd,intV,shV,convV,strV];rfl) (by (refine leQL_spec ?_);(try simp only [seval,go_sem]);done) (by (refine leQH_spec ?_);(try simp only [seval,go_sem]);done) (fun k hI=>?_))
 all_goals ((repeat' (first|((with_reducible refine isTriD ?_);((with_reducible refine isCallD ?_);((with_reducible ((refine TriD.cI (dst:=_) [] (by simp only [seval,go_sem];rfl) (by simp only [seval,go_sem];rfl) (hi) (by simp only [seval,go_sem];done) (by simp only [seval,go_sem];done) (by simp only [seval,go_sem];rfl) ?_)));refine LVs (st:=[]) ?_)))|(with_reducible (refine TVq (st:=[]) ?_))|simp only [seval,go_sem]|(with_reducible refine oV_st (by simp (disch:=omega) only [seval,go_sem,cnd,intV,shV,convV,strV];rfl) ?_)))<;>(try (fail)))
 all_goals (with_reducible refine Tri.loopU (fun (k:Nat)=>[(6,.sc (.int .i64 20)),(7,.sc (.int .i64 0)),(8,.sc (.int .i64 20)),(9,.any),(28,.any),(29,.any),(30,.any),(31,.any),(32,.any),(33,.any),(34,.any),(35,.any),(36,.any),(37,.any),(38,.any),(39,.any),(40,.any),(41,.any),(42,.any),(43,.any),(44,.any),(45,.any),(46,.any),(47,.any),(48,.any),(49,.any),(50,.any),(51,.any),(52,.any),(53,.any),(54,.any),(55,.any),(56,.any),(57,.any),(58,.any),(59,.any),(60,.any),(61,.any),(62,.any)]) (fun (k:Nat)=>[(1000,.row 5 ((sortV [] l).map rowVn)),(43,.dead),(60,.dead)]) (fun (k:Nat)=>True) (fun (k:Nat)=>0) (0) (trivial) (by intro _;simp (disch:=omega) only [seval,go_sem,cnd,intV,shV,convV,strV];rfl) (by intro _;simp (disch:=omega) only [seval,go_sem,cnd,intV,shV,convV,strV];rfl) (by (refine leQL_spec ?_);(try simp only [seval,go_sem]);done) (by (refine leQH_spec ?_);(try simp only [seval,go_sem]);done) (fun k hI=>?_))
 all_goals ((repeat' (first|(with_reducible refine isRet ?_;refine RetV (rs:=[]) (by with_unfolding_all rfl) rfl ?_<;>simp only [seval,go_sem]<;>(repeat' (with_reducible apply And.intro))<;>(try rfl))|(with_reducible (refine TVq (st:=[]) ?_))|simp only [seval,go_sem]|(with_reducible refine oV_st (by simp (disch:=omega) only [seval,go_sem,cnd,intV,shV,convV,strV];rfl) ?_)))<;>(try (fail)))
set_option maxRecDepth 100000 in set_option maxHeartbeats 6400000 in
theorem sorts_calls {l:List Vn} {n:Nat} (hn:l.length=n) (hl:n≤19):MCalls Tryz.prog 59 [.row 5 (l.map rowVn)] [.slo 0 5 0 n, .fn 60 []] (.tup []) [.row 5 ((sortV [] l).map rowVn)]:=by
 have hi:=stable_calls hn hl
 refine of_tri [1000] [8] Tryz.func59 rfl call59 rfl (by decide) (by decide) rfl rfl Tryz.ntmps59 (by simp (disch:=omega) only [seval,go_sem,cnd,intV,shV,convV,strV,List.replicate,l_2,l_1];rfl) (by simp (disch:=omega) only [seval,go_sem,cnd,intV,shV,convV,strV,l_2,l_1];rfl) ?_
 ((repeat' (first|((with_reducible refine isTriD ?_);((with_reducible refine isCallD ?_);((with_reducible ((refine TriD.cI (dst:=_) [] (by simp only [seval,go_sem];rfl) (by simp only [seval,go_sem];rfl) (hi) (by simp only [seval,go_sem];done) (by simp only [seval,go_sem];done) (by simp only [seval,go_sem];rfl) ?_)));refine LVs (st:=[]) ?_)))|(with_reducible refine isRet ?_;refine RetV (rs:=[]) (by with_unfolding_all rfl) rfl ?_<;>simp only [seval,go_sem]<;>(repeat' (with_reducible apply And.intro))<;>(try rfl))|(with_reducible (refine TVr (st:=[]) ?_))|simp only [seval,go_sem]))<;>(try (fail)))
set_option maxRecDepth 100000 in set_option maxHeartbeats 6400000 in
theorem entries_calls {com:Int} {os:List Ob} {bd pn pg:List (List D)} (ho:os.length≤100000) (hl:(os.flatMap vnsO).length≤19):ACalls Tryz.prog 28 [.agg [.sc (.int .i64 com), .sl 2 (os.map rowOb), .sl 4 bd, .sl 2 pn, .sl 3 pg]] (.sl 5 ((versR os []).map rowVn)) []:=by
 rw [versR_sortV]
 have hso:=fun (n:Nat) (hn:(os.flatMap vnsO).length=n)=>sorts_calls hn (by omega)
 have hsl:=sortV_len (os.flatMap vnsO) []
 generalize hA:os.flatMap vnsO=A at *
 generalize sortV [] A=S at *
 refine of_tri [] [1,5,7,27,28,32] Tryz.func28 rfl call28 rfl (by decide) (by decide) rfl rfl Tryz.ntmps28 (by simp (disch:=omega) only [seval,go_sem,cnd,intV,shV,convV,strV,List.replicate,l_2,l_1];rfl) (by simp (disch:=omega) only [seval,go_sem,cnd,intV,shV,convV,strV,l_2,l_1];rfl) ?_
 ((repeat' (first|(with_reducible (refine TVq (st:=[]) ?_))|simp only [seval,go_sem]))<;>(try (fail)))
 all_goals (refine Tri.virt 3 28 5 (by first|(simp only [seval,go_sem];done)) (by first|(simp only [seval,go_sem];done)) (by simp only [seval,go_sem];rfl) ?_)
 all_goals (with_reducible refine Tri.loopU (fun (t:Nat×List Vn)=>[(11,.sc (.int .i64 t.1)),(3,.slo 28 5 0 t.2.length),(5,.any),(7,.any),(12,.any),(13,.any),(14,.any),(15,.any),(16,.any),(17,.any),(18,.any),(19,.any),(20,.any),(21,.any),(22,.any),(23,.any),(24,.any),(25,.any),(26,.any),(27,.any),(28,.any),(29,.any),(30,.any)]) (fun (t:Nat×List Vn)=>[(28,.row 5 (t.2.map rowVn)),(5,.dead),(7,.dead),(27,.dead)]) (fun (t:Nat×List Vn)=>t.1≤os.length∧t.2++(os.drop t.1).flatMap vnsO=A) (fun (t:Nat×List Vn)=>os.length-t.1) ((0,[])) (⟨Nat.zero_le _,by simpa using hA⟩) (by intro _;simp (disch:=omega) only [seval,go_sem,cnd,intV,shV,convV,strV];rfl) (by intro _;simp (disch:=omega) only [seval,go_sem,cnd,intV,shV,convV,strV];rfl) (by (refine leQL_spec ?_);(try simp only [seval,go_sem]);done) (by (refine leQH_spec ?_);(try simp only [seval,go_sem]);done) (fun t hI=>?_))
 all_goals
  obtain ⟨k,a⟩:=t
  obtain ⟨hk,hf⟩:=hI
  simp only at hk hf
  have hal:a.length≤A.length:=by rw [← hf,List.length_append];omega
  by_cases hlt:k<os.length
  ·obtain ⟨o,hoo⟩:=get_lt hlt
   have ho':=get_map rowOb hoo
   rw [drop_get hoo,List.flatMap_cons] at hf
   generalize hB:(os.drop (k+1)).flatMap vnsO=B at *
   have hvl:o.vers.length≤19:=by
    have:=congrArg List.length hf
    simp only [List.length_append,vnsO,List.length_map] at this;omega
   ((repeat' (first|(with_reducible (refine TVq (st:=[]) ?_))|simp only [seval,go_sem,ho',rowOb]|(with_reducible refine oV_st (by simp (disch:=omega) only [seval,go_sem,cnd,intV,shV,convV,strV,ho',rowOb];rfl) ?_)))<;>(try (fail)))
   all_goals (with_reducible refine Tri.loopU (fun (t:Nat×List Vn)=>[(18,.sc (.int .i64 t.1)),(3,.slo 28 5 0 t.2.length),(7,.any),(19,.any),(20,.any),(21,.any),(22,.any),(23,.any),(24,.any),(25,.any),(26,.any),(27,.any),(28,.any),(29,.any)]) (fun (t:Nat×List Vn)=>[(28,.row 5 (t.2.map rowVn)),(7,.dead),(27,.dead)]) (fun (t:Nat×List Vn)=>t.1≤o.vers.length∧t.2++((o.vers.drop t.1).map fun v=>(⟨o.id,v⟩:Vn))++B=A) (fun (t:Nat×List Vn)=>o.vers.length-t.1) ((0,a)) (⟨Nat.zero_le _,by unfold vnsO at hf;simp only [List.drop_zero];rw [List.append_assoc];exact hf⟩) (by intro _;simp (disch:=omega) only [seval,go_sem,cnd,intV,shV,convV,strV];rfl) (by intro _;simp (disch:=omega) only [seval,go_sem,cnd,intV,shV,convV,strV];rfl) (by (refine leQL_spec ?_);(try simp only [seval,go_sem]);done) (by (refine leQH_spec ?_);(try simp only [seval,go_sem]);done) (fun t hI=>?_))
   all_goals
    obtain ⟨j,a2⟩:=t
    obtain ⟨hj,hf2⟩:=hI
    simp only at hj hf2
    have hal2:a2.length≤A.length:=by rw [← hf2,List.length_append,List.length_append];omega
    by_cases hlt2:j<o.vers.length
    ·obtain ⟨v,hvj⟩:=get_lt hlt2
     have hvj':=get_map rowV hvj
     rw [drop_get hvj,l_3] at hf2
     (all_goals (try have hZ:=(And.intro ho' hvj'));(repeat' (first|(with_reducible (refine TVq (st:=[]) ?_))|simp only [seval,go_sem,rowOb,rowV,hZ]|(with_reducible refine oV_st (by simp (disch:=omega) only [seval,go_sem,cnd,intV,shV,convV,strV,rowOb,rowV,hZ];rfl) ?_)))<;>(try (fail));all_goals (try clear hZ))
     all_goals (try (refine isNextM ((j+1,a2++[⟨o.id,v⟩])) (by (refine leQL_spec ?_);(try simp only [seval,go_sem,rowVn]);first|((repeat' (with_reducible apply And.intro))<;>first|rfl|(simp [rowVn];done));done) (by (refine leQH_spec ?_);(try simp only [seval,go_sem,rowVn]);first|((repeat' (with_reducible apply And.intro))<;>first|(simp [rowVn];done));done) ?_ ?_<;>(try (omega))))
     all_goals (try exact ⟨by simp only;omega,by simp only [List.append_assoc,List.cons_append,List.nil_append] at hf2 ⊢;exact hf2⟩)
    ·rw [List.drop_eq_nil_of_le (by omega),l_4,List.append_nil] at hf2
     ((repeat' (first|(with_reducible (refine TVq (st:=[]) ?_))|simp only [seval,go_sem,ho',rowOb]|(with_reducible refine oV_st (by simp (disch:=omega) only [seval,go_sem,cnd,intV,shV,convV,strV,ho',rowOb];rfl) ?_)))<;>(try (fail)))
     all_goals (try (refine isNextM ((k+1,a2)) (by (refine leQL_spec ?_);(try simp only [seval,go_sem]);first|((repeat' (with_reducible apply And.intro))<;>first|rfl);done) (by (refine leQH_spec ?_);(try simp only [seval,go_sem]);done) ?_ ?_<;>(try (omega))))
     all_goals (try exact ⟨by simp only;omega,by simp only [hB];exact hf2⟩)
  ·rw [List.drop_eq_nil_of_le (by omega),List.flatMap_nil,List.append_nil] at hf
   subst hf
   have hso':=hso a.length rfl
   have hll:(List.map rowVn S).length=a.length:=by rw [List.length_map,hsl];simp
   have htk:(List.map rowVn S).take a.length=List.map rowVn S:=List.take_of_length_le (by omega)
   (all_goals (try have hZ:=(And.intro hll htk));(repeat' (first|((with_reducible refine isTriD ?_);((with_reducible refine isCallD ?_);((with_reducible ((refine TriD.cI (dst:=_) [] (by simp only [seval,go_sem,hZ];rfl) (by simp only [seval,go_sem,hZ];rfl) (hso') (by simp only [seval,go_sem,hZ];done) (by simp only [seval,go_sem,hZ];done) (by simp only [seval,go_sem,hZ];rfl) ?_)));refine LVs (st:=[]) ?_)))|(with_reducible refine isRet ?_;(refine RetOK.frz 28 (by simp only [seval,go_sem];rfl) (by simp only [seval,go_sem,hZ];rfl) ?_);(with_reducible refine isRet ?_;refine RetOK.q rfl rfl (by simp only [seval,go_sem];rfl) (by decide) (by simp only [seval,go_sem];rfl) (by simp only [seval,go_sem];rfl) rfl ?_<;>(try simp only [seval,go_sem,hZ])<;>(repeat' (with_reducible apply And.intro))<;>(try rfl)))|(with_reducible (refine TVq (st:=[]) ?_))|simp only [seval,go_sem,hZ]|(with_reducible refine oV_st (by simp (disch:=omega) only [seval,go_sem,cnd,intV,shV,convV,strV,hZ];rfl) ?_)))<;>(try (fail));all_goals (try clear hZ))
set_option maxRecDepth 100000 in set_option maxHeartbeats 6400000 in
theorem garbage_calls {com:Int} {os:List Ob} {ps:List Pn} {bd pg:List (List D)} (ho:os.length≤100000) (hl:(os.flatMap vnsO).length≤19) (hp:ps.length≤100000):ACalls Tryz.prog 15 [.agg [.sc (.int .i64 com),.sl 2 (os.map rowOb),.sl 4 bd,.sl 2 (ps.map rowP),.sl 3 pg]] (.sl 2 ((garbR ps (versR os [])).map rowVc)) []:=by
 have hen:=entries_calls (com:=com) (bd:=bd) (pn:=ps.map rowP) (pg:=pg) ho hl
 have hel:(versR os []).length≤19:=by rw [versR_sortV,sortV_len];simpa using hl
 generalize versR os []=E at *
 generalize hG:garbR ps E=G
 refine of_tri [] [1,5,7,16,24,25] Tryz.func15 rfl call15 rfl (by decide) (by decide) rfl rfl Tryz.ntmps15 (by simp (disch:=omega) only [seval,go_sem,cnd,intV,shV,convV,strV,List.replicate,l_2,l_1];rfl) (by simp (disch:=omega) only [seval,go_sem,cnd,intV,shV,convV,strV,l_2,l_1];rfl) ?_
 ((repeat' (first|((with_reducible refine isTriD ?_);((with_reducible refine isCallD ?_);((with_reducible refine LVcall (st:=[]) ?_);simp only [seval,go_sem];(refine CallL.c (hen) ?_))))|(with_reducible (refine TVq (st:=[]) ?_))|simp only [seval,go_sem]))<;>(try (fail)))
 all_goals (refine Tri.virt 3 25 2 (by first|(simp only [seval,go_sem];done)) (by first|(simp only [seval,go_sem];done)) (by simp only [seval,go_sem];rfl) ?_)
 all_goals (with_reducible refine Tri.loopU (fun (t:Nat×List Vc)=>[(9,.sc (.int .i64 t.1)),(3,.slo 25 2 0 t.2.length),(5,.any),(10,.any),(11,.any),(12,.any),(13,.any),(14,.any),(15,.any),(16,.any),(17,.any),(18,.any),(19,.any),(20,.any),(21,.any),(22,.any),(23,.any),(24,.any),(25,.any),(26,.any)]) (fun (t:Nat×List Vc)=>[(25,.row 2 (t.2.map rowVc)),(5,.dead),(16,.dead),(24,.dead)]) (fun (t:Nat×List Vc)=>t.1≤E.length∧t.2.length≤t.1∧t.2++garbR ps (E.drop t.1)=G) (fun (t:Nat×List Vc)=>E.length-t.1) ((0,[])) (⟨Nat.zero_le _,by simp,by simpa using hG⟩) (by intro _;simp (disch:=omega) only [seval,go_sem,cnd,intV,shV,convV,strV];rfl) (by intro _;simp (disch:=omega) only [seval,go_sem,cnd,intV,shV,convV,strV];rfl) (by (refine leQL_spec ?_);(try simp only [seval,go_sem]);done) (by (refine leQH_spec ?_);(try simp only [seval,go_sem]);done) (fun t hI=>?_))
 all_goals
  obtain ⟨k,a⟩:=t
  obtain ⟨hk,hal,hf⟩:=hI
  simp only at hk hal hf
  by_cases hlt:k<E.length
  ·obtain ⟨x,hx⟩:=get_lt hlt
   have hx':=get_map rowVn hx
   have hgc:=garb_calls (com:=com) (f:=x.v.from_) (t:=x.v.to) (s:=x.v.size) (p:=x.v.pages.map rowI) (od:=os.map rowOb) (bd:=bd) (pg:=pg) hp
   rw [show (!(x.v.to==0) && !coversP x.v.from_ x.v.to ps)=garbV ps x.v from rfl] at hgc
   rw [drop_get hx,garbR] at hf
   cases hg:garbV ps x.v with
   | true=>
     rw [if_pos hg] at hf
     rw [hg] at hgc
     ((repeat' (first|((with_reducible refine isTriD ?_);((with_reducible refine isCallD ?_);((with_reducible refine LVcall (st:=[]) ?_);simp only [seval,go_sem,hx',rowVn];(refine CallL.c (hgc) ?_))))|(with_reducible (refine TVq (st:=[]) ?_))|simp only [seval,go_sem,hx',rowVn]|(with_reducible refine oV_st (by simp (disch:=omega) only [seval,go_sem,cnd,intV,shV,convV,strV,hx',rowVn];rfl) ?_)))<;>(try (fail)))
     all_goals (try (refine isNextM ((k+1,a++[vcOf x])) (by (refine leQL_spec ?_);(try simp only [seval,go_sem,rowVc,vcOf]);first|((repeat' (with_reducible apply And.intro))<;>first|rfl|(simp [rowVc,vcOf];done));done) (by (refine leQH_spec ?_);(try simp only [seval,go_sem,rowVc,vcOf]);first|((repeat' (with_reducible apply And.intro))<;>first|(simp [rowVc,vcOf];done));done) ?_ ?_<;>(try (omega))))
     all_goals (try exact ⟨by simp only;omega,by simp only [List.length_append,List.length_cons,List.length_nil];omega,by simp only [List.append_assoc,List.cons_append,List.nil_append];exact hf⟩)
   | false=>
     rw [if_neg (by rw [hg];decide)] at hf
     rw [hg] at hgc
     ((repeat' (first|((with_reducible refine isTriD ?_);((with_reducible refine isCallD ?_);((with_reducible refine LVcall (st:=[]) ?_);simp only [seval,go_sem,hx',rowVn];(refine CallL.c (hgc) ?_))))|(with_reducible (refine TVq (st:=[]) ?_))|simp only [seval,go_sem,hx',rowVn]|(with_reducible refine oV_st (by simp (disch:=omega) only [seval,go_sem,cnd,intV,shV,convV,strV,hx',rowVn];rfl) ?_)))<;>(try (fail)))
     all_goals (try (refine isNextM ((k+1,a)) (by (refine leQL_spec ?_);(try simp only [seval,go_sem]);first|((repeat' (with_reducible apply And.intro))<;>first|rfl);done) (by (refine leQH_spec ?_);(try simp only [seval,go_sem]);done) ?_ ?_<;>(try (omega))))
     all_goals (try exact ⟨by simp only;omega,by simp only;omega,hf⟩)
  ·rw [List.drop_eq_nil_of_le (by omega),garbR,List.append_nil] at hf
   subst hf
   have hll:(List.map rowVc a).length=a.length:=List.length_map _
   have htk:(List.map rowVc a).take a.length=List.map rowVc a:=List.take_of_length_le (by omega)
   (all_goals (try have hZ:=(And.intro hll htk));(repeat' (first|(with_reducible refine isRet ?_;(refine RetOK.frz 25 (by simp only [seval,go_sem];rfl) (by simp only [seval,go_sem,hZ];rfl) ?_);(with_reducible refine isRet ?_;refine RetOK.q rfl rfl (by simp only [seval,go_sem];rfl) (by decide) (by simp only [seval,go_sem];rfl) (by simp only [seval,go_sem];rfl) rfl ?_<;>(try simp only [seval,go_sem,hZ])<;>(repeat' (with_reducible apply And.intro))<;>(try rfl)))|(with_reducible (refine TVq (st:=[]) ?_))|simp only [seval,go_sem,hZ]|(with_reducible refine oV_st (by simp (disch:=omega) only [seval,go_sem,cnd,intV,shV,convV,strV,hZ];rfl) ?_)))<;>(try (fail));all_goals (try clear hZ))
set_option maxRecDepth 100000 in set_option maxHeartbeats 3200000 in
theorem beforep_calls {i f t s a b:Int} {p:List (List D)}:ACalls Tryz.prog 35 [.agg [.sc (.int .i64 i), .sc (.int .i64 f), .sc (.int .i64 t), .sc (.int .i64 s), .sl 1 p], .agg [.sc (.int .i64 a), .sc (.int .i64 b)]] (.sc (.bool (ptLt i f a b))) []:=by
 refine of_tri [] [2,3] Tryz.func35 rfl call35 rfl (by decide) (by decide) rfl rfl Tryz.ntmps35 (by simp (disch:=omega) only [seval,go_sem,cnd,intV,shV,convV,strV,List.replicate,l_2,l_1];rfl) (by simp (disch:=omega) only [seval,go_sem,cnd,intV,shV,convV,strV,l_2,l_1];rfl) ?_
 ((repeat' (first|(with_reducible refine isCv ?_;intro hc;(try simp only [bls,reduceCtorEq] at hc);(try (exfalso;omega)))|((with_reducible refine isTriD ?_);((with_reducible first|refine TriD.step (by simp only [seval,go_sem];rfl) ?_|refine TriD.step (by simp (disch:=omega) only [seval,go_sem,cnd,intV,shV,convV,strV];rfl) ?_);refine LVs (st:=[22,23]) ?_))|(with_reducible refine isRet ?_;refine RetV (rs:=[.tmp 4]) (by with_unfolding_all rfl) rfl ?_<;>simp only [seval,go_sem]<;>(repeat' (with_reducible apply And.intro))<;>(try rfl))|(with_reducible (refine TVq (st:=[22,23]) ?_))|simp only [seval,go_sem]|(with_reducible first|refine oV_st (by simp (disch:=omega) only [seval,go_sem,cnd,intV,shV,convV,strV];rfl) ?_|refine gV_split (by simp only [seval,go_sem];rfl) (by simp only [seval,go_sem];rfl) (by simp only [seval,go_sem];done) (cvI ?_) (cvI ?_) (by simp only [seval,go_sem]))))<;>(try (fail)))
 all_goals (unfold ptLt;by_cases h1:i<a<;>by_cases h2:i=a<;>by_cases h3:f<b<;>simp_all<;>omega)
set_option maxRecDepth 100000 in set_option maxHeartbeats 12800000 in
theorem next_calls {com c:Int} {os:List Ob} {ps:List Pn} {bd pg:List (List D)} {p:Vc} (ho:os.length≤100000) (hl:(os.flatMap vnsO).length≤19) (hp:ps.length≤100000) (hcr:c≤9223372036854775807) (hfr: ∀ x∈versR os [],-9223372036854775808≤x.v.from_):ACalls Tryz.prog 17 [.agg [.sc (.int .i64 com),.sl 2 (os.map rowOb),.sl 4 bd,.sl 2 (ps.map rowP),.sl 3 pg],.agg (rowVc p),.sc (.int .i64 c)] (.tup [.sl 2 ((nextP ps p (versR os []) c [] p).1.map rowVc),.agg (rowVc (nextP ps p (versR os []) c [] p).2.1),.sc (.bool (nextP ps p (versR os []) c [] p).2.2)]) []:=by
 have hen:=entries_calls (com:=com) (bd:=bd) (pn:=ps.map rowP) (pg:=pg) ho hl
 have hel:(versR os []).length≤19:=by rw [versR_sortV,sortV_len];simpa using hl
 generalize versR os []=E at *
 generalize hG:nextP ps p E c [] p=G
 obtain ⟨GV,⟨GA,GB⟩,GD⟩:=G
 obtain ⟨pa,pb⟩:=p
 simp only [rowVc]
 refine of_tri [] [3,4,7,10,13,21,31,39,40] Tryz.func17 rfl call17 rfl (by decide) (by decide) rfl rfl Tryz.ntmps17 (by simp (disch:=omega) only [seval,go_sem,cnd,intV,shV,convV,strV,List.replicate,l_2,l_1];rfl) (by simp (disch:=omega) only [seval,go_sem,cnd,intV,shV,convV,strV,l_2,l_1];rfl) ?_
 ((repeat' (first|((with_reducible refine isTriD ?_);((with_reducible refine isCallD ?_);((with_reducible refine LVcall (st:=[]) ?_);simp only [seval,go_sem];(refine CallL.c (hen) ?_))))|(with_reducible (refine TVq (st:=[]) ?_))|simp only [seval,go_sem]))<;>(try (fail)))
 all_goals (refine Tri.virt 6 40 2 (by first|(simp only [seval,go_sem];done)) (by first|(simp only [seval,go_sem];done)) (by simp only [seval,go_sem];rfl) ?_)
 all_goals (with_reducible refine Tri.loopU (fun (t:Nat×Int×List Vc×Int×Int)=>[(15,.sc (.int .i64 t.1)),(2,.sc (.int .i64 t.2.1)),(6,.slo 40 2 0 t.2.2.1.length),(8,.any),(10,.any),(16,.any),(17,.any),(18,.any),(19,.any),(20,.any),(21,.any),(22,.any),(23,.any),(24,.any),(25,.any),(26,.any),(27,.any),(28,.any),(29,.any),(30,.any),(31,.any),(32,.any),(33,.any),(34,.any),(35,.any),(36,.any),(37,.any),(38,.any),(39,.any),(40,.any),(41,.any),(42,.any),(43,.any),(44,.any),(45,.any),(46,.any),(47,.any),(48,.any),(49,.any),(50,.any),(51,.any),(52,.any),(53,.any),(54,.any)]) (fun (t:Nat×Int×List Vc×Int×Int)=>[(40,.row 2 (t.2.2.1.map rowVc)),(7,.box [.sc (.int .i64 t.2.2.2.1),.sc (.int .i64 t.2.2.2.2)]),(10,.dead),(21,.dead),(31,.dead),(39,.dead)]) (fun (t:Nat×Int×List Vc×Int×Int)=>t.1≤E.length∧t.2.2.1.length≤t.1∧t.2.1≤c∧(t.2.1<c→0≤t.2.1)∧nextP ps ⟨pa,pb⟩ (E.drop t.1) t.2.1 t.2.2.1 ⟨t.2.2.2.1,t.2.2.2.2⟩=(GV,⟨GA,GB⟩,GD)) (fun (t:Nat×Int×List Vc×Int×Int)=>E.length-t.1) ((0,c,[],pa,pb)) (⟨Nat.zero_le _,by simp,Int.le_refl _,by simp,by simpa using hG⟩) (by intro _;simp (disch:=omega) only [seval,go_sem,cnd,intV,shV,convV,strV];rfl) (by intro _;simp (disch:=omega) only [seval,go_sem,cnd,intV,shV,convV,strV];rfl) (by (refine leQL_spec ?_);(try simp only [seval,go_sem]);done) (by (refine leQH_spec ?_);(try simp only [seval,go_sem]);done) (fun t hI=>?_))
 all_goals
  obtain ⟨k,c2,a,na,nb⟩:=t
  obtain ⟨hk,hal,hc1,hc2,hf⟩:=hI
  simp only at hk hal hc1 hc2 hf
  by_cases hlt:k<E.length
  ·obtain ⟨x,hx⟩:=get_lt hlt
   have hx':=get_map rowVn hx
   have hxf:=hfr x (List.mem_of_getElem? hx)
   have hgc:=garb_calls (com:=com) (f:=x.v.from_) (t:=x.v.to) (s:=x.v.size) (p:=x.v.pages.map rowI) (od:=os.map rowOb) (bd:=bd) (pg:=pg) hp
   rw [show (!(x.v.to==0) && !coversP x.v.from_ x.v.to ps)=garbV ps x.v from rfl] at hgc
   have hbc:=beforep_calls (i:=x.id) (f:=x.v.from_) (t:=x.v.to) (s:=x.v.size) (p:=x.v.pages.map rowI) (a:=pa) (b:=pb)
   rw [show ptLt x.id x.v.from_ pa pb=befP x ⟨pa,pb⟩ from rfl] at hbc
   rw [drop_get hx,nextP] at hf
   cases hb:befP x ⟨pa,pb⟩ with
   | true=>
     rw [if_pos hb] at hf
     rw [hb] at hbc
     ((repeat' (first|((with_reducible refine isTriD ?_);((with_reducible refine isCallD ?_);((with_reducible refine LVcall (st:=[]) ?_);simp only [seval,go_sem,hx',rowVn];(refine CallL.c (hbc) ?_))))|(with_reducible (refine TVq (st:=[]) ?_))|simp only [seval,go_sem,hx',rowVn]|(with_reducible refine oV_st (by simp (disch:=omega) only [seval,go_sem,cnd,intV,shV,convV,strV,hx',rowVn];rfl) ?_)))<;>(try (fail)))
     all_goals (try (refine isNextM ((k+1,c2,a,na,nb)) (by (refine leQL_spec ?_);(try simp only [seval,go_sem]);first|((repeat' (with_reducible apply And.intro))<;>first|rfl);done) (by (refine leQH_spec ?_);(try simp only [seval,go_sem]);done) ?_ ?_<;>(try (omega))))
     all_goals (try exact ⟨by simp only;omega,by simp only;omega,hc1,hc2,hf⟩)
   | false=>
     rw [if_neg (by rw [hb];decide)] at hf
     rw [hb] at hbc
     by_cases hc0:c2≤0
     ·rw [if_pos hc0] at hf
      simp only [Prod.mk.injEq,Vc.mk.injEq] at hf
      obtain ⟨rfl,⟨rfl,rfl⟩,rfl⟩:=hf
      have hll:(List.map rowVc a).length=a.length:=List.length_map _
      have htk:(List.map rowVc a).take a.length=List.map rowVc a:=List.take_of_length_le (by omega)
      (all_goals (try have hZ:=(And.intro hx' (And.intro hll htk)));(repeat' (first|((with_reducible refine isTriD ?_);first|((with_reducible refine isCallD ?_);((with_reducible refine LVcall (st:=[]) ?_);simp only [seval,go_sem,rowVn,hZ];(refine CallL.c (hbc) ?_)))|((with_reducible first|refine TriD.step (by simp only [seval,go_sem,rowVn,hZ];rfl) ?_);refine LVs (st:=[]) ?_))|(with_reducible refine isDrawnN 7 ?_;refine Tri.mixedP 7 mix 5 rfl (.f 0 <| .f 2 <| .a <| .b 1 (.a <| .b 3 (.f 4 <| .d) .e) .e) (by kernel_rfl) ?_)|(with_reducible refine isAnyP ?_;first|refine AnyP.D ?_|refine AnyP.F (by simp only [seval,go_sem,l_7,l_6];rfl) (by first|(simp only [seval,go_sem,rowVn,hZ];done)) (by first|(simp only [seval,go_sem,rowVn,hZ];with_reducible rfl)) ?_|refine AnyP.A ?_)|(with_reducible first|exact NextsP.E|refine NextsP.B (by simp only [seval,go_sem,l_7,l_6];rfl) ?_ ?_)|(with_reducible refine isRet ?_;(refine RetOK.frz 40 (by simp only [seval,go_sem];rfl) (by simp only [seval,go_sem,rowVn,hZ];rfl) ?_);(with_reducible refine isRet ?_;refine RetOK.q rfl (by with_unfolding_all (show retD _ _ [.tmp 6,.cell 7 40,.tmp 8]=_);simp only [seval,go_sem];rfl) (by simp only [seval,go_sem];rfl) (by decide) (by simp only [seval,go_sem];rfl) (by simp only [seval,go_sem];rfl) rfl ?_<;>(try simp only [seval,go_sem,rowVn,hZ])<;>(repeat' (with_reducible apply And.intro))<;>(try rfl)))|(with_reducible (refine TVq (st:=[]) ?_))|simp only [seval,go_sem,rowVn,hZ]|(with_reducible refine oV_st (by simp (disch:=omega) only [seval,go_sem,cnd,intV,shV,convV,strV,rowVn,hZ];rfl) ?_)))<;>(try (fail));all_goals (try clear hZ))
     ·rw [if_neg hc0] at hf
      have hg:garbV ps x.v=true∨garbV ps x.v=false:=by cases garbV ps x.v<;>simp
      have hm:x.v.from_<9223372036854775807∨ ¬ x.v.from_<9223372036854775807:=by omega
      rcases hg with hg|hg<;>rcases hm with hm|hm
      ·rw [hg,if_pos rfl,bumpV,if_pos hm] at hf
       rw [hg] at hgc
       (all_goals (try have hZ:=(And.intro hx' hm));(repeat' (first|((with_reducible refine isTriD ?_);((with_reducible refine isCallD ?_);((with_reducible refine LVcall (st:=[]) ?_);simp only [seval,go_sem,rowVn,hZ];first|(refine CallL.c (hbc) ?_)|(refine CallL.c (hgc) ?_))))|(with_reducible (refine TVq (st:=[]) ?_))|simp only [seval,go_sem,rowVn,hZ]|(with_reducible refine oV_st (by simp (disch:=omega) only [seval,go_sem,cnd,intV,shV,convV,strV,rowVn,hZ];rfl) ?_)))<;>(try (fail));all_goals (try clear hZ))
       all_goals (try (refine isNextM ((k+1,c2-1,a++[vcOf x],x.id,x.v.from_+1)) (by (refine leQL_spec ?_);(try simp only [seval,go_sem,rowVc,vcOf]);first|((repeat' (with_reducible apply And.intro))<;>first|rfl|(simp [rowVc,vcOf];done));done) (by (refine leQH_spec ?_);(try simp only [seval,go_sem,rowVc,vcOf]);first|((repeat' (with_reducible apply And.intro))<;>first|(simp [rowVc,vcOf];done));done) ?_ ?_<;>(try (omega))))
       all_goals (try exact ⟨by simp only;omega,by simp only [List.length_append,List.length_cons,List.length_nil];omega,by simp only;omega,by simp only;omega,hf⟩)
      ·rw [hg,if_pos rfl,bumpV,if_neg hm] at hf
       rw [hg] at hgc
       (all_goals (try have hZ:=(And.intro hx' hm));(repeat' (first|((with_reducible refine isTriD ?_);((with_reducible refine isCallD ?_);((with_reducible refine LVcall (st:=[]) ?_);simp only [seval,go_sem,rowVn,hZ];first|(refine CallL.c (hbc) ?_)|(refine CallL.c (hgc) ?_))))|(with_reducible (refine TVq (st:=[]) ?_))|simp only [seval,go_sem,rowVn,hZ]|(with_reducible refine oV_st (by simp (disch:=omega) only [seval,go_sem,cnd,intV,shV,convV,strV,rowVn,hZ];rfl) ?_)))<;>(try (fail));all_goals (try clear hZ))
       all_goals (try (refine isNextM ((k+1,c2-1,a++[vcOf x],x.id,x.v.from_)) (by (refine leQL_spec ?_);(try simp only [seval,go_sem,rowVc,vcOf]);first|((repeat' (with_reducible apply And.intro))<;>first|rfl|(simp [rowVc,vcOf];done));done) (by (refine leQH_spec ?_);(try simp only [seval,go_sem,rowVc,vcOf]);first|((repeat' (with_reducible apply And.intro))<;>first|(simp [rowVc,vcOf];done));done) ?_ ?_<;>(try (omega))))
       all_goals (try exact ⟨by simp only;omega,by simp only [List.length_append,List.length_cons,List.length_nil];omega,by simp only;omega,by simp only;omega,hf⟩)
      ·rw [hg,if_neg (by decide),bumpV,if_pos hm] at hf
       rw [hg] at hgc
       (all_goals (try have hZ:=(And.intro hx' hm));(repeat' (first|((with_reducible refine isTriD ?_);((with_reducible refine isCallD ?_);((with_reducible refine LVcall (st:=[]) ?_);simp only [seval,go_sem,rowVn,hZ];first|(refine CallL.c (hbc) ?_)|(refine CallL.c (hgc) ?_))))|(with_reducible (refine TVq (st:=[]) ?_))|simp only [seval,go_sem,rowVn,hZ]|(with_reducible refine oV_st (by simp (disch:=omega) only [seval,go_sem,cnd,intV,shV,convV,strV,rowVn,hZ];rfl) ?_)))<;>(try (fail));all_goals (try clear hZ))
       all_goals (try (refine isNextM ((k+1,c2-1,a,x.id,x.v.from_+1)) (by (refine leQL_spec ?_);(try simp only [seval,go_sem]);first|((repeat' (with_reducible apply And.intro))<;>first|rfl);done) (by (refine leQH_spec ?_);(try simp only [seval,go_sem]);done) ?_ ?_<;>(try (omega))))
       all_goals (try exact ⟨by simp only;omega,by simp only;omega,by simp only;omega,by simp only;omega,hf⟩)
      ·rw [hg,if_neg (by decide),bumpV,if_neg hm] at hf
       rw [hg] at hgc
       (all_goals (try have hZ:=(And.intro hx' hm));(repeat' (first|((with_reducible refine isTriD ?_);((with_reducible refine isCallD ?_);((with_reducible refine LVcall (st:=[]) ?_);simp only [seval,go_sem,rowVn,hZ];first|(refine CallL.c (hbc) ?_)|(refine CallL.c (hgc) ?_))))|(with_reducible (refine TVq (st:=[]) ?_))|simp only [seval,go_sem,rowVn,hZ]|(with_reducible refine oV_st (by simp (disch:=omega) only [seval,go_sem,cnd,intV,shV,convV,strV,rowVn,hZ];rfl) ?_)))<;>(try (fail));all_goals (try clear hZ))
       all_goals (try (refine isNextM ((k+1,c2-1,a,x.id,x.v.from_)) (by (refine leQL_spec ?_);(try simp only [seval,go_sem]);first|((repeat' (with_reducible apply And.intro))<;>first|rfl);done) (by (refine leQH_spec ?_);(try simp only [seval,go_sem]);done) ?_ ?_<;>(try (omega))))
       all_goals (try exact ⟨by simp only;omega,by simp only;omega,by simp only;omega,by simp only;omega,hf⟩)
  ·rw [List.drop_eq_nil_of_le (by omega),nextP] at hf
   simp only [Prod.mk.injEq,Vc.mk.injEq] at hf
   obtain ⟨rfl,⟨rfl,rfl⟩,rfl⟩:=hf
   have hll:(List.map rowVc a).length=a.length:=List.length_map _
   have htk:(List.map rowVc a).take a.length=List.map rowVc a:=List.take_of_length_le (by omega)
   (all_goals (try have hZ:=(And.intro hll htk));(repeat' (first|((with_reducible refine isTriD ?_);((with_reducible first|refine TriD.step (by simp only [seval,go_sem,hZ];rfl) ?_);refine LVs (st:=[]) ?_))|(with_reducible refine isDrawnN 15 ?_;refine Tri.mixedP 15 mix 5 rfl (.f 0 <| .f 2 <| .a <| .b 1 (.a <| .b 3 (.f 4 <| .d) .e) .e) (by kernel_rfl) ?_)|(with_reducible refine isAnyP ?_;first|refine AnyP.D ?_|refine AnyP.F (by simp only [seval,go_sem,l_7,l_6];rfl) (by first|(simp only [seval,go_sem,hZ];done)) (by first|(simp only [seval,go_sem,hZ];with_reducible rfl)) ?_|refine AnyP.A ?_)|(with_reducible first|exact NextsP.E|refine NextsP.B (by simp only [seval,go_sem,l_7,l_6];rfl) ?_ ?_)|(with_reducible refine isRet ?_;(refine RetOK.frz 40 (by simp only [seval,go_sem];rfl) (by simp only [seval,go_sem,hZ];rfl) ?_);(with_reducible refine isRet ?_;refine RetOK.q rfl (by with_unfolding_all (show retD _ _ [.tmp 6,.cell 7 40,.tmp 8]=_);simp only [seval,go_sem];rfl) (by simp only [seval,go_sem];rfl) (by decide) (by simp only [seval,go_sem];rfl) (by simp only [seval,go_sem];rfl) rfl ?_<;>(try simp only [seval,go_sem,hZ])<;>(repeat' (with_reducible apply And.intro))<;>(try rfl)))|(with_reducible (refine TVq (st:=[]) ?_))|simp only [seval,go_sem,hZ]|(with_reducible refine oV_st (by simp (disch:=omega) only [seval,go_sem,cnd,intV,shV,convV,strV,hZ];rfl) ?_)))<;>(try (fail));all_goals (try clear hZ))
end Go.Proofs.YtmgodadmafcliaaGreat
/- Collector: sorted and compacted pages are those that the reference puts in their places one by one (plain). -/
set_option linter.unusedSimpArgs false
set_option linter.unusedVariables false
namespace Go.Proofs.YtmgodadmafcliaaGreat
open Go.RowKit Go.Avm
theorem ascI_ext: ∀ {a b:List Int},AscI a→AscI b→(∀ x,x∈a↔x∈b)→a=b
 | [],[],_,_,_=>rfl
 | [],y::b,_,_,h=>by have:=(h y).2 (List.mem_cons_self ..);cases this
 | x::a,[],_,_,h=>by have:=(h x).1 (List.mem_cons_self ..);cases this
 | x::a,y::b,ha,hb,h=>by
   have ha':=List.pairwise_cons.1 ha
   have hb':=List.pairwise_cons.1 hb
   have e:x=y:=by
    rcases List.mem_cons.1 ((h x).1 (List.mem_cons_self ..)) with e|e
    ·exact e
    ·rcases List.mem_cons.1 ((h y).2 (List.mem_cons_self ..)) with e2|e2
     ·exact e2.symm
     ·have h1:=hb'.1 x e
      have h2:=ha'.1 y e2
      omega
   subst e
   rw [ascI_ext ha'.2 hb'.2 fun z=>?_]
   constructor
   ·intro hz
    rcases List.mem_cons.1 ((h z).1 (List.mem_cons_of_mem _ hz)) with e|e
    ·subst e;have:=ha'.1 z hz;omega
    ·exact e
   ·intro hz
    rcases List.mem_cons.1 ((h z).2 (List.mem_cons_of_mem _ hz)) with e|e
    ·subst e;have:=hb'.1 z hz;omega
    ·exact e
theorem insI_mem (n:Int): ∀ (l:List Int) (x:Int),x∈insI n l↔x=n∨x∈l
 | [],x=>by simp [insI]
 | y::l,x=>by
   unfold insI
   split
   ·rw [List.mem_cons,insI_mem n l x,List.mem_cons]
    constructor
    ·rintro (h|h|h)<;>simp_all
    ·rintro (h|h|h)<;>simp_all
   ·split
    ·rename_i h
     subst h
     simp
    ·simp
theorem insI_asc (n:Int): ∀ {l:List Int},AscI l→AscI (insI n l)
 | [],_=>List.pairwise_singleton _ _
 | y::l,h=>by
   have h':=List.pairwise_cons.1 h
   unfold insI
   split
   ·rename_i h1
    refine List.Pairwise.cons (fun x hx=>?_) (insI_asc n h'.2)
    rcases (insI_mem n l x).1 hx with rfl|hx
    ·exact h1
    ·exact h'.1 x hx
   ·rename_i h1
    split
    ·exact h
    ·rename_i h2
     refine List.Pairwise.cons (fun x hx=>?_) h
     rcases List.mem_cons.1 hx with rfl|hx
     ·omega
     ·have:=h'.1 x hx;omega
theorem insAll_spec: ∀ (l a:List Int),AscI a→AscI (insAll a l)∧ ∀ x,x∈insAll a l↔x∈a∨x∈l
 | [],a,h=>⟨h,fun x=>by simp [insAll]⟩
 | n::l,a,h=>by
   rw [insAll]
   obtain ⟨h1,h2⟩:=insAll_spec l _ (insI_asc n h)
   refine ⟨h1,fun x=>?_⟩
   rw [h2,insI_mem,List.mem_cons]
   constructor
   ·rintro ((h|h)|h)<;>simp_all
   ·rintro (h|h|h)<;>simp_all
theorem insI_len (n:Int): ∀ l:List Int,(insI n l).length≤l.length+1
 | []=>Nat.le_refl _
 | y::l=>by
   have:=insI_len n l
   unfold insI
   split
   ·simp only [List.length_cons];omega
   ·split<;>simp only [List.length_cons]<;>omega
theorem compI_spec (d:Array Int) (hs: ∀ i j,i<j→j<d.size→d[i]! ≤d[j]!): ∀ m,m≤d.size→
  (Lib.compactUpTo d m).Pairwise (· < ·)∧(∀ x,x∈Lib.compactUpTo d m↔ ∃ i,i<m∧d[i]! = x)
 | 0,_=>by simp [Lib.compactUpTo]
 | m+1,hm=>by
   obtain ⟨h1,h2⟩:=compI_spec d hs m (by omega)
   rw [Lib.compactUpTo_succ]
   by_cases hk:Lib.keeps d m=true
   ·rw [if_pos hk]
    refine ⟨List.pairwise_append.2 ⟨h1,List.pairwise_singleton _ _,fun x hx y hy=>?_⟩,fun x=>?_⟩
    ·obtain ⟨i,hi,rfl⟩:=(h2 x).1 hx
     rw [List.mem_singleton] at hy
     subst hy
     have hk':m≠0∧d[m]! ≠d[m-1]! ∨m=0:=by
      unfold Lib.keeps at hk
      rcases of_decide_eq_true hk with g|g
      ·exact .inr g
      ·by_cases h0:m=0
       ·exact .inr h0
       ·exact .inl ⟨h0,g⟩
     rcases hk' with ⟨h0,hne⟩|h0
     ·have a1:d[i]! ≤d[m-1]! :=by
       rcases Nat.lt_or_ge i (m-1) with g|g
       ·exact hs i (m-1) g (by omega)
       ·have:i=m-1:=by omega
        subst this;exact Int.le_refl _
      have a2:d[m-1]! ≤d[m]! :=hs (m-1) m (by omega) (by omega)
      omega
     ·omega
    ·rw [List.mem_append,h2,List.mem_singleton]
     constructor
     ·rintro (⟨i,hi,e⟩|e)
      ·exact ⟨i,by omega,e⟩
      ·exact ⟨m,by omega,e.symm⟩
     ·rintro ⟨i,hi,e⟩
      rcases Nat.lt_or_ge i m with g|g
      ·exact .inl ⟨i,g,e⟩
      ·have:i=m:=by omega
       subst this;exact .inr e.symm
   ·rw [if_neg hk,List.append_nil]
    refine ⟨h1,fun x=>?_⟩
    rw [h2]
    have hk':m≠0∧d[m]! = d[m-1]! :=by
     unfold Lib.keeps at hk
     simp only [decide_eq_true_eq,not_or,ne_eq,Decidable.not_not] at hk
     exact hk
    constructor
    ·rintro ⟨i,hi,e⟩;exact ⟨i,by omega,e⟩
    ·rintro ⟨i,hi,e⟩
     rcases Nat.lt_or_ge i m with g|g
     ·exact ⟨i,g,e⟩
     ·have:i=m:=by omega
      subst this;exact ⟨i-1,by omega,by rw [← hk'.2];exact e⟩
def sortI (l:List Int):List Int:=l.mergeSort fun x y=>decide (x≤y)
theorem sortI_len (l:List Int):(sortI l).length=l.length:=by simp [sortI]
/-- Sorted and compacted. -/
def uniqI (l:List Int):List Int:=Lib.compact (sortI l)
theorem uniqI_eq (l:List Int):uniqI l=insAll [] l:=by
 have hsrt:(sortI l).Pairwise (fun x y=>x≤y):=by
  have:=List.pairwise_mergeSort (le:=fun x y:Int=>decide (x≤y)) (fun a b c h1 h2=>by simp only [decide_eq_true_eq] at *;omega) (fun a b=>by simp only [Bool.or_eq_true,decide_eq_true_eq];omega) l
  exact this.imp (fun h=>by simpa using h)
 have hmem: ∀ z,z∈sortI l↔z∈l:=fun z=>List.mem_mergeSort
 unfold uniqI Lib.compact
 generalize sortI l=Z at hsrt hmem
 obtain ⟨h1,h2⟩:=compI_spec Z.toArray (fun i j hij hj=>by
  have hj':j<Z.length:=by simpa using hj
  have:=List.pairwise_iff_getElem.1 hsrt i j (by omega) hj' hij
  rw [getElem!_pos Z.toArray i (by simp;omega),getElem!_pos Z.toArray j hj]
  simpa using this) Z.length (by simp)
 obtain ⟨g1,g2⟩:=insAll_spec l [] List.Pairwise.nil
 refine ascI_ext h1 g1 fun x=>?_
 rw [h2,g2]
 simp only [List.not_mem_nil,false_or]
 rw [← hmem x]
 constructor
 ·rintro ⟨i,hi,rfl⟩
  rw [getElem!_pos Z.toArray i (by simpa using hi)]
  simp
 ·intro hx
  obtain ⟨i,hi,rfl⟩:=List.mem_iff_getElem.1 hx
  exact ⟨i,hi,by rw [getElem!_pos Z.toArray i (by simpa using hi)];simp⟩
end Go.Proofs.YtmgodadmafcliaaGreat
/- Audit: the walks of the checks of a configuration, of pins and of bindings, of the program and of the reference. -/
set_option linter.unusedSimpArgs false
set_option linter.unusedVariables false
namespace Go.Proofs.YtmgodadmafcliaaGreat
open Go.RowKit Go.Avm
set_option maxRecDepth 100000 in set_option maxHeartbeats 3200000 in
theorem rwithin_calls {n a b:Int}:ACalls Tryz.prog 38 [.sc (.int .i64 n), .sc (.int .i64 a), .sc (.int .i64 b)] (.sc (.bool (inR n a b))) []:=by
 refine of_tri [] [] Tryz.func38 rfl call38 rfl (by decide) (by decide) rfl rfl Tryz.ntmps38 (by simp (disch:=omega) only [seval,go_sem,cnd,intV,shV,convV,strV,List.replicate,l_2,l_1];rfl) (by simp (disch:=omega) only [seval,go_sem,cnd,intV,shV,convV,strV,l_2,l_1];rfl) ?_
 ((repeat' (first|(with_reducible refine isCv ?_;intro hc;(try simp only [bls,reduceCtorEq] at hc);(try (exfalso;omega)))|((with_reducible refine isTriD ?_);((with_reducible first|refine TriD.step (by simp only [seval,go_sem];rfl) ?_|refine TriD.step (by simp (disch:=omega) only [seval,go_sem,cnd,intV,shV,convV,strV];rfl) ?_);refine LVs (st:=[13]) ?_))|(with_reducible refine isRet ?_;refine RetV (rs:=[.tmp 6]) (by with_unfolding_all rfl) rfl ?_<;>simp only [seval,go_sem]<;>(repeat' (with_reducible apply And.intro))<;>(try rfl))|(with_reducible (refine TVq (st:=[13]) ?_))|simp only [seval,go_sem]|(with_reducible first|refine oV_st (by simp (disch:=omega) only [seval,go_sem,cnd,intV,shV,convV,strV];rfl) ?_|refine gV_split (by simp only [seval,go_sem];rfl) (by simp only [seval,go_sem];rfl) (by simp only [seval,go_sem];done) (cvI ?_) (cvI ?_) (by simp only [seval,go_sem]))))<;>(try (fail)))
 all_goals (simp [inR];try omega)
set_option maxRecDepth 100000 in set_option maxHeartbeats 6400000 in
theorem rcfg_calls {a b c d e f g:Int}:ACalls Tryz.prog 19 [.agg [.sc (.int .i64 a), .sc (.int .i64 b), .sc (.int .i64 c), .sc (.int .i64 d), .sc (.int .i64 e), .sc (.int .i64 f), .sc (.int .i64 g)]] (.sc (.int .i64 (cond (cfOk ⟨a,b,c,d,e,f,g⟩) 0 5))) []:=by
 simp only [cfOk]
 generalize h1:inR a 1 64=x1
 generalize h2:inR b 1 64=x2
 generalize h3:inR c 1 16384=x3
 generalize h4:inR d 8 1024=x4
 generalize h5:inR e 1 1024=x5
 generalize h6:inR f 1 1048576=x6
 generalize h7:inR g 1 64=x7
 refine of_tri [] [1,5,10,16,22,28,34,40] Tryz.func19 rfl call19 rfl (by decide) (by decide) rfl rfl Tryz.ntmps19 (by simp (disch:=omega) only [seval,go_sem,cnd,intV,shV,convV,strV,List.replicate,l_2,l_1];rfl) (by simp (disch:=omega) only [seval,go_sem,cnd,intV,shV,convV,strV,l_2,l_1];rfl) ?_
 (all_goals (try have hZ:=(And.intro h1 (And.intro h2 (And.intro h3 (And.intro h4 (And.intro h5 (And.intro h6 h7)))))));(repeat' (first|(with_reducible refine isCv ?_;intro hc;(try simp only [bls,reduceCtorEq] at hc);(try (exfalso;omega)))|((with_reducible refine isTriD ?_);((with_reducible refine isCallD ?_);((with_reducible refine LVcall (st:=[]) ?_);simp only [seval,go_sem,hZ];(refine CallL.c (rwithin_calls) ?_))))|(with_reducible refine isRet ?_;refine RetV (rs:=[.tmp 2]) (by with_unfolding_all rfl) rfl ?_<;>simp only [seval,go_sem]<;>(repeat' (with_reducible apply And.intro))<;>(try rfl))|(with_reducible (refine TVq (st:=[]) ?_))|simp only [seval,go_sem,hZ]|(with_reducible first|refine gV_split (by simp only [seval,go_sem,hZ];rfl) (by simp only [seval,go_sem,hZ];rfl) (by simp only [seval,go_sem,hZ];done) (cvI ?_) (cvI ?_) (by simp only [seval,go_sem,hZ])|refine cV_split (cvI ?_) (cvI ?_))))<;>(try (fail));all_goals (try clear hZ))
 all_goals (simp_all)
end Go.Proofs.YtmgodadmafcliaaGreat
