/- Collector: the walks of the stable sort (at most nineteen), of entries, Garbage, before and Next of the program. -/
import Derived.Test.YtmgodadmafcliaaZAuQ
import Derived.Lib.RowBridge
import Derived.Test.YtmgodadmafcliaaZDiC
import Derived.Shelf.Sort.Plain
import Derived.Shelf.Slices.CompactI
import Derived.Shelf.Slices.In.SortNone
import Derived.Test.YtmgodadmafcliaaZAvmS
set_option linter.unusedSimpArgs false
set_option linter.unusedVariables false
namespace Go.Proofs.Ytmgodadmafcliaa
open Go.RowKit Go.Avm
set_option maxRecDepth 100000 in set_option maxHeartbeats 6400000 in
theorem stable_calls {l:List Vn} {n:Nat} (hn:l.length=n) (hl:n≤19):MCalls Try.prog 128 [.row 5 (l.map rowVn)] [.slo 0 5 0 n, .sc (.int .i64 n), .fn 92 []] (.tup []) [.row 5 ((sortV [] l).map rowVn)]:=by
 have hi:=isortv_calls (l:=l) (pre:=[]) (post:=[]) (a:=0) (b:=n) (n:=n) rfl (by omega) (by simp) (by omega)
 simp only [List.nil_append,List.append_nil,Int.ofNat_zero] at hi
 refine of_tri [1000] [18,27,43,60] Try.func128 rfl call128 rfl (by decide) (by decide) rfl rfl Try.ntmps128 (by simp (disch:=omega) only [seval,go_sem,cnd,intV,shV,convV,strV,List.replicate,l_2,l_1];rfl) (by simp (disch:=omega) only [seval,go_sem,cnd,intV,shV,convV,strV,l_2,l_1];rfl) ?_
 ((repeat' (first|(with_reducible (refine TVq (st:=[]) ?_))|simp only [seval,go_sem]))<;>(try (fail)))
 all_goals (with_reducible refine Tri.loopU (fun (k:Nat)=>[(7,.sc (.int .i64 0)),(8,.sc (.int .i64 20)),(11,.any),(12,.any),(13,.any),(14,.any),(15,.any),(16,.any),(17,.any),(18,.any),(19,.any),(20,.any),(21,.any),(22,.any)]) (fun (k:Nat)=>[(1000,.row 5 (l.map rowVn)),(18,.dead)]) (fun (k:Nat)=>True) (fun (k:Nat)=>0) (0) (trivial) (by intro _;simp (disch:=omega) only [seval,go_sem,cnd,intV,shV,convV,strV];rfl) (by intro _;simp (disch:=omega) only [seval,go_sem,cnd,intV,shV,convV,strV];rfl) (by (refine leQL_spec ?_);(try simp only [seval,go_sem]);done) (by (refine leQH_spec ?_);(try simp only [seval,go_sem]);done) (fun k hI=>?_))
 all_goals ((repeat' (first|((with_reducible refine isTriD ?_);((with_reducible refine isCallD ?_);((with_reducible ((refine TriD.cI (dst:=_) [] (by simp only [seval,go_sem];rfl) (by simp only [seval,go_sem];rfl) (hi) (by simp only [seval,go_sem];done) (by simp only [seval,go_sem];done) (by simp only [seval,go_sem];rfl) ?_)));refine LVs (st:=[]) ?_)))|(with_reducible (refine TVq (st:=[]) ?_))|simp only [seval,go_sem]|(with_reducible refine oV_st (by simp (disch:=omega) only [seval,go_sem,cnd,intV,shV,convV,strV];rfl) ?_)))<;>(try (fail)))
 all_goals (with_reducible refine Tri.loopU (fun (k:Nat)=>[(6,.sc (.int .i64 20)),(7,.sc (.int .i64 0)),(8,.sc (.int .i64 20)),(9,.any),(28,.any),(29,.any),(30,.any),(31,.any),(32,.any),(33,.any),(34,.any),(35,.any),(36,.any),(37,.any),(38,.any),(39,.any),(40,.any),(41,.any),(42,.any),(43,.any),(44,.any),(45,.any),(46,.any),(47,.any),(48,.any),(49,.any),(50,.any),(51,.any),(52,.any),(53,.any),(54,.any),(55,.any),(56,.any),(57,.any),(58,.any),(59,.any),(60,.any),(61,.any),(62,.any)]) (fun (k:Nat)=>[(1000,.row 5 ((sortV [] l).map rowVn)),(43,.dead),(60,.dead)]) (fun (k:Nat)=>True) (fun (k:Nat)=>0) (0) (trivial) (by intro _;simp (disch:=omega) only [seval,go_sem,cnd,intV,shV,convV,strV];rfl) (by intro _;simp (disch:=omega) only [seval,go_sem,cnd,intV,shV,convV,strV];rfl) (by (refine leQL_spec ?_);(try simp only [seval,go_sem]);done) (by (refine leQH_spec ?_);(try simp only [seval,go_sem]);done) (fun k hI=>?_))
 all_goals ((repeat' (first|(with_reducible refine isRet ?_;refine RetV (rs:=[]) (by with_unfolding_all rfl) rfl ?_<;>simp only [seval,go_sem]<;>(repeat' (with_reducible apply And.intro))<;>(try rfl))|(with_reducible (refine TVq (st:=[]) ?_))|simp only [seval,go_sem]|(with_reducible refine oV_st (by simp (disch:=omega) only [seval,go_sem,cnd,intV,shV,convV,strV];rfl) ?_)))<;>(try (fail)))
set_option maxRecDepth 100000 in set_option maxHeartbeats 6400000 in
theorem sorts_calls {l:List Vn} {n:Nat} (hn:l.length=n) (hl:n≤19):MCalls Try.prog 91 [.row 5 (l.map rowVn)] [.slo 0 5 0 n, .fn 92 []] (.tup []) [.row 5 ((sortV [] l).map rowVn)]:=by
 have hi:=stable_calls hn hl
 refine of_tri [1000] [8] Try.func91 rfl call91 rfl (by decide) (by decide) rfl rfl Try.ntmps91 (by simp (disch:=omega) only [seval,go_sem,cnd,intV,shV,convV,strV,List.replicate,l_2,l_1];rfl) (by simp (disch:=omega) only [seval,go_sem,cnd,intV,shV,convV,strV,l_2,l_1];rfl) ?_
 ((repeat' (first|((with_reducible refine isTriD ?_);((with_reducible refine isCallD ?_);((with_reducible ((refine TriD.cI (dst:=_) [] (by simp only [seval,go_sem];rfl) (by simp only [seval,go_sem];rfl) (hi) (by simp only [seval,go_sem];done) (by simp only [seval,go_sem];done) (by simp only [seval,go_sem];rfl) ?_)));refine LVs (st:=[]) ?_)))|(with_reducible refine isRet ?_;refine RetV (rs:=[]) (by with_unfolding_all rfl) rfl ?_<;>simp only [seval,go_sem]<;>(repeat' (with_reducible apply And.intro))<;>(try rfl))|(with_reducible (refine TVr (st:=[]) ?_))|simp only [seval,go_sem]))<;>(try (fail)))
set_option maxRecDepth 100000 in set_option maxHeartbeats 6400000 in
theorem entries_calls {com:Int} {os:List Ob} {bd pn pg:List (List D)} (ho:os.length≤100000) (hl:(os.flatMap vnsO).length≤19):ACalls Try.prog 52 [.agg [.sc (.int .i64 com), .sl 2 (os.map rowOb), .sl 4 bd, .sl 2 pn, .sl 3 pg]] (.sl 5 ((versR os []).map rowVn)) []:=by
 rw [versR_sortV]
 have hso:=fun (n:Nat) (hn:(os.flatMap vnsO).length=n)=>sorts_calls hn (by omega)
 have hsl:=sortV_len (os.flatMap vnsO) []
 generalize hA:os.flatMap vnsO=A at *
 generalize sortV [] A=S at *
 refine of_tri [] [1,5,7,27,28,32] Try.func52 rfl call52 rfl (by decide) (by decide) rfl rfl Try.ntmps52 (by simp (disch:=omega) only [seval,go_sem,cnd,intV,shV,convV,strV,List.replicate,l_2,l_1];rfl) (by simp (disch:=omega) only [seval,go_sem,cnd,intV,shV,convV,strV,l_2,l_1];rfl) ?_
 ((repeat' (first|(with_reducible (refine TVq (st:=[]) ?_))|simp only [seval,go_sem]))<;>(try (fail)))
 all_goals (refine Tri.virt 3 28 5 (by first|(simp only [seval,go_sem];done)) (by first|(simp only [seval,go_sem];done)) (by simp only [seval,go_sem];rfl) ?_)
 all_goals (with_reducible refine Tri.loopU (fun (t:Nat×List Vn)=>[(11,.sc (.int .i64 t.1)),(3,.slo 28 5 0 t.2.length),(5,.any),(7,.any),(12,.any),(13,.any),(14,.any),(15,.any),(16,.any),(17,.any),(18,.any),(19,.any),(20,.any),(21,.any),(22,.any),(23,.any),(24,.any),(25,.any),(26,.any),(27,.any),(28,.any),(29,.any),(30,.any)]) (fun (t:Nat×List Vn)=>[(28,.row 5 (t.2.map rowVn)),(5,.dead),(7,.dead),(27,.dead)]) (fun (t:Nat×List Vn)=>t.1≤os.length∧t.2++(os.drop t.1).flatMap vnsO=A) (fun (t:Nat×List Vn)=>os.length-t.1) ((0,[])) (⟨Nat.zero_le _,by simpa using hA⟩) (by intro _;simp (disch:=omega) only [seval,go_sem,cnd,intV,shV,convV,strV];rfl) (by intro _;simp (disch:=omega) only [seval,go_sem,cnd,intV,shV,convV,strV];rfl) (by (refine leQL_spec ?_);(try simp only [seval,go_sem]);done) (by (refine leQH_spec ?_);(try simp only [seval,go_sem]);done) (fun t hI=>?_))
 all_goals
  obtain ⟨k,a⟩:=t
  obtain ⟨hk,hf⟩:=hI
  simp only at hk hf
  have hal:a.length≤A.length:=by rw [← hf,List.length_append];omega
  by_cases hlt:k<os.length
  ·obtain ⟨o,hoo⟩:=get_lt hlt
   have ho':=get_map rowOb hoo
   rw [drop_get hoo,List.flatMap_cons] at hf
   generalize hB:(os.drop (k+1)).flatMap vnsO=B at *
   have hvl:o.vers.length≤19:=by
    have:=congrArg List.length hf
    simp only [List.length_append,vnsO,List.length_map] at this;omega
   ((repeat' (first|(with_reducible (refine TVq (st:=[]) ?_))|simp only [seval,go_sem,ho',rowOb]|(with_reducible refine oV_st (by simp (disch:=omega) only [seval,go_sem,cnd,intV,shV,convV,strV,ho',rowOb];rfl) ?_)))<;>(try (fail)))
   all_goals (with_reducible refine Tri.loopU (fun (t:Nat×List Vn)=>[(18,.sc (.int .i64 t.1)),(3,.slo 28 5 0 t.2.length),(7,.any),(19,.any),(20,.any),(21,.any),(22,.any),(23,.any),(24,.any),(25,.any),(26,.any),(27,.any),(28,.any),(29,.any)]) (fun (t:Nat×List Vn)=>[(28,.row 5 (t.2.map rowVn)),(7,.dead),(27,.dead)]) (fun (t:Nat×List Vn)=>t.1≤o.vers.length∧t.2++((o.vers.drop t.1).map fun v=>(⟨o.id,v⟩:Vn))++B=A) (fun (t:Nat×List Vn)=>o.vers.length-t.1) ((0,a)) (⟨Nat.zero_le _,by unfold vnsO at hf;simp only [List.drop_zero];rw [List.append_assoc];exact hf⟩) (by intro _;simp (disch:=omega) only [seval,go_sem,cnd,intV,shV,convV,strV];rfl) (by intro _;simp (disch:=omega) only [seval,go_sem,cnd,intV,shV,convV,strV];rfl) (by (refine leQL_spec ?_);(try simp only [seval,go_sem]);done) (by (refine leQH_spec ?_);(try simp only [seval,go_sem]);done) (fun t hI=>?_))
   all_goals
    obtain ⟨j,a2⟩:=t
    obtain ⟨hj,hf2⟩:=hI
    simp only at hj hf2
    have hal2:a2.length≤A.length:=by rw [← hf2,List.length_append,List.length_append];omega
    by_cases hlt2:j<o.vers.length
    ·obtain ⟨v,hvj⟩:=get_lt hlt2
     have hvj':=get_map rowV hvj
     rw [drop_get hvj,l_3] at hf2
     (all_goals (try have hZ:=(And.intro ho' hvj'));(repeat' (first|(with_reducible (refine TVq (st:=[]) ?_))|simp only [seval,go_sem,rowOb,rowV,hZ]|(with_reducible refine oV_st (by simp (disch:=omega) only [seval,go_sem,cnd,intV,shV,convV,strV,rowOb,rowV,hZ];rfl) ?_)))<;>(try (fail));all_goals (try clear hZ))
     all_goals (try (refine isNextM ((j+1,a2++[⟨o.id,v⟩])) (by (refine leQL_spec ?_);(try simp only [seval,go_sem,rowVn]);first|((repeat' (with_reducible apply And.intro))<;>first|rfl|(simp [rowVn];done));done) (by (refine leQH_spec ?_);(try simp only [seval,go_sem,rowVn]);first|((repeat' (with_reducible apply And.intro))<;>first|(simp [rowVn];done));done) ?_ ?_<;>(try (omega))))
     all_goals (try exact ⟨by simp only;omega,by simp only [List.append_assoc,List.cons_append,List.nil_append] at hf2 ⊢;exact hf2⟩)
    ·rw [List.drop_eq_nil_of_le (by omega),l_4,List.append_nil] at hf2
     ((repeat' (first|(with_reducible (refine TVq (st:=[]) ?_))|simp only [seval,go_sem,ho',rowOb]|(with_reducible refine oV_st (by simp (disch:=omega) only [seval,go_sem,cnd,intV,shV,convV,strV,ho',rowOb];rfl) ?_)))<;>(try (fail)))
     all_goals (try (refine isNextM ((k+1,a2)) (by (refine leQL_spec ?_);(try simp only [seval,go_sem]);first|((repeat' (with_reducible apply And.intro))<;>first|rfl);done) (by (refine leQH_spec ?_);(try simp only [seval,go_sem]);done) ?_ ?_<;>(try (omega))))
     all_goals (try exact ⟨by simp only;omega,by simp only [hB];exact hf2⟩)
  ·rw [List.drop_eq_nil_of_le (by omega),List.flatMap_nil,List.append_nil] at hf
   subst hf
   have hso':=hso a.length rfl
   have hll:(List.map rowVn S).length=a.length:=by rw [List.length_map,hsl];simp
   have htk:(List.map rowVn S).take a.length=List.map rowVn S:=List.take_of_length_le (by omega)
   (all_goals (try have hZ:=(And.intro hll htk));(repeat' (first|((with_reducible refine isTriD ?_);((with_reducible refine isCallD ?_);((with_reducible ((refine TriD.cI (dst:=_) [] (by simp only [seval,go_sem,hZ];rfl) (by simp only [seval,go_sem,hZ];rfl) (hso') (by simp only [seval,go_sem,hZ];done) (by simp only [seval,go_sem,hZ];done) (by simp only [seval,go_sem,hZ];rfl) ?_)));refine LVs (st:=[]) ?_)))|(with_reducible refine isRet ?_;(refine RetOK.frz 28 (by simp only [seval,go_sem];rfl) (by simp only [seval,go_sem,hZ];rfl) ?_);(with_reducible refine isRet ?_;refine RetOK.q rfl rfl (by simp only [seval,go_sem];rfl) (by decide) (by simp only [seval,go_sem];rfl) (by simp only [seval,go_sem];rfl) rfl ?_<;>(try simp only [seval,go_sem,hZ])<;>(repeat' (with_reducible apply And.intro))<;>(try rfl)))|(with_reducible (refine TVq (st:=[]) ?_))|simp only [seval,go_sem,hZ]|(with_reducible refine oV_st (by simp (disch:=omega) only [seval,go_sem,cnd,intV,shV,convV,strV,hZ];rfl) ?_)))<;>(try (fail));all_goals (try clear hZ))
set_option maxRecDepth 100000 in set_option maxHeartbeats 6400000 in
theorem garbage_calls {com:Int} {os:List Ob} {ps:List Pn} {bd pg:List (List D)} (ho:os.length≤100000) (hl:(os.flatMap vnsO).length≤19) (hp:ps.length≤100000):ACalls Try.prog 19 [.agg [.sc (.int .i64 com),.sl 2 (os.map rowOb),.sl 4 bd,.sl 2 (ps.map rowP),.sl 3 pg]] (.sl 2 ((garbR ps (versR os [])).map rowVc)) []:=by
 have hen:=entries_calls (com:=com) (bd:=bd) (pn:=ps.map rowP) (pg:=pg) ho hl
 have hel:(versR os []).length≤19:=by rw [versR_sortV,sortV_len];simpa using hl
 generalize versR os []=E at *
 generalize hG:garbR ps E=G
 refine of_tri [] [1,5,7,16,24,25] Try.func19 rfl call19 rfl (by decide) (by decide) rfl rfl Try.ntmps19 (by simp (disch:=omega) only [seval,go_sem,cnd,intV,shV,convV,strV,List.replicate,l_2,l_1];rfl) (by simp (disch:=omega) only [seval,go_sem,cnd,intV,shV,convV,strV,l_2,l_1];rfl) ?_
 ((repeat' (first|((with_reducible refine isTriD ?_);((with_reducible refine isCallD ?_);((with_reducible refine LVcall (st:=[]) ?_);simp only [seval,go_sem];(refine CallL.c (hen) ?_))))|(with_reducible (refine TVq (st:=[]) ?_))|simp only [seval,go_sem]))<;>(try (fail)))
 all_goals (refine Tri.virt 3 25 2 (by first|(simp only [seval,go_sem];done)) (by first|(simp only [seval,go_sem];done)) (by simp only [seval,go_sem];rfl) ?_)
 all_goals (with_reducible refine Tri.loopU (fun (t:Nat×List Vc)=>[(9,.sc (.int .i64 t.1)),(3,.slo 25 2 0 t.2.length),(5,.any),(10,.any),(11,.any),(12,.any),(13,.any),(14,.any),(15,.any),(16,.any),(17,.any),(18,.any),(19,.any),(20,.any),(21,.any),(22,.any),(23,.any),(24,.any),(25,.any),(26,.any)]) (fun (t:Nat×List Vc)=>[(25,.row 2 (t.2.map rowVc)),(5,.dead),(16,.dead),(24,.dead)]) (fun (t:Nat×List Vc)=>t.1≤E.length∧t.2.length≤t.1∧t.2++garbR ps (E.drop t.1)=G) (fun (t:Nat×List Vc)=>E.length-t.1) ((0,[])) (⟨Nat.zero_le _,by simp,by simpa using hG⟩) (by intro _;simp (disch:=omega) only [seval,go_sem,cnd,intV,shV,convV,strV];rfl) (by intro _;simp (disch:=omega) only [seval,go_sem,cnd,intV,shV,convV,strV];rfl) (by (refine leQL_spec ?_);(try simp only [seval,go_sem]);done) (by (refine leQH_spec ?_);(try simp only [seval,go_sem]);done) (fun t hI=>?_))
 all_goals
  obtain ⟨k,a⟩:=t
  obtain ⟨hk,hal,hf⟩:=hI
  simp only at hk hal hf
  by_cases hlt:k<E.length
  ·obtain ⟨x,hx⟩:=get_lt hlt
   have hx':=get_map rowVn hx
   have hgc:=garb_calls (com:=com) (f:=x.v.from_) (t:=x.v.to) (s:=x.v.size) (p:=x.v.pages.map rowI) (od:=os.map rowOb) (bd:=bd) (pg:=pg) hp
   rw [show (!(x.v.to==0) && !coversP x.v.from_ x.v.to ps)=garbV ps x.v from rfl] at hgc
   rw [drop_get hx,garbR] at hf
   cases hg:garbV ps x.v with
   | true=>
     rw [if_pos hg] at hf
     rw [hg] at hgc
     ((repeat' (first|((with_reducible refine isTriD ?_);((with_reducible refine isCallD ?_);((with_reducible refine LVcall (st:=[]) ?_);simp only [seval,go_sem,hx',rowVn];(refine CallL.c (hgc) ?_))))|(with_reducible (refine TVq (st:=[]) ?_))|simp only [seval,go_sem,hx',rowVn]|(with_reducible refine oV_st (by simp (disch:=omega) only [seval,go_sem,cnd,intV,shV,convV,strV,hx',rowVn];rfl) ?_)))<;>(try (fail)))
     all_goals (try (refine isNextM ((k+1,a++[vcOf x])) (by (refine leQL_spec ?_);(try simp only [seval,go_sem,rowVc,vcOf]);first|((repeat' (with_reducible apply And.intro))<;>first|rfl|(simp [rowVc,vcOf];done));done) (by (refine leQH_spec ?_);(try simp only [seval,go_sem,rowVc,vcOf]);first|((repeat' (with_reducible apply And.intro))<;>first|(simp [rowVc,vcOf];done));done) ?_ ?_<;>(try (omega))))
     all_goals (try exact ⟨by simp only;omega,by simp only [List.length_append,List.length_cons,List.length_nil];omega,by simp only [List.append_assoc,List.cons_append,List.nil_append];exact hf⟩)
   | false=>
     rw [if_neg (by rw [hg];decide)] at hf
     rw [hg] at hgc
     ((repeat' (first|((with_reducible refine isTriD ?_);((with_reducible refine isCallD ?_);((with_reducible refine LVcall (st:=[]) ?_);simp only [seval,go_sem,hx',rowVn];(refine CallL.c (hgc) ?_))))|(with_reducible (refine TVq (st:=[]) ?_))|simp only [seval,go_sem,hx',rowVn]|(with_reducible refine oV_st (by simp (disch:=omega) only [seval,go_sem,cnd,intV,shV,convV,strV,hx',rowVn];rfl) ?_)))<;>(try (fail)))
     all_goals (try (refine isNextM ((k+1,a)) (by (refine leQL_spec ?_);(try simp only [seval,go_sem]);first|((repeat' (with_reducible apply And.intro))<;>first|rfl);done) (by (refine leQH_spec ?_);(try simp only [seval,go_sem]);done) ?_ ?_<;>(try (omega))))
     all_goals (try exact ⟨by simp only;omega,by simp only;omega,hf⟩)
  ·rw [List.drop_eq_nil_of_le (by omega),garbR,List.append_nil] at hf
   subst hf
   have hll:(List.map rowVc a).length=a.length:=List.length_map _
   have htk:(List.map rowVc a).take a.length=List.map rowVc a:=List.take_of_length_le (by omega)
   (all_goals (try have hZ:=(And.intro hll htk));(repeat' (first|(with_reducible refine isRet ?_;(refine RetOK.frz 25 (by simp only [seval,go_sem];rfl) (by simp only [seval,go_sem,hZ];rfl) ?_);(with_reducible refine isRet ?_;refine RetOK.q rfl rfl (by simp only [seval,go_sem];rfl) (by decide) (by simp only [seval,go_sem];rfl) (by simp only [seval,go_sem];rfl) rfl ?_<;>(try simp only [seval,go_sem,hZ])<;>(repeat' (with_reducible apply And.intro))<;>(try rfl)))|(with_reducible (refine TVq (st:=[]) ?_))|simp only [seval,go_sem,hZ]|(with_reducible refine oV_st (by simp (disch:=omega) only [seval,go_sem,cnd,intV,shV,convV,strV,hZ];rfl) ?_)))<;>(try (fail));all_goals (try clear hZ))
end Go.Proofs.Ytmgodadmafcliaa
/- Collector: sorted and compacted pages are those that the reference puts in their places one by one (plain). -/
set_option linter.unusedSimpArgs false
set_option linter.unusedVariables false
namespace Go.Proofs.Ytmgodadmafcliaa
open Go.RowKit Go.Avm
theorem ascI_ext: ∀ {a b:List Int},AscI a→AscI b→(∀ x,x∈a↔x∈b)→a=b
 | [],[],_,_,_=>rfl
 | [],y::b,_,_,h=>by have:=(h y).2 (List.mem_cons_self ..);cases this
 | x::a,[],_,_,h=>by have:=(h x).1 (List.mem_cons_self ..);cases this
 | x::a,y::b,ha,hb,h=>by
   have ha':=List.pairwise_cons.1 ha
   have hb':=List.pairwise_cons.1 hb
   have e:x=y:=by
    rcases List.mem_cons.1 ((h x).1 (List.mem_cons_self ..)) with e|e
    ·exact e
    ·rcases List.mem_cons.1 ((h y).2 (List.mem_cons_self ..)) with e2|e2
     ·exact e2.symm
     ·have h1:=hb'.1 x e
      have h2:=ha'.1 y e2
      omega
   subst e
   rw [ascI_ext ha'.2 hb'.2 fun z=>?_]
   constructor
   ·intro hz
    rcases List.mem_cons.1 ((h z).1 (List.mem_cons_of_mem _ hz)) with e|e
    ·subst e;have:=ha'.1 z hz;omega
    ·exact e
   ·intro hz
    rcases List.mem_cons.1 ((h z).2 (List.mem_cons_of_mem _ hz)) with e|e
    ·subst e;have:=hb'.1 z hz;omega
    ·exact e
theorem insI_mem (n:Int): ∀ (l:List Int) (x:Int),x∈insI n l↔x=n∨x∈l
 | [],x=>by simp [insI]
 | y::l,x=>by
   unfold insI
   split
   ·rw [List.mem_cons,insI_mem n l x,List.mem_cons]
    constructor
    ·rintro (h|h|h)<;>simp_all
    ·rintro (h|h|h)<;>simp_all
   ·split
    ·rename_i h
     subst h
     simp
    ·simp
theorem insI_asc (n:Int): ∀ {l:List Int},AscI l→AscI (insI n l)
 | [],_=>List.pairwise_singleton _ _
 | y::l,h=>by
   have h':=List.pairwise_cons.1 h
   unfold insI
   split
   ·rename_i h1
    refine List.Pairwise.cons (fun x hx=>?_) (insI_asc n h'.2)
    rcases (insI_mem n l x).1 hx with rfl|hx
    ·exact h1
    ·exact h'.1 x hx
   ·rename_i h1
    split
    ·exact h
    ·rename_i h2
     refine List.Pairwise.cons (fun x hx=>?_) h
     rcases List.mem_cons.1 hx with rfl|hx
     ·omega
     ·have:=h'.1 x hx;omega
theorem insAll_spec: ∀ (l a:List Int),AscI a→AscI (insAll a l)∧ ∀ x,x∈insAll a l↔x∈a∨x∈l
 | [],a,h=>⟨h,fun x=>by simp [insAll]⟩
 | n::l,a,h=>by
   rw [insAll]
   obtain ⟨h1,h2⟩:=insAll_spec l _ (insI_asc n h)
   refine ⟨h1,fun x=>?_⟩
   rw [h2,insI_mem,List.mem_cons]
   constructor
   ·rintro ((h|h)|h)<;>simp_all
   ·rintro (h|h|h)<;>simp_all
theorem compI_spec (d:Array Int) (hs: ∀ i j,i<j→j<d.size→d[i]! ≤d[j]!): ∀ m,m≤d.size→
  (Lib.compactUpTo d m).Pairwise (· < ·)∧(∀ x,x∈Lib.compactUpTo d m↔ ∃ i,i<m∧d[i]! = x)
 | 0,_=>by simp [Lib.compactUpTo]
 | m+1,hm=>by
   obtain ⟨h1,h2⟩:=compI_spec d hs m (by omega)
   rw [Lib.compactUpTo_succ]
   by_cases hk:Lib.keeps d m=true
   ·rw [if_pos hk]
    refine ⟨List.pairwise_append.2 ⟨h1,List.pairwise_singleton _ _,fun x hx y hy=>?_⟩,fun x=>?_⟩
    ·obtain ⟨i,hi,rfl⟩:=(h2 x).1 hx
     rw [List.mem_singleton] at hy
     subst hy
     have hk':m≠0∧d[m]! ≠d[m-1]! ∨m=0:=by
      unfold Lib.keeps at hk
      rcases of_decide_eq_true hk with g|g
      ·exact .inr g
      ·by_cases h0:m=0
       ·exact .inr h0
       ·exact .inl ⟨h0,g⟩
     rcases hk' with ⟨h0,hne⟩|h0
     ·have a1:d[i]! ≤d[m-1]! :=by
       rcases Nat.lt_or_ge i (m-1) with g|g
       ·exact hs i (m-1) g (by omega)
       ·have:i=m-1:=by omega
        subst this;exact Int.le_refl _
      have a2:d[m-1]! ≤d[m]! :=hs (m-1) m (by omega) (by omega)
      omega
     ·omega
    ·rw [List.mem_append,h2,List.mem_singleton]
     constructor
     ·rintro (⟨i,hi,e⟩|e)
      ·exact ⟨i,by omega,e⟩
      ·exact ⟨m,by omega,e.symm⟩
     ·rintro ⟨i,hi,e⟩
      rcases Nat.lt_or_ge i m with g|g
      ·exact .inl ⟨i,g,e⟩
      ·have:i=m:=by omega
       subst this;exact .inr e.symm
   ·rw [if_neg hk,List.append_nil]
    refine ⟨h1,fun x=>?_⟩
    rw [h2]
    have hk':m≠0∧d[m]! = d[m-1]! :=by
     unfold Lib.keeps at hk
     simp only [decide_eq_true_eq,not_or,ne_eq,Decidable.not_not] at hk
     exact hk
    constructor
    ·rintro ⟨i,hi,e⟩;exact ⟨i,by omega,e⟩
    ·rintro ⟨i,hi,e⟩
     rcases Nat.lt_or_ge i m with g|g
     ·exact ⟨i,g,e⟩
     ·have:i=m:=by omega
      subst this;exact ⟨i-1,by omega,by rw [← hk'.2];exact e⟩
def sortI (l:List Int):List Int:=l.mergeSort fun x y=>decide (x≤y)
theorem sortI_len (l:List Int):(sortI l).length=l.length:=by simp [sortI]
/-- Sorted and compacted. -/
def uniqI (l:List Int):List Int:=Lib.compact (sortI l)
theorem uniqI_eq (l:List Int):uniqI l=insAll [] l:=by
 have hsrt:(sortI l).Pairwise (fun x y=>x≤y):=by
  have:=List.pairwise_mergeSort (le:=fun x y:Int=>decide (x≤y)) (fun a b c h1 h2=>by simp only [decide_eq_true_eq] at *;omega) (fun a b=>by simp only [Bool.or_eq_true,decide_eq_true_eq];omega) l
  exact this.imp (fun h=>by simpa using h)
 have hmem: ∀ z,z∈sortI l↔z∈l:=fun z=>List.mem_mergeSort
 unfold uniqI Lib.compact
 generalize sortI l=Z at hsrt hmem
 obtain ⟨h1,h2⟩:=compI_spec Z.toArray (fun i j hij hj=>by
  have hj':j<Z.length:=by simpa using hj
  have:=List.pairwise_iff_getElem.1 hsrt i j (by omega) hj' hij
  rw [getElem!_pos Z.toArray i (by simp;omega),getElem!_pos Z.toArray j hj]
  simpa using this) Z.length (by simp)
 obtain ⟨g1,g2⟩:=insAll_spec l [] List.Pairwise.nil
 refine ascI_ext h1 g1 fun x=>?_
 rw [h2,g2]
 simp only [List.not_mem_nil,false_or]
 rw [← hmem x]
 constructor
 ·rintro ⟨i,hi,rfl⟩
  rw [getElem!_pos Z.toArray i (by simpa using hi)]
  simp
 ·intro hx
  obtain ⟨i,hi,rfl⟩:=List.mem_iff_getElem.1 hx
  exact ⟨i,hi,by rw [getElem!_pos Z.toArray i (by simpa using hi)];simp⟩
end Go.Proofs.Ytmgodadmafcliaa
/- Audit: the walks of the checks of a configuration, of pins and of bindings, of the program and of the reference. -/
set_option linter.unusedSimpArgs false
set_option linter.unusedVariables false
namespace Go.Proofs.Ytmgodadmafcliaa
open Go.RowKit Go.Avm
set_option maxRecDepth 100000 in set_option maxHeartbeats 3200000 in
theorem rwithin_calls {n a b:Int}:ACalls Try.prog 46 [.sc (.int .i64 n), .sc (.int .i64 a), .sc (.int .i64 b)] (.sc (.bool (inR n a b))) []:=by
 refine of_tri [] [] Try.func46 rfl call46 rfl (by decide) (by decide) rfl rfl Try.ntmps46 (by simp (disch:=omega) only [seval,go_sem,cnd,intV,shV,convV,strV,List.replicate,l_2,l_1];rfl) (by simp (disch:=omega) only [seval,go_sem,cnd,intV,shV,convV,strV,l_2,l_1];rfl) ?_
 ((repeat' (first|(with_reducible refine isCv ?_;intro hc;(try simp only [bls,reduceCtorEq] at hc);(try (exfalso;omega)))|((with_reducible refine isTriD ?_);((with_reducible first|refine TriD.step (by simp only [seval,go_sem];rfl) ?_|refine TriD.step (by simp (disch:=omega) only [seval,go_sem,cnd,intV,shV,convV,strV];rfl) ?_);refine LVs (st:=[13]) ?_))|(with_reducible refine isRet ?_;refine RetV (rs:=[.tmp 6]) (by with_unfolding_all rfl) rfl ?_<;>simp only [seval,go_sem]<;>(repeat' (with_reducible apply And.intro))<;>(try rfl))|(with_reducible (refine TVq (st:=[13]) ?_))|simp only [seval,go_sem]|(with_reducible first|refine oV_st (by simp (disch:=omega) only [seval,go_sem,cnd,intV,shV,convV,strV];rfl) ?_|refine gV_split (by simp only [seval,go_sem];rfl) (by simp only [seval,go_sem];rfl) (by simp only [seval,go_sem];done) (cvI ?_) (cvI ?_) (by simp only [seval,go_sem]))))<;>(try (fail)))
 all_goals (simp [inR];try omega)
set_option maxRecDepth 100000 in set_option maxHeartbeats 6400000 in
theorem rcfg_calls {a b c d e f g:Int}:ACalls Try.prog 45 [.agg [.sc (.int .i64 a), .sc (.int .i64 b), .sc (.int .i64 c), .sc (.int .i64 d), .sc (.int .i64 e), .sc (.int .i64 f), .sc (.int .i64 g)]] (.sc (.int .i64 (cond (cfOk ⟨a,b,c,d,e,f,g⟩) 0 5))) []:=by
 simp only [cfOk]
 generalize h1:inR a 1 64=x1
 generalize h2:inR b 1 64=x2
 generalize h3:inR c 1 16384=x3
 generalize h4:inR d 8 1024=x4
 generalize h5:inR e 1 1024=x5
 generalize h6:inR f 1 1048576=x6
 generalize h7:inR g 1 64=x7
 refine of_tri [] [1,5,10,16,22,28,34,40] Try.func45 rfl call45 rfl (by decide) (by decide) rfl rfl Try.ntmps45 (by simp (disch:=omega) only [seval,go_sem,cnd,intV,shV,convV,strV,List.replicate,l_2,l_1];rfl) (by simp (disch:=omega) only [seval,go_sem,cnd,intV,shV,convV,strV,l_2,l_1];rfl) ?_
 (all_goals (try have hZ:=(And.intro h1 (And.intro h2 (And.intro h3 (And.intro h4 (And.intro h5 (And.intro h6 h7)))))));(repeat' (first|(with_reducible refine isCv ?_;intro hc;(try simp only [bls,reduceCtorEq] at hc);(try (exfalso;omega)))|((with_reducible refine isTriD ?_);((with_reducible refine isCallD ?_);((with_reducible refine LVcall (st:=[]) ?_);simp only [seval,go_sem,hZ];(refine CallL.c (rwithin_calls) ?_))))|(with_reducible refine isRet ?_;refine RetV (rs:=[.tmp 2]) (by with_unfolding_all rfl) rfl ?_<;>simp only [seval,go_sem]<;>(repeat' (with_reducible apply And.intro))<;>(try rfl))|(with_reducible (refine TVq (st:=[]) ?_))|simp only [seval,go_sem,hZ]|(with_reducible first|refine gV_split (by simp only [seval,go_sem,hZ];rfl) (by simp only [seval,go_sem,hZ];rfl) (by simp only [seval,go_sem,hZ];done) (cvI ?_) (cvI ?_) (by simp only [seval,go_sem,hZ])|refine cV_split (cvI ?_) (cvI ?_))))<;>(try (fail));all_goals (try clear hZ))
 all_goals (simp_all)
end Go.Proofs.Ytmgodadmafcliaa
/- The reference's list of the versions of a dump, in their order: its walk. -/
set_option linter.unusedSimpArgs false
set_option linter.unusedVariables false
namespace Go.Proofs.Ytmgodadmafcliaa
open Go.RowKit Go.Avm
end Go.Proofs.Ytmgodadmafcliaa
/- Collector: the walks of the reference's Garbage, insert, Reachable, Next and SameVictims. -/
set_option linter.unusedSimpArgs false
set_option linter.unusedVariables false
namespace Go.Proofs.Ytmgodadmafcliaa
open Go.RowKit Go.Avm
theorem vers_le {os:List Ob} (hl:(os.flatMap vnsO).length≤1000): ∀ o∈os,o.vers.length≤1000:=fun o ho=>by
 obtain ⟨A,B,e⟩:=List.append_of_mem ho
 subst e
 rw [List.flatMap_append,List.flatMap_cons] at hl
 simp only [List.length_append,vnsO,List.length_map] at hl
 omega
end Go.Proofs.Ytmgodadmafcliaa
/- The library's slices.Sort and slices.Compact at []int, by their contracts on the kit's shelf (the layings written by the kit's lay-shelf and lay-plain for this seat); as contracts of the machine. -/
set_option linter.unusedSimpArgs false
set_option linter.unusedVariables false
namespace Go.Proofs.Ytmgodadmafcliaa
open Go.Shelf
def lays189_ren:Go.Shelf.Ren:=⟨fun|189=>54|125=>97|257=>96|128=>139|129=>140|294=>130|295=>131|296=>132|297=>133|298=>134|299=>135|216=>136|300=>137|301=>138|328=>152|329=>153|330=>154|331=>155|332=>156|215=>129|343=>158|n=>n,fun|28=>22|3=>3|46=>65|0=>0|51=>175|53=>177|4=>4|183=>170|182=>169|131=>117|5=>5|9=>9|218=>189|222=>193|228=>195|229=>196|n=>n,fun|n=>n⟩
theorem lays189:Go.Proofs.Lays.n189 Try.prog lays189_ren:={
 mixed:=by kernel_rfl
 f125:=Try.func97.trans (congrArg some (by kernel_rfl))
 f128:=Try.func139.trans (congrArg some (by kernel_rfl))
 f129:=Try.func140.trans (congrArg some (by kernel_rfl))
 f189:=Try.func54.trans (congrArg some (by kernel_rfl))
 f215:=Try.func129.trans (congrArg some (by kernel_rfl))
 f216:=Try.func136.trans (congrArg some (by kernel_rfl))
 f257:=Try.func96.trans (congrArg some (by kernel_rfl))
 f294:=Try.func130.trans (congrArg some (by kernel_rfl))
 f295:=Try.func131.trans (congrArg some (by kernel_rfl))
 f296:=Try.func132.trans (congrArg some (by kernel_rfl))
 f297:=Try.func133.trans (congrArg some (by kernel_rfl))
 f298:=Try.func134.trans (congrArg some (by kernel_rfl))
 f299:=Try.func135.trans (congrArg some (by kernel_rfl))
 f300:=Try.func137.trans (congrArg some (by kernel_rfl))
 f301:=Try.func138.trans (congrArg some (by kernel_rfl))
 f328:=Try.func152.trans (congrArg some (by kernel_rfl))
 f329:=Try.func153.trans (congrArg some (by kernel_rfl))
 f330:=Try.func154.trans (congrArg some (by kernel_rfl))
 f331:=Try.func155.trans (congrArg some (by kernel_rfl))
 f332:=Try.func156.trans (congrArg some (by kernel_rfl))
 f343:=Try.func158.trans (congrArg some (by kernel_rfl))
 t0:=Try.underlying0
 a0:=Try.isAgg0
 z0:=Try.sizeOf0
 v0:=Try.zeroValue0
 t3:=Try.underlying3
 a3:=Try.isAgg3
 z3:=Try.sizeOf3
 v3:=Try.zeroValue3
 t4:=Try.underlying4
 a4:=Try.isAgg4
 z4:=Try.sizeOf4
 v4:=Try.zeroValue4
 t5:=Try.underlying5
 a5:=Try.isAgg5
 z5:=Try.sizeOf5
 v5:=Try.zeroValue5
 t9:=Try.underlying9
 a9:=Try.isAgg9
 z9:=Try.sizeOf9
 v9:=Try.zeroValue9
 t28:=Try.underlying22
 a28:=Try.isAgg22
 z28:=Try.sizeOf22
 v28:=Try.zeroValue22
 t46:=Try.underlying65
 a46:=Try.isAgg65
 z46:=Try.sizeOf65
 v46:=Try.zeroValue65
 t51:=Try.underlying175
 a51:=Try.isAgg175
 z51:=Try.sizeOf175
 v51:=Try.zeroValue175
 t53:=Try.underlying177
 a53:=Try.isAgg177
 z53:=Try.sizeOf177
 v53:=Try.zeroValue177
 t131:=Try.underlying117
 a131:=Try.isAgg117
 z131:=Try.sizeOf117
 v131:=Try.zeroValue117
 t182:=Try.underlying169
 a182:=Try.isAgg169
 z182:=Try.sizeOf169
 v182:=Try.zeroValue169
 t183:=Try.underlying170
 a183:=Try.isAgg170
 z183:=Try.sizeOf170
 v183:=Try.zeroValue170
 t218:=Try.underlying189
 a218:=Try.isAgg189
 z218:=Try.sizeOf189
 v218:=Try.zeroValue189
 t222:=Try.underlying193
 a222:=Try.isAgg193
 z222:=Try.sizeOf193
 v222:=Try.zeroValue193
 t228:=Try.underlying195
 a228:=Try.isAgg195
 z228:=Try.sizeOf195
 v228:=Try.zeroValue195
 t229:=Try.underlying196
 a229:=Try.isAgg196
 z229:=Try.sizeOf196
 v229:=Try.zeroValue196 }
open Go.Sort Go.RowKit in
theorem slices_Sort_int (blk off cap:Nat) (zs:List Int) (w:World) (hH:Holds (Value.int .i64) w blk off zs.toArray) (hblk:blk<w.heap.size) (hsz:zs.length<4611686018427387904):
  Calls Try.prog 54 #[.slice (some ⟨blk,off,none⟩) zs.length cap] w fun e w'=>
   e = .returned (.tuple #[])∧ ∃ n os,w'=grow (putRow (Value.int .i64) (Sort.ahead w n) blk off (zs.mergeSort fun x y=>decide (x≤y)).toArray) os:=Any.slices_Sort_int lays189 blk off cap zs w hH hblk hsz
def laysNm220_ren:Go.Shelf.Ren:=⟨fun|20=>55|n=>n,fun|22=>22|3=>3|4=>4|0=>0|n=>n,fun|n=>n⟩
theorem laysNm220:Go.Proofs.Lays2.n20 Try.prog laysNm220_ren:={
 mixed:=by kernel_rfl
 f20:=Try.func55.trans (congrArg some (by kernel_rfl))
 t0:=Try.underlying0
 a0:=Try.isAgg0
 z0:=Try.sizeOf0
 v0:=Try.zeroValue0
 t3:=Try.underlying3
 a3:=Try.isAgg3
 z3:=Try.sizeOf3
 v3:=Try.zeroValue3
 t4:=Try.underlying4
 a4:=Try.isAgg4
 z4:=Try.sizeOf4
 v4:=Try.zeroValue4
 t22:=Try.underlying22
 a22:=Try.isAgg22
 z22:=Try.sizeOf22
 v22:=Try.zeroValue22
 i3:=by kernel_rfl }
open Go.RowKit Go.Lib Go.Sort in
theorem slices_Compact_int (blk off cap:Nat) (zs:List Int) (w:World) (hH:Holds (Value.int .i64) w blk off zs.toArray) (hsz:zs.length≤9223372036854775807) (hcap:zs.length≤cap):
  Calls Try.prog 55 #[.slice (some ⟨blk,off,none⟩) zs.length cap] w fun e w'=>e = .returned (.slice (some ⟨blk,off,none⟩) (Lib.compact zs).length cap)∧ ∃ q,w'=putRow (Value.int .i64) (Sort.ahead w q) blk off (Lib.compact zs++List.replicate (zs.length-(Lib.compact zs).length) 0).toArray:=Any.slices_Compact_int laysNm220 blk off cap zs w hH hsz hcap
open Go.RowKit Go.Lib Go.Sort in
theorem slices_Compact_int_empty (a:Option Addr) (cap:Nat) (w:World):
  Calls Try.prog 55 #[.slice a 0 cap] w fun e w'=>e = .returned (.slice a 0 cap)∧w'=w:=Any.slices_Compact_int_empty laysNm220 a cap w
open Go.RowKit Go.Sort in
theorem slices_Sort_int_none (p:Option Addr) (cap:Nat) (w:World):
  Calls Try.prog 54 #[.slice p 0 cap] w fun e w'=>e = .returned (.tuple #[])∧w'=w:=Any.slices_Sort_int_none lays189 p cap w
open Go.RowKit Go.Avm
theorem sorti_calls {zs:List Int} {n:Nat} (hn:zs.length=n) (h0:0<n) (hl:n≤1000000):MCalls Try.prog 54 [.row 1 (zs.map rowI)] [.slo 0 1 0 n] (.tup []) [.row 1 ((sortI zs).map rowI)]:=by
 subst hn
 exact sort_calls (enc:=Value.int .i64) sortI (fun l=>by simp [sortI]) (fun _=>rfl) call54 (fun blk cap zs w hH hb hs=>slices_Sort_int blk 0 cap zs w hH hb hs) (fun e=>by subst e;simp at h0) hl
theorem sorti_none:MCalls Try.prog 54 [.row 1 []] [.slo 0 1 0 0] (.tup []) [.row 1 []]:=none_calls call54 slices_Sort_int_none
def restI (zs:List Int):List Int:=Lib.compact zs++List.replicate (zs.length-(Lib.compact zs).length) 0
theorem restI_len (zs:List Int):(restI zs).length=zs.length:=by
 have:=Lib.compact_length_le zs
 simp only [restI,List.length_append,List.length_replicate];omega
theorem restI_take (zs:List Int):(restI zs).take (Lib.compact zs).length=Lib.compact zs:=by
 rw [restI,List.take_left' rfl]
theorem compi_calls {zs:List Int} {n:Nat} (hn:zs.length=n) (h0:0<n) (hl:n≤1000000):MCalls Try.prog 55 [.row 1 (zs.map rowI)] [.slo 0 1 0 n] (.slo 0 1 0 (Lib.compact zs).length) [.row 1 ((restI zs).map rowI)]:=by
 subst hn
 exact head_calls (enc:=Value.int .i64) (P:=Try.prog) restI (fun l=>(Lib.compact l).length) (fun l=>Lib.compact_length_le l) restI_len (fun _=>rfl) call55 (fun blk cap zs w hH hb hs hc=>slices_Compact_int blk 0 cap zs w hH (by omega) hc) (fun e=>by subst e;simp at h0) hl
theorem compi_none:MCalls Try.prog 55 [.row 1 []] [.slo 0 1 0 0] (.slo 0 1 0 0) [.row 1 []]:=none_head call55 slices_Compact_int_empty
end Go.Proofs.Ytmgodadmafcliaa
/- Collector: the walk of Reachable of the program; all functions compared for a dump of at most nineteen versions. -/
set_option linter.unusedSimpArgs false
set_option linter.unusedVariables false
namespace Go.Proofs.Ytmgodadmafcliaa
open Go.RowKit Go.Avm
theorem comp_nil:Lib.compact (sortI [])=[]:=by simp [sortI,Lib.compact,Lib.compactUpTo]
set_option maxRecDepth 100000 in set_option maxHeartbeats 6400000 in
theorem reach_calls {com:Int} {os:List Ob} {ps:List Pn} {bd pg:List (List D)} (ho:os.length≤100000) (hl:(os.flatMap vnsO).length≤19) (hp:ps.length≤100000) (hg: ∀ x∈versR os [],x.v.pages.length≤1000):ACalls Try.prog 18 [.agg [.sc (.int .i64 com),.sl 2 (os.map rowOb),.sl 4 bd,.sl 2 (ps.map rowP),.sl 3 pg]] (.sl 1 ((reachR ps (versR os [])).map rowI)) []:=by
 have hen:=entries_calls (com:=com) (bd:=bd) (pn:=ps.map rowP) (pg:=pg) ho hl
 have hel:(versR os []).length≤19:=by rw [versR_sortV,sortV_len];simpa using hl
 unfold reachR
 rw [← uniqI_eq]
 unfold uniqI
 generalize versR os []=E at *
 generalize hG:livePgs ps E=G
 refine of_tri [] [1,5,7,16,22,25,27] Try.func18 rfl call18 rfl (by decide) (by decide) rfl rfl Try.ntmps18 (by simp (disch:=omega) only [seval,go_sem,cnd,intV,shV,convV,strV,List.replicate,l_2,l_1];rfl) (by simp (disch:=omega) only [seval,go_sem,cnd,intV,shV,convV,strV,l_2,l_1];rfl) ?_
 ((repeat' (first|((with_reducible refine isTriD ?_);((with_reducible refine isCallD ?_);((with_reducible refine LVcall (st:=[]) ?_);simp only [seval,go_sem];(refine CallL.c (hen) ?_))))|(with_reducible (refine TVq (st:=[]) ?_))|simp only [seval,go_sem]))<;>(try (fail)))
 all_goals (refine Tri.virt 3 22 1 (by first|(simp only [seval,go_sem];done)) (by first|(simp only [seval,go_sem];done)) (by simp only [seval,go_sem];rfl) ?_)
 all_goals (with_reducible refine Tri.loopU (fun (t:Nat×List Int)=>[(9,.sc (.int .i64 t.1)),(3,.slo 22 1 0 t.2.length),(5,.any),(10,.any),(11,.any),(12,.any),(13,.any),(14,.any),(15,.any),(16,.any),(17,.any),(18,.any),(19,.any),(20,.any),(21,.any),(22,.any),(23,.any)]) (fun (t:Nat×List Int)=>[(22,.row 1 (t.2.map rowI)),(5,.dead),(16,.dead)]) (fun (t:Nat×List Int)=>t.1≤E.length∧t.2.length≤1000*t.1∧t.2++livePgs ps (E.drop t.1)=G) (fun (t:Nat×List Int)=>E.length-t.1) ((0,[])) (⟨Nat.zero_le _,by simp,by simpa using hG⟩) (by intro _;simp (disch:=omega) only [seval,go_sem,cnd,intV,shV,convV,strV];rfl) (by intro _;simp (disch:=omega) only [seval,go_sem,cnd,intV,shV,convV,strV];rfl) (by (refine leQL_spec ?_);(try simp only [seval,go_sem]);done) (by (refine leQH_spec ?_);(try simp only [seval,go_sem]);done) (fun t hI=>?_))
 all_goals
  obtain ⟨k,a⟩:=t
  obtain ⟨hk,hal,hf⟩:=hI
  simp only at hk hal hf
  by_cases hlt:k<E.length
  ·obtain ⟨x,hx⟩:=get_lt hlt
   have hx':=get_map rowVn hx
   have hxp:=hg x (List.mem_of_getElem? hx)
   have hgc:=garb_calls (com:=com) (f:=x.v.from_) (t:=x.v.to) (s:=x.v.size) (p:=x.v.pages.map rowI) (od:=os.map rowOb) (bd:=bd) (pg:=pg) hp
   rw [show (!(x.v.to==0) && !coversP x.v.from_ x.v.to ps)=garbV ps x.v from rfl] at hgc
   rw [drop_get hx,livePgs] at hf
   have hk1:1000*(k+1)=1000*k+1000:=by omega
   cases hgb:garbV ps x.v with
   | true=>
     rw [if_pos hgb] at hf
     rw [hgb] at hgc
     ((repeat' (first|((with_reducible refine isTriD ?_);((with_reducible refine isCallD ?_);((with_reducible refine LVcall (st:=[]) ?_);simp only [seval,go_sem,hx',rowVn];(refine CallL.c (hgc) ?_))))|(with_reducible (refine TVq (st:=[]) ?_))|simp only [seval,go_sem,hx',rowVn]|(with_reducible refine oV_st (by simp (disch:=omega) only [seval,go_sem,cnd,intV,shV,convV,strV,hx',rowVn];rfl) ?_)))<;>(try (fail)))
     all_goals (try (refine isNextM ((k+1,a)) (by (refine leQL_spec ?_);(try simp only [seval,go_sem]);first|((repeat' (with_reducible apply And.intro))<;>first|rfl);done) (by (refine leQH_spec ?_);(try simp only [seval,go_sem]);done) ?_ ?_<;>(try (omega))))
     all_goals (try exact ⟨by simp only;omega,by simp only;omega,hf⟩)
   | false=>
     rw [if_neg (by rw [hgb];decide)] at hf
     rw [hgb] at hgc
     ((repeat' (first|((with_reducible refine isTriD ?_);((with_reducible refine isCallD ?_);((with_reducible refine LVcall (st:=[]) ?_);simp only [seval,go_sem,hx',rowVn];(refine CallL.c (hgc) ?_))))|(with_reducible (refine TVq (st:=[]) ?_))|simp only [seval,go_sem,hx',rowVn]|(with_reducible refine oV_st (by simp (disch:=omega) only [seval,go_sem,cnd,intV,shV,convV,strV,hx',rowVn];rfl) ?_)))<;>(try (fail)))
     all_goals (try (refine isNextM ((k+1,a++x.v.pages)) (by (refine leQL_spec ?_);(try simp only [seval,go_sem]);first|((repeat' (with_reducible apply And.intro))<;>first|rfl|(simp [];done));done) (by (refine leQH_spec ?_);(try simp only [seval,go_sem]);first|((repeat' (with_reducible apply And.intro))<;>first|(simp [];done));done) ?_ ?_<;>(try (omega))))
     all_goals (try exact ⟨by simp only;omega,by simp only [List.length_append];omega,by simp only [List.append_assoc];exact hf⟩)
  ·rw [List.drop_eq_nil_of_le (by omega),livePgs,List.append_nil] at hf
   subst hf
   by_cases hz:a.length=0
   ·have e:a=[]:=List.eq_nil_of_length_eq_zero hz
    subst e
    rw [comp_nil]
    have h1:=sorti_none
    have h2:=compi_none
    ((repeat' (first|((with_reducible refine isTriD ?_);((with_reducible refine isCallD ?_);((with_reducible (first|(refine TriD.cI (dst:=_) [] (by simp only [seval,go_sem,List.length_nil,l_4];rfl) (by simp only [seval,go_sem,List.length_nil,l_4];rfl) (h1) (by simp only [seval,go_sem,List.length_nil,l_4];done) (by simp only [seval,go_sem,List.length_nil,l_4];done) (by simp only [seval,go_sem,List.length_nil,l_4];rfl) ?_)|(refine TriD.cI (dst:=_) [] (by simp only [seval,go_sem,List.length_nil,l_4];rfl) (by simp only [seval,go_sem,List.length_nil,l_4];rfl) (h2) (by simp only [seval,go_sem,List.length_nil,l_4];done) (by simp only [seval,go_sem,List.length_nil,l_4];done) (by simp only [seval,go_sem,List.length_nil,l_4];rfl) ?_)));refine LVs (st:=[]) ?_)))|(with_reducible refine isRet ?_;(refine RetOK.frz 22 (by simp only [seval,go_sem];rfl) (by simp only [seval,go_sem,List.length_nil,l_4];rfl) ?_);(with_reducible refine isRet ?_;refine RetOK.q rfl rfl (by simp only [seval,go_sem];rfl) (by decide) (by simp only [seval,go_sem];rfl) (by simp only [seval,go_sem];rfl) rfl ?_<;>(try simp only [seval,go_sem,List.length_nil,l_4])<;>(repeat' (with_reducible apply And.intro))<;>(try rfl)))|(with_reducible (refine TVq (st:=[]) ?_))|simp only [seval,go_sem,List.length_nil,l_4]|(with_reducible refine oV_st (by simp (disch:=omega) only [seval,go_sem,cnd,intV,shV,convV,strV,List.length_nil,l_4];rfl) ?_)))<;>(try (fail)))
   ·have hsl:=sortI_len a
    have hso:=sorti_calls (zs:=a) rfl (by omega) (by omega)
    have hco:=compi_calls (zs:=sortI a) hsl (by omega) (by omega)
    have hrl:=restI_len (sortI a)
    have hrt:=congrArg (List.map rowI) (restI_take (sortI a))
    rw [List.map_take] at hrt
    have hcl:=Lib.compact_length_le (sortI a)
    generalize restI (sortI a)=R2 at *
    generalize Lib.compact (sortI a)=C at *
    generalize sortI a=S at *
    have hll:(List.map rowI R2).length=a.length:=by rw [List.length_map];omega
    have hcc:C.length≤a.length:=by omega
    (all_goals (try have hZ:=(And.intro hrt (And.intro hll hcc)));(repeat' (first|((with_reducible refine isTriD ?_);((with_reducible refine isCallD ?_);((with_reducible (first|(refine TriD.cI (dst:=_) [] (by simp only [seval,go_sem,hZ];rfl) (by simp only [seval,go_sem,hZ];rfl) (hso) (by simp only [seval,go_sem,hZ];done) (by simp only [seval,go_sem,hZ];done) (by simp only [seval,go_sem,hZ];rfl) ?_)|(refine TriD.cI (dst:=_) [] (by simp only [seval,go_sem,hZ];rfl) (by simp only [seval,go_sem,hZ];rfl) (hco) (by simp only [seval,go_sem,hZ];done) (by simp only [seval,go_sem,hZ];done) (by simp only [seval,go_sem,hZ];rfl) ?_)));refine LVs (st:=[]) ?_)))|(with_reducible refine isRet ?_;(refine RetOK.frz 22 (by simp only [seval,go_sem];rfl) (by simp only [seval,go_sem,hZ];rfl) ?_);(with_reducible refine isRet ?_;refine RetOK.q rfl rfl (by simp only [seval,go_sem];rfl) (by decide) (by simp only [seval,go_sem];rfl) (by simp only [seval,go_sem];rfl) rfl ?_<;>(try simp only [seval,go_sem,hZ])<;>(repeat' (with_reducible apply And.intro))<;>(try rfl)))|(with_reducible (refine TVq (st:=[]) ?_))|simp only [seval,go_sem,hZ]|(with_reducible refine oV_st (by simp (disch:=omega) only [seval,go_sem,cnd,intV,shV,convV,strV,hZ];rfl) ?_)))<;>(try (fail));all_goals (try clear hZ))
end Go.Proofs.Ytmgodadmafcliaa
