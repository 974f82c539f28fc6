/- Audit: the walk of counted of the program: the references of all pages. -/
import Derived.Test.YtmgodadmafcliaaZAuC
set_option linter.unusedSimpArgs false
set_option linter.unusedVariables false
namespace Go.Proofs.Ytmgodadmafcliaa
open Go.RowKit Go.Avm
def badPg (m:List (Int×Int)) (q:Pg):Bool:= !(q.refs==aGet q.num m)
def idxPg (m:List (Int×Int)):List Pg→Nat→Int
 | [],_=> -1
 | q::l,k=>if badPg m q=true then (k:Int) else idxPg m l (k+1)
set_option maxRecDepth 100000 in set_option maxHeartbeats 3200000 in
theorem cntf_calls {m:List (Int×Int)} {a b:Int} {d:List (List D)}:MCalls Try.prog 79 [.box [.mp 1], .ext (mapX (.int .i64) (mapI m))] [.agg [.sc (.int .i64 a), .sc (.int .i64 b), .sl 1 d], .ref 0 0] (.sc (.bool (!(b==aGet a m)))) [.box [.mp 1], .ext (mapX (.int .i64) (mapI m))]:=by
 refine of_tri [1000,1001] [2] Try.func79 rfl call79 rfl (by decide) (by decide) rfl rfl Try.ntmps79 (by simp (disch:=omega) only [seval,go_sem,cnd,intV,shV,convV,strV,List.replicate,l_2,l_1];rfl) (by simp (disch:=omega) only [seval,go_sem,cnd,intV,shV,convV,strV,l_2,l_1];rfl) ?_
 cases hq:aFind a m with
 | none=>
   have hg:=find_0 hq
   have e:aGet a m=0:=by rw [aGet,hq];rfl
   rw [e]
   ((repeat' (first|((with_reducible refine isTriD ?_);(with_reducible refine isLookup ?_;with_reducible refine TriD.lookup (by simp only [seval,go_sem,hg]) (by simp only [seval,go_sem,hg];rfl) (by simp only [seval,go_sem,hg];rfl) (by simp only [seval,go_sem,hg];rfl) (by simp only [seval,go_sem,hg];rfl) (by simp only [seval,go_sem,hg];rfl) (by simp only [seval,go_sem,hg];rfl) (by simp only [seval,go_sem,hg];rfl) (by simp only [seval,go_sem,hg];rfl) (by simp only [seval,go_sem,hg];done) (by simp only [seval,go_sem,hg];rfl) (by simp only [seval,go_sem,hg];rfl) ?_;refine LVs (st:=[]) ?_))|(with_reducible refine isRet ?_;refine RetV (rs:=[.tmp 3]) (by with_unfolding_all rfl) rfl ?_<;>simp only [seval,go_sem]<;>(repeat' (with_reducible apply And.intro))<;>(try rfl))|(with_reducible (refine TVq (st:=[]) ?_))|simp only [seval,go_sem,hg]|(with_reducible refine oV_st (by simp (disch:=omega) only [seval,go_sem,cnd,intV,shV,convV,strV,hg];rfl) ?_)))<;>(try (fail)))
   all_goals simp
 | some v=>
   have hg:=find_I hq
   have e:aGet a m=v:=by rw [aGet,hq];rfl
   rw [e]
   ((repeat' (first|((with_reducible refine isTriD ?_);(with_reducible refine isLookup ?_;with_reducible refine TriD.lookup (by simp only [seval,go_sem,hg]) (by simp only [seval,go_sem,hg];rfl) (by simp only [seval,go_sem,hg];rfl) (by simp only [seval,go_sem,hg];rfl) (by simp only [seval,go_sem,hg];rfl) (by simp only [seval,go_sem,hg];rfl) (by simp only [seval,go_sem,hg];rfl) (by simp only [seval,go_sem,hg];rfl) (by simp only [seval,go_sem,hg];rfl) (by simp only [seval,go_sem,hg];done) (by simp only [seval,go_sem,hg];rfl) (by simp only [seval,go_sem,hg];rfl) ?_;refine LVs (st:=[]) ?_))|(with_reducible refine isRet ?_;refine RetV (rs:=[.tmp 3]) (by with_unfolding_all rfl) rfl ?_<;>simp only [seval,go_sem]<;>(repeat' (with_reducible apply And.intro))<;>(try rfl))|(with_reducible (refine TVq (st:=[]) ?_))|simp only [seval,go_sem,hg]|(with_reducible refine oV_st (by simp (disch:=omega) only [seval,go_sem,cnd,intV,shV,convV,strV,hg];rfl) ?_)))<;>(try (fail)))
   all_goals simp
set_option maxRecDepth 100000 in set_option maxHeartbeats 3200000 in
theorem ixpg_calls {m:List (Int×Int)} {l:List Pg} (hl:l.length≤1000):MCalls Try.prog 125 [.box [.mp 1], .ext (mapX (.int .i64) (mapI m))] [.sl 3 (l.map rowPg), .fn 79 [.ref 0 0]] (.sc (.int .i64 (idxPg m l 0))) [.box [.mp 1], .ext (mapX (.int .i64) (mapI m))]:=by
 refine of_tri [1000,1001] [16] Try.func125 rfl call125 rfl (by decide) (by decide) rfl rfl Try.ntmps125 (by simp (disch:=omega) only [seval,go_sem,cnd,intV,shV,convV,strV,List.replicate,l_2,l_1];rfl) (by simp (disch:=omega) only [seval,go_sem,cnd,intV,shV,convV,strV,l_2,l_1];rfl) ?_
 ((repeat' (first|(with_reducible (refine TVq (st:=[]) ?_))|simp only [seval,go_sem]))<;>(try (fail)))
 all_goals (with_reducible refine Tri.loopU (fun (k:Nat)=>[(8,.sc (.int .i64 k)),(4,.any),(5,.any),(9,.any),(10,.any),(11,.any),(12,.any),(13,.any),(14,.any),(15,.any),(16,.any),(17,.any),(18,.any)]) (fun (k:Nat)=>[(16,.dead)]) (fun (k:Nat)=>k≤l.length∧idxPg m (l.drop k) k=idxPg m l 0) (fun (k:Nat)=>l.length-k) (0) (⟨Nat.zero_le _,rfl⟩) (by intro _;simp (disch:=omega) only [seval,go_sem,cnd,intV,shV,convV,strV];rfl) (by intro _;simp (disch:=omega) only [seval,go_sem,cnd,intV,shV,convV,strV];rfl) (by (refine leQL_spec ?_);(try simp only [seval,go_sem]);done) (by (refine leQH_spec ?_);(try simp only [seval,go_sem]);done) (fun k hI=>?_))
 all_goals obtain ⟨hk,hf⟩:=hI
 by_cases hlt:k<l.length
 ·obtain ⟨q,hq⟩:=get_lt hlt
  have hq':=get_map rowPg hq
  have hcc:=cntf_calls (m:=m) (a:=q.num) (b:=q.refs) (d:=q.data.map rowW)
  rw [drop_get hq,idxPg] at hf
  have eb:badPg m q = !(q.refs==aGet q.num m):=rfl
  rw [← eb] at hcc
  cases hb:badPg m q with
  | true=>
    rw [hb] at hcc
    rw [if_pos hb] at hf
    rw [← hf]
    ((repeat' (first|((with_reducible refine isTriD ?_);((with_reducible refine isCallD ?_);((with_reducible ((refine TriD.cJ (dst:=_) [] (by simp only [seval,go_sem,hq',rowPg];rfl) (by simp only [seval,go_sem,hq',rowPg];rfl) (hcc) (by simp only [seval,go_sem,hq',rowPg];done) (by simp only [seval,go_sem,hq',rowPg];done) (by simp only [seval,go_sem,hq',rowPg];rfl) ?_)));refine LVs (st:=[]) ?_)))|(with_reducible refine isRet ?_;refine RetV (rs:=[.tmp 4]) (by with_unfolding_all rfl) rfl ?_<;>simp only [seval,go_sem]<;>(repeat' (with_reducible apply And.intro))<;>(try rfl))|(with_reducible (refine TVq (st:=[]) ?_))|simp only [seval,go_sem,hq',rowPg]|(with_reducible refine oV_st (by simp (disch:=omega) only [seval,go_sem,cnd,intV,shV,convV,strV,hq',rowPg];rfl) ?_)))<;>(try (fail)))
  | false=>
    rw [hb] at hcc
    rw [if_neg (by simp [hb])] at hf
    ((repeat' (first|((with_reducible refine isTriD ?_);((with_reducible refine isCallD ?_);((with_reducible ((refine TriD.cJ (dst:=_) [] (by simp only [seval,go_sem,hq',rowPg];rfl) (by simp only [seval,go_sem,hq',rowPg];rfl) (hcc) (by simp only [seval,go_sem,hq',rowPg];done) (by simp only [seval,go_sem,hq',rowPg];done) (by simp only [seval,go_sem,hq',rowPg];rfl) ?_)));refine LVs (st:=[]) ?_)))|(with_reducible (refine TVq (st:=[]) ?_))|simp only [seval,go_sem,hq',rowPg]|(with_reducible refine oV_st (by simp (disch:=omega) only [seval,go_sem,cnd,intV,shV,convV,strV,hq',rowPg];rfl) ?_)))<;>(try (fail)))
    all_goals (try (refine isNextM (k+1) (by (refine leQL_spec ?_);(try simp only [seval,go_sem]);first|((repeat' (with_reducible apply And.intro))<;>first|rfl);done) (by (refine leQH_spec ?_);(try simp only [seval,go_sem]);done) ?_ ?_<;>(try (omega))))
    all_goals (try exact ⟨by omega,hf⟩)
 ·rw [List.drop_eq_nil_of_le (by omega),idxPg] at hf
  rw [← hf]
  ((repeat' (first|(with_reducible refine isRet ?_;refine RetV (rs:=[.tmp 4]) (by with_unfolding_all rfl) rfl ?_<;>simp only [seval,go_sem]<;>(repeat' (with_reducible apply And.intro))<;>(try rfl))|(with_reducible (refine TVq (st:=[]) ?_))|simp only [seval,go_sem]|(with_reducible refine oV_st (by simp (disch:=omega) only [seval,go_sem,cnd,intV,shV,convV,strV];rfl) ?_)))<;>(try (fail)))
theorem idxPg_iff (m:List (Int×Int)): ∀ (l:List Pg) (k:Nat),decide (0≤idxPg m l k) = !(l.all fun q=>q.refs==aGet q.num m)
 | [],_=>rfl
 | q::l,k=>by
   rw [idxPg,List.all_cons]
   cases hb:(q.refs==aGet q.num m) with
   | true=>rw [if_neg (by simp [badPg,hb]),idxPg_iff m l (k+1),Bool.true_and]
   | false=>rw [if_pos (by simp [badPg,hb]),decide_eq_true (by omega)];rfl
set_option maxRecDepth 100000 in set_option maxHeartbeats 3200000 in
theorem ctpg_calls {m:List (Int×Int)} {l:List Pg} (hl:l.length≤1000):MCalls Try.prog 78 [.box [.mp 1],.ext (mapX (.int .i64) (mapI m))] [.sl 3 (l.map rowPg),.fn 79 [.ref 0 0]] (.sc (.bool (!(l.all fun q=>q.refs==aGet q.num m)))) [.box [.mp 1],.ext (mapX (.int .i64) (mapI m))]:=by
 rw [← idxPg_iff m l 0]
 refine of_tri [1000,1001] [7] Try.func78 rfl call78 rfl (by decide) (by decide) rfl rfl Try.ntmps78 (by simp (disch:=omega) only [seval,go_sem,cnd,intV,shV,convV,strV,List.replicate,l_2,l_1];rfl) (by simp (disch:=omega) only [seval,go_sem,cnd,intV,shV,convV,strV,l_2,l_1];rfl) ?_
 have hix:=ixpg_calls (m:=m) hl
 ((repeat' (first|((with_reducible refine isTriD ?_);((with_reducible refine isCallD ?_);((with_reducible ((refine TriD.cJ (dst:=_) [] (by simp only [seval,go_sem];rfl) (by simp only [seval,go_sem];rfl) (hix) (by simp only [seval,go_sem];done) (by simp only [seval,go_sem];done) (by simp only [seval,go_sem];rfl) ?_)));refine LVs (st:=[]) ?_)))|(with_reducible refine isRet ?_;refine RetV (rs:=[.tmp 4]) (by with_unfolding_all rfl) rfl ?_<;>simp only [seval,go_sem]<;>(repeat' (with_reducible apply And.intro))<;>(try rfl))|(with_reducible (refine TVq (st:=[]) ?_))|simp only [seval,go_sem]|(with_reducible refine oV_st (by simp (disch:=omega) only [seval,go_sem,cnd,intV,shV,convV,strV];rfl) ?_)))<;>(try (fail)))
theorem cnt_get {l:List Int} {k:Nat} {n:Int} {m M:List (Int×Int)} (hn:l[k]? = some n) (hf:(l.drop k).foldl bump m=M):(l.drop (k+1)).foldl bump (bump m n)=M:=by
 rw [drop_get hn] at hf;exact hf
theorem pgsV_get {l:List Ver} {k:Nat} {v:Ver} (hv:l[k]? = some v):pgsV (l.drop k)=v.pages++pgsV (l.drop (k+1)):=by rw [drop_get hv];rfl
theorem pgsO_get {l:List Ob} {k:Nat} {v:Ob} (hv:l[k]? = some v):pgsO (l.drop k)=pgsV v.vers++pgsO (l.drop (k+1)):=by rw [drop_get hv];rfl
set_option maxRecDepth 100000 in set_option maxHeartbeats 12800000 in
theorem counted_calls {com:Int} {l:List Ob} {ps:List Pg} {bd pn:List (List D)} (hl:l.length≤1000) (hps:ps.length≤1000) (hv: ∀ o∈l,o.vers.length≤1000∧ ∀ v∈o.vers,v.size≤9223372036854775807∧v.pages.length≤9223372036854775807):ACalls Try.prog 42 [.agg [.sc (.int .i64 com),.sl 2 (l.map rowOb),.sl 4 bd,.sl 2 pn,.sl 3 (ps.map rowPg)]] (.sc (.bool (ps.all fun q=>q.refs==cntW q.num (pgsO l) 0))) []:=by
 generalize hM:(pgsO l).foldl bump []=M
 have hall:(ps.all fun q=>q.refs==cntW q.num (pgsO l) 0)=ps.all fun q=>q.refs==aGet q.num M:=by
  congr 1
  funext q
  rw [← hM,cntW_bump];rfl
 rw [hall]
 refine of_tri [] [1,3,5,7,10,42] Try.func42 rfl call42 rfl (by decide) (by decide) rfl rfl Try.ntmps42 (by simp (disch:=omega) only [seval,go_sem,cnd,intV,shV,convV,strV,List.replicate,l_2,l_1];rfl) (by simp (disch:=omega) only [seval,go_sem,cnd,intV,shV,convV,strV,l_2,l_1];rfl) ?_
 ((repeat' (first|((with_reducible refine isTriD ?_);(with_reducible refine isMake ?_;with_reducible refine TriD.makeMap (by simp only [seval,go_sem]) (by simp only [seval,go_sem];rfl) (by simp only [seval,go_sem];rfl) (by simp only [seval,go_sem];rfl) (by simp only [seval,go_sem];rfl) (by simp only [seval,go_sem];done) (by simp only [seval,go_sem];rfl) ?_;refine LVs (st:=[]) ?_))|(with_reducible (refine TVq (st:=[]) ?_))|simp only [seval,go_sem]))<;>(try (fail)))
 all_goals (with_reducible refine Tri.loopU (fun (t:Nat×List (Int×Int))=>[(14,.sc (.int .i64 t.1)),(5,.any),(7,.any),(9,.any),(15,.any),(16,.any),(17,.any),(18,.any),(19,.any),(20,.any),(21,.any),(22,.any),(23,.any),(24,.any),(25,.any),(26,.any),(27,.any),(28,.any),(29,.any),(30,.any),(31,.any),(32,.any),(33,.any),(34,.any),(35,.any),(36,.any),(37,.any),(38,.any)]) (fun (t:Nat×List (Int×Int))=>[(10,.ext (mapX (.int .i64) (mapI t.2))),(5,.dead),(7,.dead)]) (fun (t:Nat×List (Int×Int))=>t.1≤l.length∧(pgsO (l.drop t.1)).foldl bump t.2=M) (fun (t:Nat×List (Int×Int))=>l.length-t.1) ((0,[])) (⟨Nat.zero_le _,by simpa using hM⟩) (by intro _;simp (disch:=omega) only [seval,go_sem,cnd,intV,shV,convV,strV];rfl) (by intro _;simp (disch:=omega) only [seval,go_sem,cnd,intV,shV,convV,strV];rfl) (by (refine leQL_spec ?_);(try simp only [seval,go_sem,mapI,l_4]);done) (by (refine leQH_spec ?_);(try simp only [seval,go_sem,mapI,l_4]);done) (fun t hI=>?_))
 all_goals
  obtain ⟨k,m⟩:=t
  obtain ⟨hk,hf⟩:=hI
  simp only at hk hf
  by_cases hlt:k<l.length
  ·obtain ⟨o,ho⟩:=get_lt hlt
   have ho':=get_map rowOb ho
   obtain ⟨hvl,hvs⟩:=hv o (List.mem_of_getElem? ho)
   rw [pgsO_get ho,List.foldl_append] at hf
   generalize hM2:(pgsV o.vers).foldl bump m=M2 at hf
   ((repeat' (first|(with_reducible (refine TVq (st:=[]) ?_))|simp only [seval,go_sem,ho',rowOb]|(with_reducible refine oV_st (by simp (disch:=omega) only [seval,go_sem,cnd,intV,shV,convV,strV,ho',rowOb];rfl) ?_)))<;>(try (fail)))
   all_goals (with_reducible refine Tri.loopU (fun (t:Nat×List (Int×Int))=>[(21,.sc (.int .i64 t.1)),(7,.any),(9,.any),(22,.any),(23,.any),(24,.any),(25,.any),(26,.any),(27,.any),(28,.any),(29,.any),(30,.any),(31,.any),(32,.any),(33,.any),(34,.any),(35,.any),(36,.any),(37,.any)]) (fun (t:Nat×List (Int×Int))=>[(10,.ext (mapX (.int .i64) (mapI t.2))),(7,.dead)]) (fun (t:Nat×List (Int×Int))=>t.1≤o.vers.length∧(pgsV (o.vers.drop t.1)).foldl bump t.2=M2) (fun (t:Nat×List (Int×Int))=>o.vers.length-t.1) ((0,m)) (⟨Nat.zero_le _,by simpa using hM2⟩) (by intro _;simp (disch:=omega) only [seval,go_sem,cnd,intV,shV,convV,strV];rfl) (by intro _;simp (disch:=omega) only [seval,go_sem,cnd,intV,shV,convV,strV];rfl) (by (refine leQL_spec ?_);(try simp only [seval,go_sem]);done) (by (refine leQH_spec ?_);(try simp only [seval,go_sem]);done) (fun t hI=>?_))
   all_goals
    obtain ⟨j,m2⟩:=t
    obtain ⟨hj,hf2⟩:=hI
    simp only at hj hf2
    by_cases hlt2:j<o.vers.length
    ·obtain ⟨v,hvj⟩:=get_lt hlt2
     have hvj':=get_map rowV hvj
     obtain ⟨r4,r5⟩:=hvs v (List.mem_of_getElem? hvj)
     rw [pgsV_get hvj,List.foldl_append] at hf2
     generalize hM3:v.pages.foldl bump m2=M3 at hf2
     ((repeat' (first|(with_reducible (refine TVq (st:=[]) ?_))|simp only [seval,go_sem,hvj',rowV]|(with_reducible refine oV_st (by simp (disch:=omega) only [seval,go_sem,cnd,intV,shV,convV,strV,hvj',rowV];rfl) ?_)))<;>(try (fail)))
     all_goals (with_reducible refine Tri.loopU (fun (t:Nat×List (Int×Int))=>[(28,.sc (.int .i64 t.1)),(9,.any),(29,.any),(30,.any),(31,.any),(32,.any),(33,.any),(34,.any),(35,.any),(36,.any)]) (fun (t:Nat×List (Int×Int))=>[(10,.ext (mapX (.int .i64) (mapI t.2)))]) (fun (t:Nat×List (Int×Int))=>t.1≤v.pages.length∧(v.pages.drop t.1).foldl bump t.2=M3) (fun (t:Nat×List (Int×Int))=>v.pages.length-t.1) ((0,m2)) (⟨Nat.zero_le _,by simpa using hM3⟩) (by intro _;simp (disch:=omega) only [seval,go_sem,cnd,intV,shV,convV,strV];rfl) (by intro _;simp (disch:=omega) only [seval,go_sem,cnd,intV,shV,convV,strV];rfl) (by (refine leQL_spec ?_);(try simp only [seval,go_sem]);done) (by (refine leQH_spec ?_);(try simp only [seval,go_sem]);done) (fun t hI=>?_))
     all_goals
      obtain ⟨i,m3⟩:=t
      obtain ⟨hi,hf3⟩:=hI
      simp only at hi hf3
      by_cases hlt3:i<v.pages.length
      ·obtain ⟨n,hn⟩:=get_lt hlt3
       have hn':=get_map rowI hn
       have h3:=cnt_get hn hf3
       cases hq:aFind n m3 with
       | none=>
         have hg:=find_0 hq
         have hs:=bump_0 hq
         (all_goals (try have hZ:=(And.intro hn' (And.intro hg hs)));(repeat' (first|((with_reducible refine isTriD ?_);first|(with_reducible refine isLookup ?_;with_reducible refine TriD.lookup (by simp only [seval,go_sem,rowI,hZ]) (by simp only [seval,go_sem,rowI,hZ];rfl) (by simp only [seval,go_sem,rowI,hZ];rfl) (by simp only [seval,go_sem,rowI,hZ];rfl) (by simp only [seval,go_sem,rowI,hZ];rfl) (by simp only [seval,go_sem,rowI,hZ];rfl) (by simp only [seval,go_sem,rowI,hZ];rfl) (by simp only [seval,go_sem,rowI,hZ];rfl) (by simp only [seval,go_sem,rowI,hZ];rfl) (by simp only [seval,go_sem,rowI,hZ];done) (by simp only [seval,go_sem,rowI,hZ];rfl) (by simp only [seval,go_sem,rowI,hZ];rfl) ?_;refine LVs (st:=[]) ?_)|(with_reducible refine isMapUpdate ?_;with_reducible refine TriD.mapUpdate (by simp only [seval,go_sem,rowI,hZ]) (by simp only [seval,go_sem,rowI,hZ];rfl) (by simp only [seval,go_sem,rowI,hZ];rfl) (by simp only [seval,go_sem,rowI,hZ];rfl) (by simp only [seval,go_sem,rowI,hZ];rfl) (by simp only [seval,go_sem,rowI,hZ];rfl) (by simp only [seval,go_sem,rowI,hZ];rfl) (by simp only [seval,go_sem,rowI,hZ];rfl) (by simp only [seval,go_sem,rowI,hZ];done) (by simp only [seval,go_sem,rowI,hZ];rfl) (by simp only [seval,go_sem,rowI,hZ];done) (by simp only [seval,go_sem,rowI,hZ];rfl) ?_;refine LVs (st:=[]) ?_))|(with_reducible (refine TVq (st:=[]) ?_))|simp only [seval,go_sem,rowI,hZ]|(with_reducible refine oV_st (by simp (disch:=omega) only [seval,go_sem,cnd,intV,shV,convV,strV,rowI,hZ];rfl) ?_)))<;>(try (fail));all_goals (try clear hZ))
         all_goals (try (refine isNextM ((i+1,bump m3 n)) (by (refine leQL_spec ?_);(try simp only [seval,go_sem]);first|((repeat' (with_reducible apply And.intro))<;>first|rfl);done) (by (refine leQH_spec ?_);(try simp only [seval,go_sem]);done) ?_ ?_<;>(try (omega))))
         all_goals (try exact ⟨by simp only;omega,h3⟩)
       | some z=>
         have hg:=find_I hq
         have hs:=bump_I hq
         (all_goals (try have hZ:=(And.intro hn' (And.intro hg hs)));(repeat' (first|((with_reducible refine isTriD ?_);first|(with_reducible refine isLookup ?_;with_reducible refine TriD.lookup (by simp only [seval,go_sem,rowI,wr_def,hZ]) (by simp only [seval,go_sem,rowI,wr_def,hZ];rfl) (by simp only [seval,go_sem,rowI,wr_def,hZ];rfl) (by simp only [seval,go_sem,rowI,wr_def,hZ];rfl) (by simp only [seval,go_sem,rowI,wr_def,hZ];rfl) (by simp only [seval,go_sem,rowI,wr_def,hZ];rfl) (by simp only [seval,go_sem,rowI,wr_def,hZ];rfl) (by simp only [seval,go_sem,rowI,wr_def,hZ];rfl) (by simp only [seval,go_sem,rowI,wr_def,hZ];rfl) (by simp only [seval,go_sem,rowI,wr_def,hZ];done) (by simp only [seval,go_sem,rowI,wr_def,hZ];rfl) (by simp only [seval,go_sem,rowI,wr_def,hZ];rfl) ?_;refine LVs (st:=[]) ?_)|(with_reducible refine isMapUpdate ?_;with_reducible refine TriD.mapUpdate (by simp only [seval,go_sem,rowI,wr_def,hZ]) (by simp only [seval,go_sem,rowI,wr_def,hZ];rfl) (by simp only [seval,go_sem,rowI,wr_def,hZ];rfl) (by simp only [seval,go_sem,rowI,wr_def,hZ];rfl) (by simp only [seval,go_sem,rowI,wr_def,hZ];rfl) (by simp only [seval,go_sem,rowI,wr_def,hZ];rfl) (by simp only [seval,go_sem,rowI,wr_def,hZ];rfl) (by simp only [seval,go_sem,rowI,wr_def,hZ];rfl) (by simp only [seval,go_sem,rowI,wr_def,hZ];done) (by simp only [seval,go_sem,rowI,wr_def,hZ];rfl) (by simp only [seval,go_sem,rowI,wr_def,hZ];done) (by simp only [seval,go_sem,rowI,wr_def,hZ];rfl) ?_;refine LVs (st:=[]) ?_))|(with_reducible (refine TVq (st:=[]) ?_))|simp only [seval,go_sem,rowI,wr_def,hZ]|(with_reducible refine oV_st (by simp (disch:=omega) only [seval,go_sem,cnd,intV,shV,convV,strV,rowI,wr_def,hZ];rfl) ?_)))<;>(try (fail));all_goals (try clear hZ))
         all_goals (try (refine isNextM ((i+1,bump m3 n)) (by (refine leQL_spec ?_);(try simp only [seval,go_sem]);first|((repeat' (with_reducible apply And.intro))<;>first|rfl);done) (by (refine leQH_spec ?_);(try simp only [seval,go_sem]);done) ?_ ?_<;>(try (omega))))
         all_goals (try exact ⟨by simp only;omega,h3⟩)
      ·rw [List.drop_eq_nil_of_le (by omega)] at hf3
       have h3:m3=M3:=hf3
       subst h3
       ((repeat' (first|(with_reducible (refine TVq (st:=[]) ?_))|simp only [seval,go_sem]|(with_reducible refine oV_st (by simp (disch:=omega) only [seval,go_sem,cnd,intV,shV,convV,strV];rfl) ?_)))<;>(try (fail)))
       all_goals (try (refine isNextM ((j+1,m3)) (by (refine leQL_spec ?_);(try simp only [seval,go_sem]);first|((repeat' (with_reducible apply And.intro))<;>first|rfl);done) (by (refine leQH_spec ?_);(try simp only [seval,go_sem]);done) ?_ ?_<;>(try (omega))))
       all_goals (try exact ⟨by simp only;omega,hf2⟩)
    ·rw [List.drop_eq_nil_of_le (by omega)] at hf2
     have h3:m2=M2:=hf2
     subst h3
     ((repeat' (first|(with_reducible (refine TVq (st:=[]) ?_))|simp only [seval,go_sem]|(with_reducible refine oV_st (by simp (disch:=omega) only [seval,go_sem,cnd,intV,shV,convV,strV];rfl) ?_)))<;>(try (fail)))
     all_goals (try (refine isNextM ((k+1,m2)) (by (refine leQL_spec ?_);(try simp only [seval,go_sem]);first|((repeat' (with_reducible apply And.intro))<;>first|rfl);done) (by (refine leQH_spec ?_);(try simp only [seval,go_sem]);done) ?_ ?_<;>(try (omega))))
     all_goals (try exact ⟨by simp only;omega,hf⟩)
  ·rw [List.drop_eq_nil_of_le (by omega)] at hf
   have h3:m=M:=hf
   subst h3
   have hct:=ctpg_calls (m:=m) hps
   ((repeat' (first|((with_reducible refine isTriD ?_);((with_reducible refine isCallD ?_);((with_reducible ((refine TriD.cJ (dst:=_) [] (by simp only [seval,go_sem];rfl) (by simp only [seval,go_sem];rfl) (hct) (by simp only [seval,go_sem];done) (by simp only [seval,go_sem];done) (by simp only [seval,go_sem];rfl) ?_)));refine LVs (st:=[]) ?_)))|(with_reducible refine isRet ?_;refine RetV (rs:=[.tmp 2]) (by with_unfolding_all rfl) rfl ?_<;>simp only [seval,go_sem]<;>(repeat' (with_reducible apply And.intro))<;>(try rfl))|(with_reducible (refine TVq (st:=[]) ?_))|simp only [seval,go_sem]|(with_reducible refine oV_st (by simp (disch:=omega) only [seval,go_sem,cnd,intV,shV,convV,strV];rfl) ?_)))<;>(try (fail)))
   all_goals exact Bool.not_not _
end Go.Proofs.Ytmgodadmafcliaa
