/- Audit: the walks of what looks at pages and names: sizes, references, names, and what pinned commits need; of the program. -/
import Derived.Test.YtmgodadmafcliaaZAuA
import Derived.Test.YtmgodadmafcliaaZAuQ
set_option linter.unusedSimpArgs false
set_option linter.unusedVariables false
namespace Go.Proofs.Ytmgodadmafcliaa
open Go.RowKit Go.Avm
theorem wr_def (n:Int):IntKind.i64.wrap n=wr n:=rfl
theorem dataE_step {ps:List Pg} {l:List Ob} {k:Nat} {o:Ob} (ho:l[k]? = some o) (hf:dataE ps (l.drop k)=dataE ps l):(versD ps o.vers≠0→dataE ps l=versD ps o.vers)∧(versD ps o.vers=0→dataE ps (l.drop (k+1))=dataE ps l):=by
 rw [drop_get ho,dataE] at hf
 exact ⟨fun h=>by rw [if_pos h] at hf;exact hf.symm,fun h=>by rw [if_neg (by simp [h])] at hf;exact hf⟩
theorem versD_step {ps:List Pg} {l:List Ver} {k:Nat} {o:Ver} (ho:l[k]? = some o) (hf:versD ps (l.drop k)=versD ps l):(sumE ps o.size o.pages 0≠0→versD ps l=sumE ps o.size o.pages 0)∧(sumE ps o.size o.pages 0=0→versD ps (l.drop (k+1))=versD ps l):=by
 rw [drop_get ho,versD] at hf
 exact ⟨fun h=>by rw [if_pos h] at hf;exact hf.symm,fun h=>by rw [if_neg (by simp [h])] at hf;exact hf⟩
theorem szI_find (ps:List Pg) (n:Int):mFind (.int .i64 n) (mapI (szM ps))=(pgLen ps n).map fun v=>D.sc (.int .i64 v):=by rw [mFind_I,szM_find]
set_option maxRecDepth 100000 in set_option maxHeartbeats 12800000 in
theorem ckdata_calls {a b c e p f g com:Int} {bd pn:List (List D)} {l:List Ob} {ps:List Pg} (hl:l.length≤1000) (hps:ps.length≤1000) (ha:AscI (ps.map (·.num))) (hv: ∀ o∈l,o.vers.length≤1000∧ ∀ v∈o.vers,v.size≤9223372036854775807∧v.pages.length≤9223372036854775807):ACalls Try.prog 41 [.agg [.sc (.int .i64 a),.sc (.int .i64 b),.sc (.int .i64 c),.sc (.int .i64 e),.sc (.int .i64 p),.sc (.int .i64 f),.sc (.int .i64 g)],.agg [.sc (.int .i64 com),.sl 2 (l.map rowOb),.sl 4 bd,.sl 2 pn,.sl 3 (ps.map rowPg)]] (.sc (.int .i64 (dataE ps l))) []:=by
 refine of_tri [] [2,3,7,9,11,17] Try.func41 rfl call41 rfl (by decide) (by decide) rfl rfl Try.ntmps41 (by simp (disch:=omega) only [seval,go_sem,cnd,intV,shV,convV,strV,List.replicate,l_2,l_1];rfl) (by simp (disch:=omega) only [seval,go_sem,cnd,intV,shV,convV,strV,l_2,l_1];rfl) ?_
 ((repeat' (first|((with_reducible refine isTriD ?_);(with_reducible refine isMake ?_;with_reducible refine TriD.makeMap (by simp only [seval,go_sem]) (by simp only [seval,go_sem];rfl) (by simp only [seval,go_sem];rfl) (by simp only [seval,go_sem];rfl) (by simp only [seval,go_sem];rfl) (by simp only [seval,go_sem];done) (by simp only [seval,go_sem];rfl) ?_;refine LVs (st:=[]) ?_))|(with_reducible (refine TVq (st:=[]) ?_))|simp only [seval,go_sem]))<;>(try (fail)))
 all_goals (with_reducible refine Tri.loopU (fun (k:Nat)=>[(21,.sc (.int .i64 k)),(7,.any),(22,.any),(23,.any),(24,.any),(25,.any),(26,.any),(27,.any),(28,.any),(29,.any),(30,.any),(31,.any)]) (fun (k:Nat)=>[(17,.ext (mapX (.int .i64) (mapI (szM (ps.take k))))),(7,.dead)]) (fun (k:Nat)=>k≤ps.length) (fun (k:Nat)=>ps.length-k) (0) (Nat.zero_le _) (by intro _;simp (disch:=omega) only [seval,go_sem,cnd,intV,shV,convV,strV];rfl) (by intro _;simp (disch:=omega) only [seval,go_sem,cnd,intV,shV,convV,strV];rfl) (by (refine leQL_spec ?_);(try simp only [seval,go_sem,szM,mapI,List.take_zero,l_4]);done) (by (refine leQH_spec ?_);(try simp only [seval,go_sem,szM,mapI,List.take_zero,l_4]);done) (fun k hI=>?_))
 by_cases hlt:k<ps.length
 ·obtain ⟨q,hq⟩:=get_lt hlt
  have hq':=get_map rowPg hq
  have hset:=szM_set ha hq
  have hms:mSet (.int .i64 q.num) (.sc (.int .i64 (q.data.length:Int))) (mapI (szM (ps.take k)))=mapI (szM (ps.take (k+1))):=by rw [mSet_I,hset]
  (all_goals (try have hZ:=(And.intro hq' hms));(repeat' (first|((with_reducible refine isTriD ?_);(with_reducible refine isMapUpdate ?_;with_reducible refine TriD.mapUpdate (by simp only [seval,go_sem,rowPg,List.length_map,hZ]) (by simp only [seval,go_sem,rowPg,List.length_map,hZ];rfl) (by simp only [seval,go_sem,rowPg,List.length_map,hZ];rfl) (by simp only [seval,go_sem,rowPg,List.length_map,hZ];rfl) (by simp only [seval,go_sem,rowPg,List.length_map,hZ];rfl) (by simp only [seval,go_sem,rowPg,List.length_map,hZ];rfl) (by simp only [seval,go_sem,rowPg,List.length_map,hZ];rfl) (by simp only [seval,go_sem,rowPg,List.length_map,hZ];rfl) (by simp only [seval,go_sem,rowPg,List.length_map,hZ];done) (by simp only [seval,go_sem,rowPg,List.length_map,hZ];rfl) (by simp only [seval,go_sem,rowPg,List.length_map,hZ];done) (by simp only [seval,go_sem,rowPg,List.length_map,hZ];rfl) ?_;refine LVs (st:=[]) ?_))|(with_reducible (refine TVq (st:=[]) ?_))|simp only [seval,go_sem,rowPg,List.length_map,hZ]|(with_reducible refine oV_st (by simp (disch:=omega) only [seval,go_sem,cnd,intV,shV,convV,strV,rowPg,List.length_map,hZ];rfl) ?_)))<;>(try (fail));all_goals (try clear hZ))
  all_goals (try (refine isNextM (k+1) (by (refine leQL_spec ?_);(try simp only [seval,go_sem]);first|((repeat' (with_reducible apply And.intro))<;>first|rfl);done) (by (refine leQH_spec ?_);(try simp only [seval,go_sem]);done) ?_ ?_<;>(try (omega))))
  all_goals (try omega)
 ·have htk:ps.take k=ps:=List.take_of_length_le (by omega)
  rw [htk]
  ((repeat' (first|(with_reducible (refine TVq (st:=[]) ?_))|simp only [seval,go_sem]|(with_reducible refine oV_st (by simp (disch:=omega) only [seval,go_sem,cnd,intV,shV,convV,strV];rfl) ?_)))<;>(try (fail)))
  all_goals (with_reducible refine Tri.loopU (fun (i:Nat)=>[(35,.sc (.int .i64 i)),(4,.any),(9,.any),(11,.any),(12,.any),(14,.any),(15,.any),(16,.any),(36,.any),(37,.any),(38,.any),(39,.any),(40,.any),(41,.any),(42,.any),(43,.any),(44,.any),(45,.any),(46,.any),(47,.any),(48,.any),(49,.any),(50,.any),(51,.any),(52,.any),(53,.any),(54,.any),(55,.any),(56,.any),(57,.any),(58,.any),(59,.any),(60,.any),(61,.any),(62,.any),(63,.any),(64,.any),(65,.any),(66,.any),(67,.any),(68,.any),(69,.any),(70,.any)]) (fun (i:Nat)=>[(9,.dead),(11,.dead)]) (fun (i:Nat)=>i≤l.length∧dataE ps (l.drop i)=dataE ps l) (fun (i:Nat)=>l.length-i) (0) (⟨Nat.zero_le _,rfl⟩) (by intro _;simp (disch:=omega) only [seval,go_sem,cnd,intV,shV,convV,strV];rfl) (by intro _;simp (disch:=omega) only [seval,go_sem,cnd,intV,shV,convV,strV];rfl) (by (refine leQL_spec ?_);(try simp only [seval,go_sem]);done) (by (refine leQH_spec ?_);(try simp only [seval,go_sem]);done) (fun i hI=>?_))
  all_goals
   obtain ⟨hi,hf⟩:=hI
   by_cases hlt2:i<l.length
   ·obtain ⟨o,ho⟩:=get_lt hlt2
    have ho':=get_map rowOb ho
    obtain ⟨hvl,hvs⟩:=hv o (List.mem_of_getElem? ho)
    obtain ⟨g1,g2⟩:=dataE_step ho hf
    ((repeat' (first|(with_reducible (refine TVq (st:=[]) ?_))|simp only [seval,go_sem,ho',rowOb]|(with_reducible refine oV_st (by simp (disch:=omega) only [seval,go_sem,cnd,intV,shV,convV,strV,ho',rowOb];rfl) ?_)))<;>(try (fail)))
    all_goals (with_reducible refine Tri.loopU (fun (j:Nat)=>[(42,.sc (.int .i64 j)),(4,.any),(11,.any),(12,.any),(14,.any),(15,.any),(16,.any),(43,.any),(44,.any),(45,.any),(46,.any),(47,.any),(48,.any),(49,.any),(50,.any),(51,.any),(52,.any),(53,.any),(54,.any),(55,.any),(56,.any),(57,.any),(58,.any),(59,.any),(60,.any),(61,.any),(62,.any),(63,.any),(64,.any),(65,.any),(66,.any),(67,.any),(68,.any),(69,.any)]) (fun (j:Nat)=>[(11,.dead)]) (fun (j:Nat)=>j≤o.vers.length∧versD ps (o.vers.drop j)=versD ps o.vers) (fun (j:Nat)=>o.vers.length-j) (0) (⟨Nat.zero_le _,rfl⟩) (by intro _;simp (disch:=omega) only [seval,go_sem,cnd,intV,shV,convV,strV];rfl) (by intro _;simp (disch:=omega) only [seval,go_sem,cnd,intV,shV,convV,strV];rfl) (by (refine leQL_spec ?_);(try simp only [seval,go_sem]);done) (by (refine leQH_spec ?_);(try simp only [seval,go_sem]);done) (fun j hI=>?_))
    all_goals
     obtain ⟨hj,hf2⟩:=hI
     by_cases hlt3:j<o.vers.length
     ·obtain ⟨v,hvj⟩:=get_lt hlt3
      have hvj':=get_map rowV hvj
      obtain ⟨r4,r5⟩:=hvs v (List.mem_of_getElem? hvj)
      obtain ⟨h1,h2⟩:=versD_step hvj hf2
      ((repeat' (first|(with_reducible (refine TVq (st:=[]) ?_))|simp only [seval,go_sem,hvj',rowV]|(with_reducible refine oV_st (by simp (disch:=omega) only [seval,go_sem,cnd,intV,shV,convV,strV,hvj',rowV];rfl) ?_)))<;>(try (fail)))
      all_goals (with_reducible refine Tri.loopU (fun (t:Nat×Int)=>[(49,.sc (.int .i64 t.1)),(12,.sc (.int .i64 t.2)),(4,.any),(14,.any),(15,.any),(16,.any),(50,.any),(51,.any),(52,.any),(53,.any),(54,.any),(55,.any),(56,.any),(57,.any),(58,.any),(59,.any),(60,.any),(61,.any),(62,.any),(63,.any),(64,.any)]) (fun (t:Nat×Int)=>[]) (fun (t:Nat×Int)=>t.1≤v.pages.length∧sumE ps v.size (v.pages.drop t.1) t.2=sumE ps v.size v.pages 0) (fun (t:Nat×Int)=>v.pages.length-t.1) ((0,0)) (⟨Nat.zero_le _,rfl⟩) (by intro _;simp (disch:=omega) only [seval,go_sem,cnd,intV,shV,convV,strV];rfl) (by intro _;simp (disch:=omega) only [seval,go_sem,cnd,intV,shV,convV,strV];rfl) (by (refine leQL_spec ?_);(try simp only [seval,go_sem]);done) (by (refine leQH_spec ?_);(try simp only [seval,go_sem]);done) (fun t hI=>?_))
      all_goals
       obtain ⟨m,s⟩:=t
       obtain ⟨hm,hf3⟩:=hI
       simp only at hm hf3
       by_cases hlt4:m<v.pages.length
       ·obtain ⟨n,hn⟩:=get_lt hlt4
        have hn':=get_map rowI hn
        have hfi:=szI_find ps n
        rw [drop_get hn,sumE] at hf3
        cases hp:pgLen ps n with
        | none=>
          rw [hp] at hfi hf3
          simp only [Option.map_none] at hfi
          simp only at hf3
          have h3:=h1 (by rw [← hf3];decide)
          rw [g1 (by rw [h3, ← hf3];decide),h3, ← hf3]
          (all_goals (try have hZ:=(And.intro hn' hfi));(repeat' (first|((with_reducible refine isTriD ?_);(with_reducible refine isLookup ?_;with_reducible refine TriD.lookup (by simp only [seval,go_sem,rowI,hZ]) (by simp only [seval,go_sem,rowI,hZ];rfl) (by simp only [seval,go_sem,rowI,hZ];rfl) (by simp only [seval,go_sem,rowI,hZ];rfl) (by simp only [seval,go_sem,rowI,hZ];rfl) (by simp only [seval,go_sem,rowI,hZ];rfl) (by simp only [seval,go_sem,rowI,hZ];rfl) (by simp only [seval,go_sem,rowI,hZ];rfl) (by simp only [seval,go_sem,rowI,hZ];rfl) (by simp only [seval,go_sem,rowI,hZ];done) (by simp only [seval,go_sem,rowI,hZ];rfl) (by simp only [seval,go_sem,rowI,hZ];rfl) ?_;refine LVs (st:=[]) ?_))|(with_reducible refine isRet ?_;refine RetV (rs:=[.tmp 4]) (by with_unfolding_all rfl) rfl ?_<;>simp only [seval,go_sem]<;>(repeat' (with_reducible apply And.intro))<;>(try rfl))|(with_reducible (refine TVq (st:=[]) ?_))|simp only [seval,go_sem,rowI,hZ]|(with_reducible refine oV_st (by simp (disch:=omega) only [seval,go_sem,cnd,intV,shV,convV,strV,rowI,hZ];rfl) ?_)))<;>(try (fail));all_goals (try clear hZ))
        | some z=>
          rw [hp] at hfi hf3
          simp only [Option.map_some] at hfi
          simp only at hf3
          (all_goals (try have hZ:=(And.intro hn' hfi));(repeat' (first|((with_reducible refine isTriD ?_);(with_reducible refine isLookup ?_;with_reducible refine TriD.lookup (by simp only [seval,go_sem,rowI,wr_def,hZ]) (by simp only [seval,go_sem,rowI,wr_def,hZ];rfl) (by simp only [seval,go_sem,rowI,wr_def,hZ];rfl) (by simp only [seval,go_sem,rowI,wr_def,hZ];rfl) (by simp only [seval,go_sem,rowI,wr_def,hZ];rfl) (by simp only [seval,go_sem,rowI,wr_def,hZ];rfl) (by simp only [seval,go_sem,rowI,wr_def,hZ];rfl) (by simp only [seval,go_sem,rowI,wr_def,hZ];rfl) (by simp only [seval,go_sem,rowI,wr_def,hZ];rfl) (by simp only [seval,go_sem,rowI,wr_def,hZ];done) (by simp only [seval,go_sem,rowI,wr_def,hZ];rfl) (by simp only [seval,go_sem,rowI,wr_def,hZ];rfl) ?_;refine LVs (st:=[]) ?_))|(with_reducible (refine TVq (st:=[]) ?_))|simp only [seval,go_sem,rowI,wr_def,hZ]|(with_reducible refine oV_st (by simp (disch:=omega) only [seval,go_sem,cnd,intV,shV,convV,strV,rowI,wr_def,hZ];rfl) ?_)))<;>(try (fail));all_goals (try clear hZ))
          all_goals (try (refine isNextM ((m+1,wr (s+z))) (by (refine leQL_spec ?_);(try simp only [seval,go_sem]);first|((repeat' (with_reducible apply And.intro))<;>first|rfl);done) (by (refine leQH_spec ?_);(try simp only [seval,go_sem]);done) ?_ ?_<;>(try (first|omega|(simp;omega)))))
          all_goals (try exact ⟨by simp only;omega,hf3⟩)
       ·rw [List.drop_eq_nil_of_le (by omega),sumE] at hf3
        by_cases hs:s=v.size
        ·rw [if_neg (by simp [hs])] at hf3
         have h3:=h2 hf3.symm
         ((repeat' (first|(with_reducible (refine TVq (st:=[]) ?_))|simp only [seval,go_sem]|(with_reducible refine oV_st (by simp (disch:=omega) only [seval,go_sem,cnd,intV,shV,convV,strV];rfl) ?_)))<;>(try (fail)))
         all_goals (try (refine isNextM (j+1) (by (refine leQL_spec ?_);(try simp only [seval,go_sem]);first|((repeat' (with_reducible apply And.intro))<;>first|rfl);done) (by (refine leQH_spec ?_);(try simp only [seval,go_sem]);done) ?_ ?_<;>(try (omega))))
         all_goals (try exact ⟨by omega,h3⟩)
        ·rw [if_pos hs] at hf3
         have h3:=h1 (by rw [← hf3];decide)
         rw [g1 (by rw [h3, ← hf3];decide),h3, ← hf3]
         ((repeat' (first|(with_reducible refine isRet ?_;refine RetV (rs:=[.tmp 4]) (by with_unfolding_all rfl) rfl ?_<;>simp only [seval,go_sem]<;>(repeat' (with_reducible apply And.intro))<;>(try rfl))|(with_reducible (refine TVq (st:=[]) ?_))|simp only [seval,go_sem]|(with_reducible refine oV_st (by simp (disch:=omega) only [seval,go_sem,cnd,intV,shV,convV,strV];rfl) ?_)))<;>(try (fail)))
     ·rw [List.drop_eq_nil_of_le (by omega),versD] at hf2
      have h3:=g2 hf2.symm
      ((repeat' (first|(with_reducible (refine TVq (st:=[]) ?_))|simp only [seval,go_sem]|(with_reducible refine oV_st (by simp (disch:=omega) only [seval,go_sem,cnd,intV,shV,convV,strV];rfl) ?_)))<;>(try (fail)))
      all_goals (try (refine isNextM (i+1) (by (refine leQL_spec ?_);(try simp only [seval,go_sem]);first|((repeat' (with_reducible apply And.intro))<;>first|rfl);done) (by (refine leQH_spec ?_);(try simp only [seval,go_sem]);done) ?_ ?_<;>(try (omega))))
      all_goals (try exact ⟨by omega,h3⟩)
   ·rw [List.drop_eq_nil_of_le (by omega),dataE] at hf
    rw [← hf]
    ((repeat' (first|(with_reducible refine isRet ?_;refine RetV (rs:=[.tmp 4]) (by with_unfolding_all rfl) rfl ?_<;>simp only [seval,go_sem]<;>(repeat' (with_reducible apply And.intro))<;>(try rfl))|(with_reducible (refine TVq (st:=[]) ?_))|simp only [seval,go_sem]|(with_reducible refine oV_st (by simp (disch:=omega) only [seval,go_sem,cnd,intV,shV,convV,strV];rfl) ?_)))<;>(try (fail)))
set_option maxRecDepth 100000 in set_option maxHeartbeats 3200000 in
theorem current_calls {id:Int} {vs:List Ver} (hl:vs.length≤1000) (h0:vs.length≠0):ACalls Try.prog 80 [.agg [.sc (.int .i64 id), .sl 4 (vs.map rowV)]] (.sc (.bool (curO ⟨id,vs⟩))) []:=by
 obtain ⟨v,hv⟩:=get_lt (show vs.length-1<vs.length by omega)
 have hv':=get_map rowV hv
 have e:curO ⟨id,vs⟩=(v.to==0):=by simp [curO,hv]
 rw [e]
 refine of_tri [] [1] Try.func80 rfl call80 rfl (by decide) (by decide) rfl rfl Try.ntmps80 (by simp (disch:=omega) only [seval,go_sem,cnd,intV,shV,convV,strV,List.replicate,l_2,l_1];rfl) (by simp (disch:=omega) only [seval,go_sem,cnd,intV,shV,convV,strV,l_2,l_1];rfl) ?_
 ((repeat' (first|(with_reducible refine isRet ?_;refine RetV (rs:=[.tmp 2]) (by with_unfolding_all rfl) rfl ?_<;>simp only [seval,go_sem]<;>(repeat' (with_reducible apply And.intro))<;>(try rfl))|(with_reducible (refine TVq (st:=[]) ?_))|simp only [seval,go_sem,hv',rowV]|(with_reducible refine oV_st (by simp (disch:=omega) only [seval,go_sem,cnd,intV,shV,convV,strV,hv',rowV];rfl) ?_)))<;>(try (fail)))
theorem nmGo_step {l:List Ob} {k:Nat} {o:Ob} {m:List (Int×Int)} (ho:l[k]? = some o):nmGo (l.drop k) m=if curO o=true then (if aGet o.id m=1 then nmGo (l.drop (k+1)) (aDel o.id m) else false) else nmGo (l.drop (k+1)) m:=by
 rw [drop_get ho,nmGo]
theorem bump_I {m:List (Int×Int)} {n v:Int} (h:aFind n m=some v):mSet (.int .i64 n) (.sc (.int .i64 (wr (v+1)))) (mapI m)=mapI (bump m n):=by rw [mSet_I,bump,aGet,h];rfl
theorem bump_0 {m:List (Int×Int)} {n:Int} (h:aFind n m=none):mSet (.int .i64 n) (.sc (.int .i64 1)) (mapI m)=mapI (bump m n):=by rw [mSet_I,bump,aGet,h];rfl
theorem find_I {m:List (Int×Int)} {n v:Int} (h:aFind n m=some v):mFind (.int .i64 n) (mapI m)=some (.sc (.int .i64 v)):=by rw [mFind_I,h];rfl
theorem find_0 {m:List (Int×Int)} {n:Int} (h:aFind n m=none):mFind (.int .i64 n) (mapI m)=none:=by rw [mFind_I,h];rfl
theorem opens_step {l:List Bd} {k:Nat} {b:Bd} {m M:List (Int×Int)} (hb:l[k]? = some b) (hf:(opens (l.drop k)).foldl bump m=M):(b.to=0→(opens (l.drop (k+1))).foldl bump (bump m b.obj)=M)∧(b.to≠0→(opens (l.drop (k+1))).foldl bump m=M):=by
 rw [drop_get hb] at hf
 constructor
 ·intro h
  have e:opens (b::l.drop (k+1))=b.obj::opens (l.drop (k+1)):=by simp [opens,h]
  rw [e] at hf;exact hf
 ·intro h
  have e:opens (b::l.drop (k+1))=opens (l.drop (k+1)):=by simp [opens,h]
  rw [e] at hf;exact hf
set_option maxRecDepth 100000 in set_option maxHeartbeats 12800000 in
theorem named_calls {com:Int} {l:List Ob} {bs:List Bd} {pn pg:List (List D)} (hl:l.length≤1000) (hb:bs.length≤1000) (ha:AscI (l.map (·.id))) (hv: ∀ o∈l,o.vers.length≤1000∧o.vers.length≠0):ACalls Try.prog 43 [.agg [.sc (.int .i64 com),.sl 2 (l.map rowOb),.sl 4 (bs.map rowBd),.sl 2 pn,.sl 3 pg]] (.sc (.bool (nmGo l ((opens bs).foldl bump [])))) []:=by
 generalize hM:(opens bs).foldl bump []=M
 refine of_tri [] [1,5,7,8,33] Try.func43 rfl call43 rfl (by decide) (by decide) rfl rfl Try.ntmps43 (by simp (disch:=omega) only [seval,go_sem,cnd,intV,shV,convV,strV,List.replicate,l_2,l_1];rfl) (by simp (disch:=omega) only [seval,go_sem,cnd,intV,shV,convV,strV,l_2,l_1];rfl) ?_
 ((repeat' (first|((with_reducible refine isTriD ?_);(with_reducible refine isMake ?_;with_reducible refine TriD.makeMap (by simp only [seval,go_sem]) (by simp only [seval,go_sem];rfl) (by simp only [seval,go_sem];rfl) (by simp only [seval,go_sem];rfl) (by simp only [seval,go_sem];rfl) (by simp only [seval,go_sem];done) (by simp only [seval,go_sem];rfl) ?_;refine LVs (st:=[]) ?_))|(with_reducible (refine TVq (st:=[]) ?_))|simp only [seval,go_sem]))<;>(try (fail)))
 all_goals (with_reducible refine Tri.loopU (fun (t:Nat×List (Int×Int))=>[(12,.sc (.int .i64 t.1)),(5,.any),(13,.any),(14,.any),(15,.any),(16,.any),(17,.any),(18,.any),(19,.any),(20,.any),(21,.any),(22,.any),(23,.any),(24,.any)]) (fun (t:Nat×List (Int×Int))=>[(8,.ext (mapX (.int .i64) (mapI t.2))),(5,.dead)]) (fun (t:Nat×List (Int×Int))=>t.1≤bs.length∧(opens (bs.drop t.1)).foldl bump t.2=M) (fun (t:Nat×List (Int×Int))=>bs.length-t.1) ((0,[])) (⟨Nat.zero_le _,by simpa using hM⟩) (by intro _;simp (disch:=omega) only [seval,go_sem,cnd,intV,shV,convV,strV];rfl) (by intro _;simp (disch:=omega) only [seval,go_sem,cnd,intV,shV,convV,strV];rfl) (by (refine leQL_spec ?_);(try simp only [seval,go_sem,mapI,l_4]);done) (by (refine leQH_spec ?_);(try simp only [seval,go_sem,mapI,l_4]);done) (fun t hI=>?_))
 all_goals
  obtain ⟨k,m⟩:=t
  obtain ⟨hk,hf⟩:=hI
  simp only at hk hf
  by_cases hlt:k<bs.length
  ·obtain ⟨x,hx⟩:=get_lt hlt
   have hx':=get_map rowBd hx
   obtain ⟨g1,g2⟩:=opens_step hx hf
   by_cases hc1:x.to=0
   ·have g3:=g1 hc1
    cases hq:aFind x.obj m with
    | none=>
      have hg:=find_0 hq
      have hs:=bump_0 hq
      (all_goals (try have hZ:=(And.intro hx' (And.intro hc1 (And.intro hg hs))));(repeat' (first|((with_reducible refine isTriD ?_);first|(with_reducible refine isLookup ?_;with_reducible refine TriD.lookup (by simp only [seval,go_sem,rowBd,hZ]) (by simp only [seval,go_sem,rowBd,hZ];rfl) (by simp only [seval,go_sem,rowBd,hZ];rfl) (by simp only [seval,go_sem,rowBd,hZ];rfl) (by simp only [seval,go_sem,rowBd,hZ];rfl) (by simp only [seval,go_sem,rowBd,hZ];rfl) (by simp only [seval,go_sem,rowBd,hZ];rfl) (by simp only [seval,go_sem,rowBd,hZ];rfl) (by simp only [seval,go_sem,rowBd,hZ];rfl) (by simp only [seval,go_sem,rowBd,hZ];done) (by simp only [seval,go_sem,rowBd,hZ];rfl) (by simp only [seval,go_sem,rowBd,hZ];rfl) ?_;refine LVs (st:=[]) ?_)|(with_reducible refine isMapUpdate ?_;with_reducible refine TriD.mapUpdate (by simp only [seval,go_sem,rowBd,hZ]) (by simp only [seval,go_sem,rowBd,hZ];rfl) (by simp only [seval,go_sem,rowBd,hZ];rfl) (by simp only [seval,go_sem,rowBd,hZ];rfl) (by simp only [seval,go_sem,rowBd,hZ];rfl) (by simp only [seval,go_sem,rowBd,hZ];rfl) (by simp only [seval,go_sem,rowBd,hZ];rfl) (by simp only [seval,go_sem,rowBd,hZ];rfl) (by simp only [seval,go_sem,rowBd,hZ];done) (by simp only [seval,go_sem,rowBd,hZ];rfl) (by simp only [seval,go_sem,rowBd,hZ];done) (by simp only [seval,go_sem,rowBd,hZ];rfl) ?_;refine LVs (st:=[]) ?_))|(with_reducible (refine TVq (st:=[]) ?_))|simp only [seval,go_sem,rowBd,hZ]|(with_reducible refine oV_st (by simp (disch:=omega) only [seval,go_sem,cnd,intV,shV,convV,strV,rowBd,hZ];rfl) ?_)))<;>(try (fail));all_goals (try clear hZ))
      all_goals (try (refine isNextM ((k+1,bump m x.obj)) (by (refine leQL_spec ?_);(try simp only [seval,go_sem]);first|((repeat' (with_reducible apply And.intro))<;>first|rfl);done) (by (refine leQH_spec ?_);(try simp only [seval,go_sem]);done) ?_ ?_<;>(try (omega))))
      all_goals (try exact ⟨by simp only;omega,g3⟩)
    | some v=>
      have hg:=find_I hq
      have hs:=bump_I hq
      (all_goals (try have hZ:=(And.intro hx' (And.intro hc1 (And.intro hg hs))));(repeat' (first|((with_reducible refine isTriD ?_);first|(with_reducible refine isLookup ?_;with_reducible refine TriD.lookup (by simp only [seval,go_sem,rowBd,wr_def,hZ]) (by simp only [seval,go_sem,rowBd,wr_def,hZ];rfl) (by simp only [seval,go_sem,rowBd,wr_def,hZ];rfl) (by simp only [seval,go_sem,rowBd,wr_def,hZ];rfl) (by simp only [seval,go_sem,rowBd,wr_def,hZ];rfl) (by simp only [seval,go_sem,rowBd,wr_def,hZ];rfl) (by simp only [seval,go_sem,rowBd,wr_def,hZ];rfl) (by simp only [seval,go_sem,rowBd,wr_def,hZ];rfl) (by simp only [seval,go_sem,rowBd,wr_def,hZ];rfl) (by simp only [seval,go_sem,rowBd,wr_def,hZ];done) (by simp only [seval,go_sem,rowBd,wr_def,hZ];rfl) (by simp only [seval,go_sem,rowBd,wr_def,hZ];rfl) ?_;refine LVs (st:=[]) ?_)|(with_reducible refine isMapUpdate ?_;with_reducible refine TriD.mapUpdate (by simp only [seval,go_sem,rowBd,wr_def,hZ]) (by simp only [seval,go_sem,rowBd,wr_def,hZ];rfl) (by simp only [seval,go_sem,rowBd,wr_def,hZ];rfl) (by simp only [seval,go_sem,rowBd,wr_def,hZ];rfl) (by simp only [seval,go_sem,rowBd,wr_def,hZ];rfl) (by simp only [seval,go_sem,rowBd,wr_def,hZ];rfl) (by simp only [seval,go_sem,rowBd,wr_def,hZ];rfl) (by simp only [seval,go_sem,rowBd,wr_def,hZ];rfl) (by simp only [seval,go_sem,rowBd,wr_def,hZ];done) (by simp only [seval,go_sem,rowBd,wr_def,hZ];rfl) (by simp only [seval,go_sem,rowBd,wr_def,hZ];done) (by simp only [seval,go_sem,rowBd,wr_def,hZ];rfl) ?_;refine LVs (st:=[]) ?_))|(with_reducible (refine TVq (st:=[]) ?_))|simp only [seval,go_sem,rowBd,wr_def,hZ]|(with_reducible refine oV_st (by simp (disch:=omega) only [seval,go_sem,cnd,intV,shV,convV,strV,rowBd,wr_def,hZ];rfl) ?_)))<;>(try (fail));all_goals (try clear hZ))
      all_goals (try (refine isNextM ((k+1,bump m x.obj)) (by (refine leQL_spec ?_);(try simp only [seval,go_sem]);first|((repeat' (with_reducible apply And.intro))<;>first|rfl);done) (by (refine leQH_spec ?_);(try simp only [seval,go_sem]);done) ?_ ?_<;>(try (omega))))
      all_goals (try exact ⟨by simp only;omega,g3⟩)
   ·have g3:=g2 hc1
    ((repeat' (first|(with_reducible (refine TVq (st:=[]) ?_))|simp only [seval,go_sem,hx',rowBd]|(with_reducible refine oV_st (by simp (disch:=omega) only [seval,go_sem,cnd,intV,shV,convV,strV,hx',rowBd];rfl) ?_)))<;>(try (fail)))
    all_goals (try (refine isNextM ((k+1,m)) (by (refine leQL_spec ?_);(try simp only [seval,go_sem]);first|((repeat' (with_reducible apply And.intro))<;>first|rfl);done) (by (refine leQH_spec ?_);(try simp only [seval,go_sem]);done) ?_ ?_<;>(try (omega))))
    all_goals (try exact ⟨by simp only;omega,g3⟩)
  ·rw [List.drop_eq_nil_of_le (by omega)] at hf
   have hf2:m=M:=hf
   subst hf2
   ((repeat' (first|(with_reducible (refine TVq (st:=[]) ?_))|simp only [seval,go_sem]|(with_reducible refine oV_st (by simp (disch:=omega) only [seval,go_sem,cnd,intV,shV,convV,strV];rfl) ?_)))<;>(try (fail)))
   all_goals (with_reducible refine Tri.loopU (fun (t:Nat×List (Int×Int))=>[(28,.sc (.int .i64 t.1)),(2,.any),(7,.any),(29,.any),(30,.any),(31,.any),(32,.any),(33,.any),(34,.any),(35,.any),(36,.any),(37,.any),(38,.any),(39,.any),(40,.any),(41,.any),(42,.any)]) (fun (t:Nat×List (Int×Int))=>[(8,.ext (mapX (.int .i64) (mapI t.2))),(7,.dead),(33,.dead)]) (fun (t:Nat×List (Int×Int))=>t.1≤l.length∧nmGo (l.drop t.1) t.2=nmGo l m) (fun (t:Nat×List (Int×Int))=>l.length-t.1) ((0,m)) (⟨Nat.zero_le _,rfl⟩) (by intro _;simp (disch:=omega) only [seval,go_sem,cnd,intV,shV,convV,strV];rfl) (by intro _;simp (disch:=omega) only [seval,go_sem,cnd,intV,shV,convV,strV];rfl) (by (refine leQL_spec ?_);(try simp only [seval,go_sem]);done) (by (refine leQH_spec ?_);(try simp only [seval,go_sem]);done) (fun t hI=>?_))
   all_goals
    obtain ⟨i,z⟩:=t
    obtain ⟨hi,hf3⟩:=hI
    simp only at hi hf3
    by_cases hlt2:i<l.length
    ·obtain ⟨o,ho⟩:=get_lt hlt2
     have ho':=get_map rowOb ho
     obtain ⟨v1,v2⟩:=hv o (List.mem_of_getElem? ho)
     have hcur:=current_calls (id:=o.id) v1 v2
     rw [nmGo_step ho] at hf3
     have hdl:=mDel_I o.id z
     have eo:(⟨o.id,o.vers⟩:Ob)=o:=rfl
     rw [eo] at hcur
     cases hc:curO o with
     | false=>
       rw [hc] at hcur
       rw [hc,if_neg (by decide)] at hf3
       ((repeat' (first|((with_reducible refine isTriD ?_);((with_reducible refine isCallD ?_);((with_reducible refine LVcall (st:=[]) ?_);simp only [seval,go_sem,ho',rowOb];(refine CallL.c (hcur) ?_))))|(with_reducible (refine TVq (st:=[]) ?_))|simp only [seval,go_sem,ho',rowOb]|(with_reducible refine oV_st (by simp (disch:=omega) only [seval,go_sem,cnd,intV,shV,convV,strV,ho',rowOb];rfl) ?_)))<;>(try (fail)))
       all_goals (try (refine isNextM ((i+1,z)) (by (refine leQL_spec ?_);(try simp only [seval,go_sem]);first|((repeat' (with_reducible apply And.intro))<;>first|rfl);done) (by (refine leQH_spec ?_);(try simp only [seval,go_sem]);done) ?_ ?_<;>(try (omega))))
       all_goals (try exact ⟨by simp only;omega,hf3⟩)
     | true=>
       rw [hc] at hcur
       rw [hc,if_pos rfl] at hf3
       by_cases h1:aGet o.id z=1
       ·rw [if_pos h1] at hf3
        have hg:mFind (.int .i64 o.id) (mapI z)=some (.sc (.int .i64 1)):=by
         cases hq:aFind o.id z with
         | none=>rw [aGet,hq] at h1;cases h1
         | some v=>rw [aGet,hq] at h1;rw [find_I hq,show v=1 from h1]
        (all_goals (try have hZ:=(And.intro ho' (And.intro hg hdl)));(repeat' (first|((with_reducible refine isTriD ?_);first|((with_reducible refine isCallD ?_);((with_reducible refine LVcall (st:=[]) ?_);simp only [seval,go_sem,rowOb,hZ];(refine CallL.c (hcur) ?_)))|(with_reducible refine isLookup ?_;with_reducible refine TriD.lookup (by simp only [seval,go_sem,rowOb,hZ]) (by simp only [seval,go_sem,rowOb,hZ];rfl) (by simp only [seval,go_sem,rowOb,hZ];rfl) (by simp only [seval,go_sem,rowOb,hZ];rfl) (by simp only [seval,go_sem,rowOb,hZ];rfl) (by simp only [seval,go_sem,rowOb,hZ];rfl) (by simp only [seval,go_sem,rowOb,hZ];rfl) (by simp only [seval,go_sem,rowOb,hZ];rfl) (by simp only [seval,go_sem,rowOb,hZ];rfl) (by simp only [seval,go_sem,rowOb,hZ];done) (by simp only [seval,go_sem,rowOb,hZ];rfl) (by simp only [seval,go_sem,rowOb,hZ];rfl) ?_;refine LVs (st:=[]) ?_)|(with_reducible refine isDelete ?_;with_reducible refine TriD.mapDelete (by simp only [seval,go_sem,rowOb,hZ]) (by simp only [seval,go_sem,rowOb,hZ];rfl) (by simp only [seval,go_sem,rowOb,hZ];rfl) (by simp only [seval,go_sem,rowOb,hZ];rfl) (by simp only [seval,go_sem,rowOb,hZ];rfl) (by simp only [seval,go_sem,rowOb,hZ];rfl) (by simp only [seval,go_sem,rowOb,hZ];rfl) (by simp only [seval,go_sem,rowOb,hZ];rfl) (by simp only [seval,go_sem,rowOb,hZ];done) (by simp only [seval,go_sem,rowOb,hZ];rfl) ?_;refine LVs (st:=[]) ?_))|(with_reducible (refine TVq (st:=[]) ?_))|simp only [seval,go_sem,rowOb,hZ]|(with_reducible refine oV_st (by simp (disch:=omega) only [seval,go_sem,cnd,intV,shV,convV,strV,rowOb,hZ];rfl) ?_)))<;>(try (fail));all_goals (try clear hZ))
        all_goals (try (refine isNextM ((i+1,aDel o.id z)) (by (refine leQL_spec ?_);(try simp only [seval,go_sem]);first|((repeat' (with_reducible apply And.intro))<;>first|rfl);done) (by (refine leQH_spec ?_);(try simp only [seval,go_sem]);done) ?_ ?_<;>(try (omega))))
        all_goals (try exact ⟨by simp only;omega,hf3⟩)
       ·rw [if_neg h1] at hf3
        rw [← hf3]
        cases hq:aFind o.id z with
        | none=>
          have hg:=find_0 hq
          (all_goals (try have hZ:=(And.intro ho' hg));(repeat' (first|((with_reducible refine isTriD ?_);first|((with_reducible refine isCallD ?_);((with_reducible refine LVcall (st:=[]) ?_);simp only [seval,go_sem,rowOb,hZ];(refine CallL.c (hcur) ?_)))|(with_reducible refine isLookup ?_;with_reducible refine TriD.lookup (by simp only [seval,go_sem,rowOb,hZ]) (by simp only [seval,go_sem,rowOb,hZ];rfl) (by simp only [seval,go_sem,rowOb,hZ];rfl) (by simp only [seval,go_sem,rowOb,hZ];rfl) (by simp only [seval,go_sem,rowOb,hZ];rfl) (by simp only [seval,go_sem,rowOb,hZ];rfl) (by simp only [seval,go_sem,rowOb,hZ];rfl) (by simp only [seval,go_sem,rowOb,hZ];rfl) (by simp only [seval,go_sem,rowOb,hZ];rfl) (by simp only [seval,go_sem,rowOb,hZ];done) (by simp only [seval,go_sem,rowOb,hZ];rfl) (by simp only [seval,go_sem,rowOb,hZ];rfl) ?_;refine LVs (st:=[]) ?_))|(with_reducible refine isRet ?_;refine RetV (rs:=[.tmp 2]) (by with_unfolding_all rfl) rfl ?_<;>simp only [seval,go_sem]<;>(repeat' (with_reducible apply And.intro))<;>(try rfl))|(with_reducible (refine TVq (st:=[]) ?_))|simp only [seval,go_sem,rowOb,hZ]|(with_reducible refine oV_st (by simp (disch:=omega) only [seval,go_sem,cnd,intV,shV,convV,strV,rowOb,hZ];rfl) ?_)))<;>(try (fail));all_goals (try clear hZ))
        | some v=>
          have hg:=find_I hq
          have hv1: ¬ v=1:=fun e=>h1 (by rw [aGet,hq];exact e)
          (all_goals (try have hZ:=(And.intro ho' hg));(repeat' (first|((with_reducible refine isTriD ?_);first|((with_reducible refine isCallD ?_);((with_reducible refine LVcall (st:=[]) ?_);simp only [seval,go_sem,rowOb,hZ];(refine CallL.c (hcur) ?_)))|(with_reducible refine isLookup ?_;with_reducible refine TriD.lookup (by simp only [seval,go_sem,rowOb,hZ]) (by simp only [seval,go_sem,rowOb,hZ];rfl) (by simp only [seval,go_sem,rowOb,hZ];rfl) (by simp only [seval,go_sem,rowOb,hZ];rfl) (by simp only [seval,go_sem,rowOb,hZ];rfl) (by simp only [seval,go_sem,rowOb,hZ];rfl) (by simp only [seval,go_sem,rowOb,hZ];rfl) (by simp only [seval,go_sem,rowOb,hZ];rfl) (by simp only [seval,go_sem,rowOb,hZ];rfl) (by simp only [seval,go_sem,rowOb,hZ];done) (by simp only [seval,go_sem,rowOb,hZ];rfl) (by simp only [seval,go_sem,rowOb,hZ];rfl) ?_;refine LVs (st:=[]) ?_))|(with_reducible refine isRet ?_;refine RetV (rs:=[.tmp 2]) (by with_unfolding_all rfl) rfl ?_<;>simp only [seval,go_sem]<;>(repeat' (with_reducible apply And.intro))<;>(try rfl))|(with_reducible (refine TVq (st:=[]) ?_))|simp only [seval,go_sem,rowOb,hZ]|(with_reducible refine oV_st (by simp (disch:=omega) only [seval,go_sem,cnd,intV,shV,convV,strV,rowOb,hZ];rfl) ?_)))<;>(try (fail));all_goals (try clear hZ))
    ·rw [List.drop_eq_nil_of_le (by omega),nmGo] at hf3
     rw [← hf3]
     have hln:=mapI_len z
     ((repeat' (first|((with_reducible refine isTriD ?_);(with_reducible refine isLen ?_;with_reducible refine TriD.mapLen (by simp only [seval,go_sem,hln]) (by simp only [seval,go_sem,hln];rfl) (by simp only [seval,go_sem,hln];rfl) (by simp only [seval,go_sem,hln];rfl) (by simp only [seval,go_sem,hln];rfl) (by simp only [seval,go_sem,hln];rfl) ?_;refine LVs (st:=[]) ?_))|(with_reducible refine isRet ?_;refine RetV (rs:=[.tmp 2]) (by with_unfolding_all rfl) rfl ?_<;>simp only [seval,go_sem]<;>(repeat' (with_reducible apply And.intro))<;>(try rfl))|(with_reducible (refine TVq (st:=[]) ?_))|simp only [seval,go_sem,hln]|(with_reducible refine oV_st (by simp (disch:=omega) only [seval,go_sem,cnd,intV,shV,convV,strV,hln];rfl) ?_)))<;>(try (fail)))
     all_goals (simp [Bool.eq_iff_iff])
theorem holds_split (f t c:Int):(c<f∧holdsB f t c=false)∨(¬ c<f∧t≠0∧t≤c∧holdsB f t c=false)∨(¬ c<f∧t=0∧holdsB f t c=true)∨(¬ c<f∧t≠0∧ ¬ t≤c∧holdsB f t c=true):=by
 unfold holdsB
 by_cases h1:c<f
 ·exact .inl ⟨h1,by rw [decide_eq_false (by omega)];rfl⟩
 ·rw [decide_eq_true (show f≤c by omega),Bool.true_and]
  by_cases h2:t=0
  ·exact .inr (.inr (.inl ⟨h1,h2,by simp [h2]⟩))
  ·by_cases h3:t≤c
   ·exact .inr (.inl ⟨h1,h2,h3,by simp [h2];omega⟩)
   ·exact .inr (.inr (.inr ⟨h1,h2,h3,by simp;omega⟩))
def keptP (os:List Ob) (bs:List Bd) (p:Pn):Bool:=bs.all fun b=> !holdsB b.frm b.to p.commit||(findN p.commit (versAt b.obj os) 0).2
theorem kept_eq (d:Dm):(d.pins.all (keptP d.objs d.binds))=keptOk d:=by
 unfold keptP keptOk keptB
 exact all_swap (fun p b=> !holdsB b.frm b.to p.commit||(findN p.commit (versAt b.obj d.objs) 0).2) d.pins d.binds
theorem versAt_len {os:List Ob} (hv: ∀ o∈os,o.vers.length≤1000) (n:Int):(versAt n os).length≤1000:=by
 unfold versAt
 split
 ·simp
 ·cases h:os[(objAt n os 0).toNat]? with
  | none=>simp
  | some o=>exact hv o (List.mem_of_getElem? h)
theorem obI_some {os:List Ob} {n:Int} (h: ¬ objAt n os 0<0):mFind (.int .i64 n) (obM os)=some (.sl 4 ((versAt n os).map rowV)):=by rw [obM_find,if_neg h]
theorem obI_none {os:List Ob} {n:Int} (h:objAt n os 0<0):mFind (.int .i64 n) (obM os)=none:=by rw [obM_find,if_pos h]
/-- An empty slice by value may be nil. -/
theorem nil_calls {f:FuncId} {k:Nat} {ds:List D} {r:D} (h:ACalls Try.prog f (.sl k []::ds) r []):ACalls Try.prog f (.sc (.slice none 0 0)::ds) r []:=by
 obtain ⟨h1,h2⟩:=h
 refine ⟨h1,fun w st ρ vs hst hin hargs=>h2 w st ρ vs hst hin ?_⟩
 simp only [RL] at hargs ⊢
 obtain ⟨v,vs',e,hv,hr⟩:=hargs
 simp only [R] at hv
 exact ⟨v,vs',e,by simp only [R];exact ⟨none,0,hv,Nat.le_refl _,Nat.zero_le _, .inl trivial⟩,hr⟩
theorem findnil_calls {c:Int}:ACalls Try.prog 81 [.sc (.slice none 0 0), .sc (.int .i64 c)] (.tup [.sc (.int .i64 0), .sc (.bool false)]) []:=by
 have hcc:=find_calls (vs:=[]) (c:=c) (by simp)
 rw [findN_nil,l_4] at hcc
 exact nil_calls hcc
set_option maxRecDepth 100000 in set_option maxHeartbeats 12800000 in
theorem kept_calls {com:Int} {l:List Ob} {bs:List Bd} {ps:List Pn} {pg:List (List D)} (hl:l.length≤1000) (hb:bs.length≤1000) (hp:ps.length≤1000) (ha:AscI (l.map (·.id))) (hv: ∀ o∈l,o.vers.length≤1000):ACalls Try.prog 44 [.agg [.sc (.int .i64 com),.sl 2 (l.map rowOb),.sl 4 (bs.map rowBd),.sl 2 (ps.map rowP),.sl 3 pg]] (.sc (.bool (ps.all (keptP l bs)))) []:=by
 refine of_tri [] [1,5,7,9,12,64] Try.func44 rfl call44 rfl (by decide) (by decide) rfl rfl Try.ntmps44 (by simp (disch:=omega) only [seval,go_sem,cnd,intV,shV,convV,strV,List.replicate,l_2,l_1];rfl) (by simp (disch:=omega) only [seval,go_sem,cnd,intV,shV,convV,strV,l_2,l_1];rfl) ?_
 ((repeat' (first|((with_reducible refine isTriD ?_);(with_reducible refine isMake ?_;with_reducible refine TriD.makeMap (by simp only [seval,go_sem]) (by simp only [seval,go_sem];rfl) (by simp only [seval,go_sem];rfl) (by simp only [seval,go_sem];rfl) (by simp only [seval,go_sem];rfl) (by simp only [seval,go_sem];done) (by simp only [seval,go_sem];rfl) ?_;refine LVs (st:=[]) ?_))|(with_reducible (refine TVq (st:=[]) ?_))|simp only [seval,go_sem]))<;>(try (fail)))
 all_goals (with_reducible refine Tri.loopU (fun (k:Nat)=>[(16,.sc (.int .i64 k)),(5,.any),(17,.any),(18,.any),(19,.any),(20,.any),(21,.any),(22,.any),(23,.any),(24,.any),(25,.any)]) (fun (k:Nat)=>[(12,.ext (mapX (.int .i64) (obM (l.take k)))),(5,.dead)]) (fun (k:Nat)=>k≤l.length) (fun (k:Nat)=>l.length-k) (0) (Nat.zero_le _) (by intro _;simp (disch:=omega) only [seval,go_sem,cnd,intV,shV,convV,strV];rfl) (by intro _;simp (disch:=omega) only [seval,go_sem,cnd,intV,shV,convV,strV];rfl) (by (refine leQL_spec ?_);(try simp only [seval,go_sem,obM,List.take_zero,l_4]);done) (by (refine leQH_spec ?_);(try simp only [seval,go_sem,obM,List.take_zero,l_4]);done) (fun k hI=>?_))
 by_cases hlt:k<l.length
 ·obtain ⟨q,hq⟩:=get_lt hlt
  have hq':=get_map rowOb hq
  have hms:=obM_set ha hq
  (all_goals (try have hZ:=(And.intro hq' hms));(repeat' (first|((with_reducible refine isTriD ?_);(with_reducible refine isMapUpdate ?_;with_reducible refine TriD.mapUpdate (by simp only [seval,go_sem,rowOb,hZ]) (by simp only [seval,go_sem,rowOb,hZ];rfl) (by simp only [seval,go_sem,rowOb,hZ];rfl) (by simp only [seval,go_sem,rowOb,hZ];rfl) (by simp only [seval,go_sem,rowOb,hZ];rfl) (by simp only [seval,go_sem,rowOb,hZ];rfl) (by simp only [seval,go_sem,rowOb,hZ];rfl) (by simp only [seval,go_sem,rowOb,hZ];rfl) (by simp only [seval,go_sem,rowOb,hZ];done) (by simp only [seval,go_sem,rowOb,hZ];rfl) (by simp only [seval,go_sem,rowOb,hZ];done) (by simp only [seval,go_sem,rowOb,hZ];rfl) ?_;refine LVs (st:=[]) ?_))|(with_reducible (refine TVq (st:=[]) ?_))|simp only [seval,go_sem,rowOb,hZ]|(with_reducible refine oV_st (by simp (disch:=omega) only [seval,go_sem,cnd,intV,shV,convV,strV,rowOb,hZ];rfl) ?_)))<;>(try (fail));all_goals (try clear hZ))
  all_goals (try (refine isNextM (k+1) (by (refine leQL_spec ?_);(try simp only [seval,go_sem]);first|((repeat' (with_reducible apply And.intro))<;>first|rfl);done) (by (refine leQH_spec ?_);(try simp only [seval,go_sem]);done) ?_ ?_<;>(try (omega))))
  all_goals (try omega)
 ·have htk:l.take k=l:=List.take_of_length_le (by omega)
  rw [htk]
  ((repeat' (first|(with_reducible (refine TVq (st:=[]) ?_))|simp only [seval,go_sem]|(with_reducible refine oV_st (by simp (disch:=omega) only [seval,go_sem,cnd,intV,shV,convV,strV];rfl) ?_)))<;>(try (fail)))
  all_goals (with_reducible refine Tri.loopU (fun (i:Nat)=>[(29,.sc (.int .i64 i)),(2,.any),(7,.any),(9,.any),(10,.any),(11,.any),(30,.any),(31,.any),(32,.any),(33,.any),(34,.any),(35,.any),(36,.any),(37,.any),(38,.any),(39,.any),(40,.any),(41,.any),(42,.any),(43,.any),(44,.any),(45,.any),(46,.any),(47,.any),(48,.any),(49,.any),(50,.any),(51,.any),(52,.any),(53,.any),(54,.any),(55,.any),(56,.any),(57,.any),(58,.any),(59,.any),(60,.any),(61,.any),(62,.any),(63,.any),(64,.any),(65,.any),(66,.any),(67,.any),(68,.any),(69,.any),(70,.any)]) (fun (i:Nat)=>[(7,.dead),(9,.dead),(64,.dead)]) (fun (i:Nat)=>i≤ps.length∧(ps.drop i).all (keptP l bs)=ps.all (keptP l bs)) (fun (i:Nat)=>ps.length-i) (0) (⟨Nat.zero_le _,rfl⟩) (by intro _;simp (disch:=omega) only [seval,go_sem,cnd,intV,shV,convV,strV];rfl) (by intro _;simp (disch:=omega) only [seval,go_sem,cnd,intV,shV,convV,strV];rfl) (by (refine leQL_spec ?_);(try simp only [seval,go_sem]);done) (by (refine leQH_spec ?_);(try simp only [seval,go_sem]);done) (fun i hI=>?_))
  all_goals
   obtain ⟨hi,hf⟩:=hI
   by_cases hlt2:i<ps.length
   ·obtain ⟨x,hx⟩:=get_lt hlt2
    have hx':=get_map rowP hx
    obtain ⟨g1,g2⟩:=all_step hx hf
    ((repeat' (first|(with_reducible (refine TVq (st:=[]) ?_))|simp only [seval,go_sem,hx',rowP]|(with_reducible refine oV_st (by simp (disch:=omega) only [seval,go_sem,cnd,intV,shV,convV,strV,hx',rowP];rfl) ?_)))<;>(try (fail)))
    all_goals (with_reducible refine Tri.loopU (fun (j:Nat)=>[(36,.sc (.int .i64 j)),(2,.any),(9,.any),(10,.any),(11,.any),(37,.any),(38,.any),(39,.any),(40,.any),(41,.any),(42,.any),(43,.any),(44,.any),(45,.any),(46,.any),(47,.any),(48,.any),(49,.any),(50,.any),(51,.any),(52,.any),(53,.any),(54,.any),(55,.any),(56,.any),(57,.any),(58,.any),(59,.any),(60,.any),(61,.any),(62,.any),(63,.any),(64,.any),(65,.any),(66,.any),(67,.any),(68,.any),(69,.any)]) (fun (j:Nat)=>[(9,.dead),(64,.dead)]) (fun (j:Nat)=>j≤bs.length∧keptP l (bs.drop j) x=keptP l bs x) (fun (j:Nat)=>bs.length-j) (0) (⟨Nat.zero_le _,rfl⟩) (by intro _;simp (disch:=omega) only [seval,go_sem,cnd,intV,shV,convV,strV];rfl) (by intro _;simp (disch:=omega) only [seval,go_sem,cnd,intV,shV,convV,strV];rfl) (by (refine leQL_spec ?_);(try simp only [seval,go_sem]);done) (by (refine leQH_spec ?_);(try simp only [seval,go_sem]);done) (fun j hI=>?_))
    all_goals
     obtain ⟨hj,hf2⟩:=hI
     by_cases hlt3:j<bs.length
     ·obtain ⟨b,hbj⟩:=get_lt hlt3
      have hb':=get_map rowBd hbj
      obtain ⟨h1,h2⟩:=all_step hbj hf2
      rcases holds_split b.frm b.to x.commit with ⟨c1,hh⟩|⟨c1,c2,c3,hh⟩|⟨c1,c2,hh⟩|⟨c1,c2,c3,hh⟩
      ·have h3:=h2 (by rw [hh];rfl)
       ((repeat' (first|(with_reducible (refine TVq (st:=[]) ?_))|simp only [seval,go_sem,hb',rowBd]|(with_reducible refine oV_st (by simp (disch:=omega) only [seval,go_sem,cnd,intV,shV,convV,strV,hb',rowBd];rfl) ?_)))<;>(try (fail)))
       all_goals (try (refine isNextM (j+1) (by (refine leQL_spec ?_);(try simp only [seval,go_sem]);first|((repeat' (with_reducible apply And.intro))<;>first|rfl);done) (by (refine leQH_spec ?_);(try simp only [seval,go_sem]);done) ?_ ?_<;>(try (omega))))
       all_goals (try exact ⟨by omega,h3⟩)
      ·have h3:=h2 (by rw [hh];rfl)
       ((repeat' (first|(with_reducible (refine TVq (st:=[]) ?_))|simp only [seval,go_sem,hb',rowBd]|(with_reducible refine oV_st (by simp (disch:=omega) only [seval,go_sem,cnd,intV,shV,convV,strV,hb',rowBd];rfl) ?_)))<;>(try (fail)))
       all_goals (try (refine isNextM (j+1) (by (refine leQL_spec ?_);(try simp only [seval,go_sem]);first|((repeat' (with_reducible apply And.intro))<;>first|rfl);done) (by (refine leQH_spec ?_);(try simp only [seval,go_sem]);done) ?_ ?_<;>(try (omega))))
       all_goals (try exact ⟨by omega,h3⟩)
      all_goals
       rw [hh,Bool.not_true,Bool.false_or] at h1 h2
       by_cases hob:objAt b.obj l 0<0
       ·have hfi:=obI_none hob
        have hva:=versAt_neg hob
        rw [hva] at h1 h2
        have hcc:=findnil_calls (c:=x.commit)
        rw [g1 (h1 rfl)]
        (all_goals (try have hZ:=(And.intro hb' hfi));(repeat' (first|((with_reducible refine isTriD ?_);first|((with_reducible refine isCallD ?_);((with_reducible refine LVcall (st:=[]) ?_);simp only [seval,go_sem,rowBd,hZ];(refine CallL.c (hcc) ?_)))|(with_reducible refine isLookup ?_;with_reducible refine TriD.lookup (by simp only [seval,go_sem,rowBd,hZ]) (by simp only [seval,go_sem,rowBd,hZ];rfl) (by simp only [seval,go_sem,rowBd,hZ];rfl) (by simp only [seval,go_sem,rowBd,hZ];rfl) (by simp only [seval,go_sem,rowBd,hZ];rfl) (by simp only [seval,go_sem,rowBd,hZ];rfl) (by simp only [seval,go_sem,rowBd,hZ];rfl) (by simp only [seval,go_sem,rowBd,hZ];rfl) (by simp only [seval,go_sem,rowBd,hZ];rfl) (by simp only [seval,go_sem,rowBd,hZ];done) (by simp only [seval,go_sem,rowBd,hZ];rfl) (by simp only [seval,go_sem,rowBd,hZ];rfl) ?_;refine LVs (st:=[]) ?_))|(with_reducible refine isRet ?_;refine RetV (rs:=[.tmp 2]) (by with_unfolding_all rfl) rfl ?_<;>simp only [seval,go_sem]<;>(repeat' (with_reducible apply And.intro))<;>(try rfl))|(with_reducible (refine TVq (st:=[]) ?_))|simp only [seval,go_sem,rowBd,hZ]|(with_reducible refine oV_st (by simp (disch:=omega) only [seval,go_sem,cnd,intV,shV,convV,strV,rowBd,hZ];rfl) ?_)))<;>(try (fail));all_goals (try clear hZ))
       ·have hfi:=obI_some hob
        have hcc:=find_calls (vs:=versAt b.obj l) (c:=x.commit) (by have:=versAt_len hv b.obj;omega)
        cases hfn:findN x.commit (versAt b.obj l) 0 with
        | mk fi fb=>
          rw [hfn] at hcc h1 h2
          cases fb with
          | false=>
            rw [g1 (h1 rfl)]
            (all_goals (try have hZ:=(And.intro hb' hfi));(repeat' (first|((with_reducible refine isTriD ?_);first|((with_reducible refine isCallD ?_);((with_reducible refine LVcall (st:=[]) ?_);simp only [seval,go_sem,rowBd,hZ];(refine CallL.c (hcc) ?_)))|(with_reducible refine isLookup ?_;with_reducible refine TriD.lookup (by simp only [seval,go_sem,rowBd,hZ]) (by simp only [seval,go_sem,rowBd,hZ];rfl) (by simp only [seval,go_sem,rowBd,hZ];rfl) (by simp only [seval,go_sem,rowBd,hZ];rfl) (by simp only [seval,go_sem,rowBd,hZ];rfl) (by simp only [seval,go_sem,rowBd,hZ];rfl) (by simp only [seval,go_sem,rowBd,hZ];rfl) (by simp only [seval,go_sem,rowBd,hZ];rfl) (by simp only [seval,go_sem,rowBd,hZ];rfl) (by simp only [seval,go_sem,rowBd,hZ];done) (by simp only [seval,go_sem,rowBd,hZ];rfl) (by simp only [seval,go_sem,rowBd,hZ];rfl) ?_;refine LVs (st:=[]) ?_))|(with_reducible refine isRet ?_;refine RetV (rs:=[.tmp 2]) (by with_unfolding_all rfl) rfl ?_<;>simp only [seval,go_sem]<;>(repeat' (with_reducible apply And.intro))<;>(try rfl))|(with_reducible (refine TVq (st:=[]) ?_))|simp only [seval,go_sem,rowBd,hZ]|(with_reducible refine oV_st (by simp (disch:=omega) only [seval,go_sem,cnd,intV,shV,convV,strV,rowBd,hZ];rfl) ?_)))<;>(try (fail));all_goals (try clear hZ))
          | true=>
            have h3:=h2 rfl
            (all_goals (try have hZ:=(And.intro hb' hfi));(repeat' (first|((with_reducible refine isTriD ?_);first|((with_reducible refine isCallD ?_);((with_reducible refine LVcall (st:=[]) ?_);simp only [seval,go_sem,rowBd,hZ];(refine CallL.c (hcc) ?_)))|(with_reducible refine isLookup ?_;with_reducible refine TriD.lookup (by simp only [seval,go_sem,rowBd,hZ]) (by simp only [seval,go_sem,rowBd,hZ];rfl) (by simp only [seval,go_sem,rowBd,hZ];rfl) (by simp only [seval,go_sem,rowBd,hZ];rfl) (by simp only [seval,go_sem,rowBd,hZ];rfl) (by simp only [seval,go_sem,rowBd,hZ];rfl) (by simp only [seval,go_sem,rowBd,hZ];rfl) (by simp only [seval,go_sem,rowBd,hZ];rfl) (by simp only [seval,go_sem,rowBd,hZ];rfl) (by simp only [seval,go_sem,rowBd,hZ];done) (by simp only [seval,go_sem,rowBd,hZ];rfl) (by simp only [seval,go_sem,rowBd,hZ];rfl) ?_;refine LVs (st:=[]) ?_))|(with_reducible (refine TVq (st:=[]) ?_))|simp only [seval,go_sem,rowBd,hZ]|(with_reducible refine oV_st (by simp (disch:=omega) only [seval,go_sem,cnd,intV,shV,convV,strV,rowBd,hZ];rfl) ?_)))<;>(try (fail));all_goals (try clear hZ))
            all_goals (try (refine isNextM (j+1) (by (refine leQL_spec ?_);(try simp only [seval,go_sem]);first|((repeat' (with_reducible apply And.intro))<;>first|rfl);done) (by (refine leQH_spec ?_);(try simp only [seval,go_sem]);done) ?_ ?_<;>(try (omega))))
            all_goals (try exact ⟨by omega,h3⟩)
     ·rw [List.drop_eq_nil_of_le (by omega)] at hf2
      have h3:=g2 (by rw [← hf2];rfl)
      ((repeat' (first|(with_reducible (refine TVq (st:=[]) ?_))|simp only [seval,go_sem]|(with_reducible refine oV_st (by simp (disch:=omega) only [seval,go_sem,cnd,intV,shV,convV,strV];rfl) ?_)))<;>(try (fail)))
      all_goals (try (refine isNextM (i+1) (by (refine leQL_spec ?_);(try simp only [seval,go_sem]);first|((repeat' (with_reducible apply And.intro))<;>first|rfl);done) (by (refine leQH_spec ?_);(try simp only [seval,go_sem]);done) ?_ ?_<;>(try (omega))))
      all_goals (try exact ⟨by omega,h3⟩)
   ·rw [List.drop_eq_nil_of_le (by omega)] at hf
    rw [← hf]
    ((repeat' (first|(with_reducible refine isRet ?_;refine RetV (rs:=[.tmp 2]) (by with_unfolding_all rfl) rfl ?_<;>simp only [seval,go_sem]<;>(repeat' (with_reducible apply And.intro))<;>(try rfl))|(with_reducible (refine TVq (st:=[]) ?_))|simp only [seval,go_sem]|(with_reducible refine oV_st (by simp (disch:=omega) only [seval,go_sem,cnd,intV,shV,convV,strV];rfl) ?_)))<;>(try (fail)))
end Go.Proofs.Ytmgodadmafcliaa
