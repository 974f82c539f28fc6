/- Audit: the walks of the checks of a configuration, of pins and of bindings, of the program and of the reference. -/
import Derived.Test.YtmgodadmafcliaaRAuP
import Derived.Test.YtmgodadmafcliaaRAuQ
set_option linter.unusedSimpArgs false
set_option linter.unusedVariables false
namespace Go.Proofs.Ytmgodadmafcliaa
open Go.RowKit Go.Avm
-- CON sketchstore/audit.outside | outside_calls | 0
-- CON sketchstore/store.inside | inside_calls | 0
-- CON sketchstore/sketchstoreref19.within | rwithin_calls | 0
-- CON sketchstore/store.ValidateConfig | cfg_calls | 0
-- CON sketchstore/sketchstoreref19.ValidateConfig | rcfg_calls | 0
-- CON sketchstore/pages.sized | sized_calls | 0
-- CON sketchstore/satur.CeilDiv | ceild_calls ?_ ?_ | 0
-- CON sketchstore/sketchstoreref1.CeilDiv | rceild_calls ?_ ?_ | 0
-- CON sketchstore/pages.Count | count_calls ?_ ?_ ?_ | 0
-- CON sketchstore/sketchstoreref14.Count | rcount_calls ?_ ?_ ?_ | 0
-- CON sketchstore/audit.checkPins | ckpins_calls ?_ ?_ ?_ ?_ | 0
-- CON sketchstore/sketchstoreref19.checkPins | rckpins_calls ?_ | 0
-- CON sketchstore/audit.checkBindings | ckbinds_calls ?_ ?_ | 0
-- CON sketchstore/sketchstoreref19.checkBindings | rckbinds_calls ?_ | 0
set_option maxRecDepth 100000 in set_option maxHeartbeats 3200000 in
theorem outside_calls {n m:Int}:ACalls Try.prog 36 [.sc (.int .i64 n), .sc (.int .i64 m)] (.sc (.bool (!inR n 0 m))) []:=by
 refine of_tri [] [] Try.func36 rfl call36 rfl (by decide) (by decide) rfl rfl Try.ntmps36 (by simp (disch:=omega) only [seval,go_sem,cnd,intV,shV,convV,strV,List.replicate,l_2,l_1];rfl) (by simp (disch:=omega) only [seval,go_sem,cnd,intV,shV,convV,strV,l_2,l_1];rfl) ?_
 ((repeat' (first|(with_reducible refine isCv ?_;intro hc;(try simp only [bls,reduceCtorEq] at hc);(try (exfalso;omega)))|((with_reducible refine isTriD ?_);((with_reducible first|refine TriD.step (by simp only [seval,go_sem];rfl) ?_|refine TriD.step (by simp (disch:=omega) only [seval,go_sem,cnd,intV,shV,convV,strV];rfl) ?_);refine LVs (st:=[10]) ?_))|(with_reducible refine isRet ?_;refine RetV (rs:=[.tmp 4]) (by with_unfolding_all rfl) rfl ?_<;>simp only [seval,go_sem]<;>(repeat' (with_reducible apply And.intro))<;>(try rfl))|(with_reducible (refine TVq (st:=[10]) ?_))|simp only [seval,go_sem]|(with_reducible refine oV_st (by simp (disch:=omega) only [seval,go_sem,cnd,intV,shV,convV,strV];rfl) ?_)|(with_reducible refine gV_split (by simp only [seval,go_sem];rfl) (by simp only [seval,go_sem];rfl) (by simp only [seval,go_sem];done) (cvI ?_) (cvI ?_) (by simp only [seval,go_sem]))))<;>(try (fail)))
 all_goals (simp only [inR];by_cases h1:(0:Int)≤n<;>by_cases h2:n≤m<;>simp [h1,h2]<;>omega)
set_option maxRecDepth 100000 in set_option maxHeartbeats 3200000 in
theorem inside_calls {n a b:Int}:ACalls Try.prog 73 [.sc (.int .i64 n), .sc (.int .i64 a), .sc (.int .i64 b)] (.sc (.bool (inR n a b))) []:=by
 refine of_tri [] [] Try.func73 rfl call73 rfl (by decide) (by decide) rfl rfl Try.ntmps73 (by simp (disch:=omega) only [seval,go_sem,cnd,intV,shV,convV,strV,List.replicate,l_2,l_1];rfl) (by simp (disch:=omega) only [seval,go_sem,cnd,intV,shV,convV,strV,l_2,l_1];rfl) ?_
 ((repeat' (first|(with_reducible refine isCv ?_;intro hc;(try simp only [bls,reduceCtorEq] at hc);(try (exfalso;omega)))|((with_reducible refine isTriD ?_);((with_reducible first|refine TriD.step (by simp only [seval,go_sem];rfl) ?_|refine TriD.step (by simp (disch:=omega) only [seval,go_sem,cnd,intV,shV,convV,strV];rfl) ?_);refine LVs (st:=[13]) ?_))|(with_reducible refine isRet ?_;refine RetV (rs:=[.tmp 6]) (by with_unfolding_all rfl) rfl ?_<;>simp only [seval,go_sem]<;>(repeat' (with_reducible apply And.intro))<;>(try rfl))|(with_reducible (refine TVq (st:=[13]) ?_))|simp only [seval,go_sem]|(with_reducible refine oV_st (by simp (disch:=omega) only [seval,go_sem,cnd,intV,shV,convV,strV];rfl) ?_)|(with_reducible refine gV_split (by simp only [seval,go_sem];rfl) (by simp only [seval,go_sem];rfl) (by simp only [seval,go_sem];done) (cvI ?_) (cvI ?_) (by simp only [seval,go_sem]))))<;>(try (fail)))
 all_goals (simp [inR];try omega)
set_option maxRecDepth 100000 in set_option maxHeartbeats 3200000 in
theorem rwithin_calls {n a b:Int}:ACalls Try.prog 46 [.sc (.int .i64 n), .sc (.int .i64 a), .sc (.int .i64 b)] (.sc (.bool (inR n a b))) []:=by
 refine of_tri [] [] Try.func46 rfl call46 rfl (by decide) (by decide) rfl rfl Try.ntmps46 (by simp (disch:=omega) only [seval,go_sem,cnd,intV,shV,convV,strV,List.replicate,l_2,l_1];rfl) (by simp (disch:=omega) only [seval,go_sem,cnd,intV,shV,convV,strV,l_2,l_1];rfl) ?_
 ((repeat' (first|(with_reducible refine isCv ?_;intro hc;(try simp only [bls,reduceCtorEq] at hc);(try (exfalso;omega)))|((with_reducible refine isTriD ?_);((with_reducible first|refine TriD.step (by simp only [seval,go_sem];rfl) ?_|refine TriD.step (by simp (disch:=omega) only [seval,go_sem,cnd,intV,shV,convV,strV];rfl) ?_);refine LVs (st:=[13]) ?_))|(with_reducible refine isRet ?_;refine RetV (rs:=[.tmp 6]) (by with_unfolding_all rfl) rfl ?_<;>simp only [seval,go_sem]<;>(repeat' (with_reducible apply And.intro))<;>(try rfl))|(with_reducible (refine TVq (st:=[13]) ?_))|simp only [seval,go_sem]|(with_reducible refine oV_st (by simp (disch:=omega) only [seval,go_sem,cnd,intV,shV,convV,strV];rfl) ?_)|(with_reducible refine gV_split (by simp only [seval,go_sem];rfl) (by simp only [seval,go_sem];rfl) (by simp only [seval,go_sem];done) (cvI ?_) (cvI ?_) (by simp only [seval,go_sem]))))<;>(try (fail)))
 all_goals (simp [inR];try omega)
set_option maxRecDepth 100000 in set_option maxHeartbeats 6400000 in
theorem cfg_calls {a b c d e f g:Int}:ACalls Try.prog 35 [.agg [.sc (.int .i64 a), .sc (.int .i64 b), .sc (.int .i64 c), .sc (.int .i64 d), .sc (.int .i64 e), .sc (.int .i64 f), .sc (.int .i64 g)]] (.sc (.int .i64 (cond (cfOk ⟨a,b,c,d,e,f,g⟩) 0 5))) []:=by
 simp only [cfOk]
 generalize h1:inR a 1 64=x1
 generalize h2:inR b 1 64=x2
 generalize h3:inR c 1 16384=x3
 generalize h4:inR d 8 1024=x4
 generalize h5:inR e 1 1024=x5
 generalize h6:inR f 1 1048576=x6
 generalize h7:inR g 1 64=x7
 refine of_tri [] [1,5,10,16,22,28,34,40] Try.func35 rfl call35 rfl (by decide) (by decide) rfl rfl Try.ntmps35 (by simp (disch:=omega) only [seval,go_sem,cnd,intV,shV,convV,strV,List.replicate,l_2,l_1];rfl) (by simp (disch:=omega) only [seval,go_sem,cnd,intV,shV,convV,strV,l_2,l_1];rfl) ?_
 (all_goals (try have hZ:=(And.intro h1 (And.intro h2 (And.intro h3 (And.intro h4 (And.intro h5 (And.intro h6 h7)))))));(repeat' (first|(with_reducible refine isCv ?_;intro hc;(try simp only [bls,reduceCtorEq] at hc);(try (exfalso;omega)))|((with_reducible refine isTriD ?_);((with_reducible refine isCallD ?_);((with_reducible refine LVcall (st:=[]) ?_);simp only [seval,go_sem,hZ];(refine CallL.c (inside_calls) ?_))))|(with_reducible refine isRet ?_;refine RetV (rs:=[.tmp 2]) (by with_unfolding_all rfl) rfl ?_<;>simp only [seval,go_sem]<;>(repeat' (with_reducible apply And.intro))<;>(try rfl))|(with_reducible (refine TVq (st:=[]) ?_))|simp only [seval,go_sem,hZ]|(with_reducible refine gV_split (by simp only [seval,go_sem,hZ];rfl) (by simp only [seval,go_sem,hZ];rfl) (by simp only [seval,go_sem,hZ];done) (cvI ?_) (cvI ?_) (by simp only [seval,go_sem,hZ]))|(with_reducible refine cV_split (cvI ?_) (cvI ?_))))<;>(try (fail));all_goals (try clear hZ))
 all_goals (simp_all)
set_option maxRecDepth 100000 in set_option maxHeartbeats 6400000 in
theorem rcfg_calls {a b c d e f g:Int}:ACalls Try.prog 45 [.agg [.sc (.int .i64 a), .sc (.int .i64 b), .sc (.int .i64 c), .sc (.int .i64 d), .sc (.int .i64 e), .sc (.int .i64 f), .sc (.int .i64 g)]] (.sc (.int .i64 (cond (cfOk ⟨a,b,c,d,e,f,g⟩) 0 5))) []:=by
 simp only [cfOk]
 generalize h1:inR a 1 64=x1
 generalize h2:inR b 1 64=x2
 generalize h3:inR c 1 16384=x3
 generalize h4:inR d 8 1024=x4
 generalize h5:inR e 1 1024=x5
 generalize h6:inR f 1 1048576=x6
 generalize h7:inR g 1 64=x7
 refine of_tri [] [1,5,10,16,22,28,34,40] Try.func45 rfl call45 rfl (by decide) (by decide) rfl rfl Try.ntmps45 (by simp (disch:=omega) only [seval,go_sem,cnd,intV,shV,convV,strV,List.replicate,l_2,l_1];rfl) (by simp (disch:=omega) only [seval,go_sem,cnd,intV,shV,convV,strV,l_2,l_1];rfl) ?_
 (all_goals (try have hZ:=(And.intro h1 (And.intro h2 (And.intro h3 (And.intro h4 (And.intro h5 (And.intro h6 h7)))))));(repeat' (first|(with_reducible refine isCv ?_;intro hc;(try simp only [bls,reduceCtorEq] at hc);(try (exfalso;omega)))|((with_reducible refine isTriD ?_);((with_reducible refine isCallD ?_);((with_reducible refine LVcall (st:=[]) ?_);simp only [seval,go_sem,hZ];(refine CallL.c (rwithin_calls) ?_))))|(with_reducible refine isRet ?_;refine RetV (rs:=[.tmp 2]) (by with_unfolding_all rfl) rfl ?_<;>simp only [seval,go_sem]<;>(repeat' (with_reducible apply And.intro))<;>(try rfl))|(with_reducible (refine TVq (st:=[]) ?_))|simp only [seval,go_sem,hZ]|(with_reducible refine gV_split (by simp only [seval,go_sem,hZ];rfl) (by simp only [seval,go_sem,hZ];rfl) (by simp only [seval,go_sem,hZ];done) (cvI ?_) (cvI ?_) (by simp only [seval,go_sem,hZ]))|(with_reducible refine cV_split (cvI ?_) (cvI ?_))))<;>(try (fail));all_goals (try clear hZ))
 all_goals (simp_all)
set_option maxRecDepth 100000 in set_option maxHeartbeats 3200000 in
theorem sized_calls {n:Int}:ACalls Try.prog 123 [.sc (.int .i64 n)] (.sc (.bool (inR n 1 1024))) []:=by
 refine of_tri [] [] Try.func123 rfl call123 rfl (by decide) (by decide) rfl rfl Try.ntmps123 (by simp (disch:=omega) only [seval,go_sem,cnd,intV,shV,convV,strV,List.replicate,l_2,l_1];rfl) (by simp (disch:=omega) only [seval,go_sem,cnd,intV,shV,convV,strV,l_2,l_1];rfl) ?_
 ((repeat' (first|(with_reducible refine isCv ?_;intro hc;(try simp only [bls,reduceCtorEq] at hc);(try (exfalso;omega)))|((with_reducible refine isTriD ?_);((with_reducible first|refine TriD.step (by simp only [seval,go_sem];rfl) ?_|refine TriD.step (by simp (disch:=omega) only [seval,go_sem,cnd,intV,shV,convV,strV];rfl) ?_);refine LVs (st:=[7]) ?_))|(with_reducible refine isRet ?_;refine RetV (rs:=[.tmp 2]) (by with_unfolding_all rfl) rfl ?_<;>simp only [seval,go_sem]<;>(repeat' (with_reducible apply And.intro))<;>(try rfl))|(with_reducible (refine TVq (st:=[7]) ?_))|simp only [seval,go_sem]|(with_reducible refine oV_st (by simp (disch:=omega) only [seval,go_sem,cnd,intV,shV,convV,strV];rfl) ?_)|(with_reducible refine gV_split (by simp only [seval,go_sem];rfl) (by simp only [seval,go_sem];rfl) (by simp only [seval,go_sem];done) (cvI ?_) (cvI ?_) (by simp only [seval,go_sem]))))<;>(try (fail)))
 all_goals (simp [inR];try omega)
set_option maxRecDepth 100000 in set_option maxHeartbeats 3200000 in
theorem ceild_calls {a b:Int} (ha:0≤a∧a≤9223372036854775807) (hb:2≤b∧b≤1024):ACalls Try.prog 124 [.sc (.int .i64 a), .sc (.int .i64 b)] (.tup [.sc (.int .i64 (cntE a b)), .sc (.int .i64 0)]) []:=by
 have h1:0≤a/b∧a/b≤a:=⟨Int.ediv_nonneg (by omega) (by omega),Int.ediv_le_self b (by omega)⟩
 have h2:a/b+1≤9223372036854775807:=by
  have:a/b≤9223372036854775806:=by
   have:a/b<9223372036854775807:=Int.ediv_lt_of_lt_mul (by omega) (by omega)
   omega
  omega
 refine of_tri [] [] Try.func124 rfl call124 rfl (by decide) (by decide) rfl rfl Try.ntmps124 (by simp (disch:=omega) only [seval,go_sem,cnd,intV,shV,convV,strV,List.replicate,l_2,l_1];rfl) (by simp (disch:=omega) only [seval,go_sem,cnd,intV,shV,convV,strV,l_2,l_1];rfl) ?_
 ((repeat' (first|(with_reducible refine isCv ?_;intro hc;(try simp only [bls,reduceCtorEq] at hc);(try (exfalso;omega)))|(with_reducible refine isRet ?_;refine RetV (rs:=[.tmp 4, .tmp 5]) (by with_unfolding_all rfl) rfl ?_<;>simp only [seval,go_sem]<;>(repeat' (with_reducible apply And.intro))<;>(try rfl))|(with_reducible (refine TVq (st:=[]) ?_))|simp only [seval,go_sem]|(with_reducible refine oV_st (by simp (disch:=omega) only [seval,go_sem,cnd,intV,shV,convV,strV];rfl) ?_)|(with_reducible refine cV_split (cvI ?_) (cvI ?_))))<;>(try (fail)))
 all_goals (simp only [cntE];split<;>first|rfl|omega)
set_option maxRecDepth 100000 in set_option maxHeartbeats 3200000 in
theorem rceild_calls {a b:Int} (ha:0≤a∧a≤9223372036854775807) (hb:2≤b∧b≤1024):ACalls Try.prog 127 [.sc (.int .i64 a), .sc (.int .i64 b)] (.tup [.sc (.int .i64 (cntE a b)), .sc (.int .i64 0)]) []:=by
 have h1:0≤a/b∧a/b≤a:=⟨Int.ediv_nonneg (by omega) (by omega),Int.ediv_le_self b (by omega)⟩
 have h2:a/b+1≤9223372036854775807:=by
  have:a/b≤9223372036854775806:=by
   have:a/b<9223372036854775807:=Int.ediv_lt_of_lt_mul (by omega) (by omega)
   omega
  omega
 refine of_tri [] [] Try.func127 rfl call127 rfl (by decide) (by decide) rfl rfl Try.ntmps127 (by simp (disch:=omega) only [seval,go_sem,cnd,intV,shV,convV,strV,List.replicate,l_2,l_1];rfl) (by simp (disch:=omega) only [seval,go_sem,cnd,intV,shV,convV,strV,l_2,l_1];rfl) ?_
 ((repeat' (first|(with_reducible refine isCv ?_;intro hc;(try simp only [bls,reduceCtorEq] at hc);(try (exfalso;omega)))|(with_reducible refine isRet ?_;refine RetV (rs:=[.tmp 4, .tmp 5]) (by with_unfolding_all rfl) rfl ?_<;>simp only [seval,go_sem]<;>(repeat' (with_reducible apply And.intro))<;>(try rfl))|(with_reducible (refine TVq (st:=[]) ?_))|simp only [seval,go_sem]|(with_reducible refine oV_st (by simp (disch:=omega) only [seval,go_sem,cnd,intV,shV,convV,strV];rfl) ?_)|(with_reducible refine cV_split (cvI ?_) (cvI ?_))))<;>(try (fail)))
 all_goals (simp only [cntE];split<;>first|rfl|omega)
set_option maxRecDepth 100000 in set_option maxHeartbeats 3200000 in
theorem count_calls {a b:Int} (ha:0≤a) (ha2:a≤9223372036854775807) (hb:8≤b∧b≤1024):ACalls Try.prog 77 [.sc (.int .i64 a), .sc (.int .i64 b)] (.tup [.sc (.int .i64 (cntE a b)), .sc (.int .i64 0)]) []:=by
 have hr:inR b 1 1024=true:=by simp [inR];omega
 have hc:=ceild_calls (a:=a) (b:=b) ⟨ha,ha2⟩ ⟨by omega,hb.2⟩
 refine of_tri [] [12,18] Try.func77 rfl call77 rfl (by decide) (by decide) rfl rfl Try.ntmps77 (by simp (disch:=omega) only [seval,go_sem,cnd,intV,shV,convV,strV,List.replicate,l_2,l_1];rfl) (by simp (disch:=omega) only [seval,go_sem,cnd,intV,shV,convV,strV,l_2,l_1];rfl) ?_
 ((repeat' (first|((with_reducible refine isTriD ?_);((with_reducible refine isCallD ?_);((with_reducible refine LVcall (st:=[]) ?_);simp only [seval,go_sem,hr];first|(refine CallL.c (hc) ?_)|(refine CallL.c (sized_calls) ?_))))|(with_reducible refine isRet ?_;refine RetV (rs:=[.tmp 4, .tmp 5]) (by with_unfolding_all rfl) rfl ?_<;>simp only [seval,go_sem]<;>(repeat' (with_reducible apply And.intro))<;>(try rfl))|(with_reducible (refine TVq (st:=[]) ?_))|simp only [seval,go_sem,hr]|(with_reducible refine oV_st (by simp (disch:=omega) only [seval,go_sem,cnd,intV,shV,convV,strV,hr];rfl) ?_)))<;>(try (fail)))
set_option maxRecDepth 100000 in set_option maxHeartbeats 3200000 in
theorem rcount_calls {a b:Int} (ha:0≤a) (ha2:a≤9223372036854775807) (hb:8≤b∧b≤1024):ACalls Try.prog 86 [.sc (.int .i64 a), .sc (.int .i64 b)] (.tup [.sc (.int .i64 (cntE a b)), .sc (.int .i64 0)]) []:=by
 have hc:=rceild_calls (a:=a) (b:=b) ⟨ha,ha2⟩ ⟨by omega,hb.2⟩
 refine of_tri [] [18] Try.func86 rfl call86 rfl (by decide) (by decide) rfl rfl Try.ntmps86 (by simp (disch:=omega) only [seval,go_sem,cnd,intV,shV,convV,strV,List.replicate,l_2,l_1];rfl) (by simp (disch:=omega) only [seval,go_sem,cnd,intV,shV,convV,strV,l_2,l_1];rfl) ?_
 ((repeat' (first|((with_reducible refine isTriD ?_);((with_reducible refine isCallD ?_);((with_reducible refine LVcall (st:=[]) ?_);simp only [seval,go_sem];(refine CallL.c (hc) ?_))))|(with_reducible refine isRet ?_;refine RetV (rs:=[.tmp 4, .tmp 5]) (by with_unfolding_all rfl) rfl ?_<;>simp only [seval,go_sem]<;>(repeat' (with_reducible apply And.intro))<;>(try rfl))|(with_reducible (refine TVq (st:=[]) ?_))|simp only [seval,go_sem]|(with_reducible refine oV_st (by simp (disch:=omega) only [seval,go_sem,cnd,intV,shV,convV,strV];rfl) ?_)))<;>(try (fail)))
theorem any_step {α:Type} {p:α→Bool} {l:List α} {k:Nat} {x:α} (hx:l[k]? = some x) (hf:(l.drop k).any p=l.any p):(p x=true→l.any p=true)∧(p x=false→(l.drop (k+1)).any p=l.any p):=by
 rw [drop_get hx,List.any_cons] at hf
 exact ⟨fun h=>by rw [← hf,h];rfl,fun h=>by rw [← hf,h];rfl⟩
theorem all_step {α:Type} {p:α→Bool} {l:List α} {k:Nat} {x:α} (hx:l[k]? = some x) (hf:(l.drop k).all p=l.all p):(p x=false→l.all p=false)∧(p x=true→(l.drop (k+1)).all p=l.all p):=by
 rw [drop_get hx,List.all_cons] at hf
 exact ⟨fun h=>by rw [← hf,h];rfl,fun h=>by rw [← hf,h];rfl⟩
theorem openN_rng: ∀ l:List Bd,0≤openN l∧openN l≤l.length
 | []=>by simp [openN]
 | b::l=>by
   have:=openN_rng l
   rw [openN,List.length_cons]
   split<;>omega
set_option maxRecDepth 100000 in set_option maxHeartbeats 6400000 in
theorem ckpins_calls {a b c e p f g com:Int} {ob bd pg:List (List D)} {l:List Pn} (hl:l.length≤1000) (hp:1≤p) (hp2:p≤1024) (hcom:com≤9223372036854775807):ACalls Try.prog 37 [.agg [.sc (.int .i64 a), .sc (.int .i64 b), .sc (.int .i64 c), .sc (.int .i64 e), .sc (.int .i64 p), .sc (.int .i64 f), .sc (.int .i64 g)], .agg [.sc (.int .i64 com), .sl 2 ob, .sl 4 bd, .sl 2 (l.map rowP), .sl 3 pg]] (.sc (.int .i64 (pinsE ⟨a,b,c,e,p,f,g⟩ com l))) []:=by
 unfold pinsE
 by_cases hv:validP none l≠0
 ·rw [if_pos hv]
  refine of_tri [] [2,3,7,10,13] Try.func37 rfl call37 rfl (by decide) (by decide) rfl rfl Try.ntmps37 (by simp (disch:=omega) only [seval,go_sem,cnd,intV,shV,convV,strV,List.replicate,l_2,l_1];rfl) (by simp (disch:=omega) only [seval,go_sem,cnd,intV,shV,convV,strV,l_2,l_1];rfl) ?_
  ((repeat' (first|((with_reducible refine isTriD ?_);((with_reducible refine isCallD ?_);((with_reducible refine LVcall (st:=[]) ?_);simp only [seval,go_sem];(refine CallL.c (validp_calls ?_) ?_))))|(with_reducible refine isRet ?_;refine RetV (rs:=[.tmp 4]) (by with_unfolding_all rfl) rfl ?_<;>simp only [seval,go_sem]<;>(repeat' (with_reducible apply And.intro))<;>(try rfl))|(with_reducible (refine TVq (st:=[]) ?_))|simp only [seval,go_sem]|(with_reducible refine oV_st (by simp (disch:=omega) only [seval,go_sem,cnd,intV,shV,convV,strV];rfl) ?_)))<;>(try (((with_reducible show (_:Nat)≤_);omega))))
 ·simp only [ne_eq,Decidable.not_not] at hv
  rw [if_neg (by simp [hv])]
  have hr:=(validP_ok' hv).range
  have hg:=gtP_total hp2 l 0 (fun q hq=>(hr q hq).2) (by omega) (by omega)
  rw [Int.sub_zero] at hg
  refine of_tri [] [2,3,7,10,13] Try.func37 rfl call37 rfl (by decide) (by decide) rfl rfl Try.ntmps37 (by simp (disch:=omega) only [seval,go_sem,cnd,intV,shV,convV,strV,List.replicate,l_2,l_1];rfl) (by simp (disch:=omega) only [seval,go_sem,cnd,intV,shV,convV,strV,l_2,l_1];rfl) ?_
  ((repeat' (first|((with_reducible refine isTriD ?_);((with_reducible refine isCallD ?_);((with_reducible refine LVcall (st:=[]) ?_);simp only [seval,go_sem,hv];(refine CallL.c (validp_calls ?_) ?_))))|(with_reducible (refine TVq (st:=[]) ?_))|simp only [seval,go_sem,hv]|(with_reducible refine oV_st (by simp (disch:=omega) only [seval,go_sem,cnd,intV,shV,convV,strV,hv];rfl) ?_)))<;>(try (((with_reducible show (_:Nat)≤_);omega))))
  all_goals (with_reducible refine Tri.loopU (fun (k:Nat)=>[(20, .sc (.int .i64 k)),(4, .any),(7, .any),(21, .any),(22, .any),(23, .any),(24, .any),(25, .any),(26, .any),(27, .any),(28, .any),(29, .any)]) (fun (k:Nat)=>[(7, .dead)]) (fun (k:Nat)=>k≤l.length∧(l.drop k).any (fun q=>decide (com<q.commit))=l.any (fun q=>decide (com<q.commit))) (fun (k:Nat)=>l.length-k) (0) (⟨Nat.zero_le _,rfl⟩) (by intro _;simp (disch:=omega) only [seval,go_sem,cnd,intV,shV,convV,strV];rfl) (by intro _;simp (disch:=omega) only [seval,go_sem,cnd,intV,shV,convV,strV];rfl) (by (refine leQL_spec ?_);(try simp only [seval,go_sem]);done) (by (refine leQH_spec ?_);(try simp only [seval,go_sem]);done) (fun k hI=>?_))
  all_goals obtain ⟨hk,hf⟩:=hI
  by_cases hlt:k<l.length
  ·obtain ⟨x,hx⟩:=get_lt hlt
   have hx':=get_map rowP hx
   obtain ⟨g1,g2⟩:=any_step hx hf
   by_cases hc1:com<x.commit
   ·rw [if_pos (g1 (by simp [hc1]))]
    ((repeat' (first|(with_reducible refine isRet ?_;refine RetV (rs:=[.tmp 4]) (by with_unfolding_all rfl) rfl ?_<;>simp only [seval,go_sem]<;>(repeat' (with_reducible apply And.intro))<;>(try rfl))|(with_reducible (refine TVq (st:=[]) ?_))|simp only [seval,go_sem,hx',rowP]|(with_reducible refine oV_st (by simp (disch:=omega) only [seval,go_sem,cnd,intV,shV,convV,strV,hx',rowP];rfl) ?_)))<;>(try (fail)))
   ·have g3:=g2 (by simp [hc1])
    ((repeat' (first|(with_reducible (refine TVq (st:=[]) ?_))|simp only [seval,go_sem,hx',rowP]|(with_reducible refine oV_st (by simp (disch:=omega) only [seval,go_sem,cnd,intV,shV,convV,strV,hx',rowP];rfl) ?_)))<;>(try (fail)))
    all_goals (try (refine isNextM (k+1) (by (refine leQL_spec ?_);(try simp only [seval,go_sem]);first|((repeat' (with_reducible apply And.intro))<;>first|rfl);done) (by (refine leQH_spec ?_);(try simp only [seval,go_sem]);done) ?_ ?_<;>(try (omega))))
    all_goals (try exact ⟨by omega,g3⟩)
  ·rw [List.drop_eq_nil_of_le (by omega)] at hf
   rw [if_neg (by rw [← hf];simp)]
   ((repeat' (first|(with_reducible (refine TVq (st:=[]) ?_))|simp only [seval,go_sem]|(with_reducible refine oV_st (by simp (disch:=omega) only [seval,go_sem,cnd,intV,shV,convV,strV];rfl) ?_)))<;>(try (fail)))
   all_goals (with_reducible refine Tri.loopU (fun (t:Nat×Int)=>[(35, .sc (.int .i64 t.1)),(8, .sc (.int .i64 t.2)),(4, .any),(10, .any),(36, .any),(37, .any),(38, .any),(39, .any),(40, .any),(41, .any),(42, .any),(43, .any),(44, .any),(45, .any),(46, .any),(47, .any)]) (fun (t:Nat×Int)=>[(10, .dead)]) (fun (t:Nat×Int)=>t.1≤l.length∧(0≤t.2∧t.2≤1024)∧gtP t.2 (l.drop t.1)=gtP p l) (fun (t:Nat×Int)=>l.length-t.1) ((0,p)) (⟨Nat.zero_le _,⟨by simp only;omega,by simp only;omega⟩,rfl⟩) (by intro _;simp (disch:=omega) only [seval,go_sem,cnd,intV,shV,convV,strV];rfl) (by intro _;simp (disch:=omega) only [seval,go_sem,cnd,intV,shV,convV,strV];rfl) (by (refine leQL_spec ?_);(try simp only [seval,go_sem]);done) (by (refine leQH_spec ?_);(try simp only [seval,go_sem]);done) (fun t hI=>?_))
   all_goals
    obtain ⟨i,n⟩:=t
    obtain ⟨hi,⟨hn0,hn1⟩,hq⟩:=hI
    simp only at hi hn0 hn1 hq
    by_cases hlt2:i<l.length
    ·obtain ⟨y,hy⟩:=get_lt hlt2
     have hy':=get_map rowP hy
     have hyr:=hr y (List.mem_of_getElem? hy)
     rw [drop_get hy,gtP] at hq
     by_cases hc2:n<y.count
     ·rw [decide_eq_true hc2,Bool.true_or] at hq
      rw [← hq] at hg
      rw [if_pos (of_decide_eq_true hg.symm)]
      ((repeat' (first|(with_reducible refine isRet ?_;refine RetV (rs:=[.tmp 4]) (by with_unfolding_all rfl) rfl ?_<;>simp only [seval,go_sem]<;>(repeat' (with_reducible apply And.intro))<;>(try rfl))|(with_reducible (refine TVq (st:=[]) ?_))|simp only [seval,go_sem,hy',rowP]|(with_reducible refine oV_st (by simp (disch:=omega) only [seval,go_sem,cnd,intV,shV,convV,strV,hy',rowP];rfl) ?_)))<;>(try (fail)))
     ·rw [decide_eq_false hc2,Bool.false_or] at hq
      ((repeat' (first|(with_reducible (refine TVq (st:=[]) ?_))|simp only [seval,go_sem,hy',rowP]|(with_reducible refine oV_st (by simp (disch:=omega) only [seval,go_sem,cnd,intV,shV,convV,strV,hy',rowP];rfl) ?_)))<;>(try (fail)))
      all_goals (try (refine isNextM ((i+1,n-y.count)) (by (refine leQL_spec ?_);(try simp only [seval,go_sem]);first|((repeat' (with_reducible apply And.intro))<;>first|rfl);done) (by (refine leQH_spec ?_);(try simp only [seval,go_sem]);done) ?_ ?_<;>(try (omega))))
      all_goals (try exact ⟨by simp only;omega,⟨by simp only;omega,by simp only;omega⟩,hq⟩)
    ·rw [List.drop_eq_nil_of_le (by omega),gtP] at hq
     rw [← hq] at hg
     rw [if_neg (of_decide_eq_false hg.symm)]
     ((repeat' (first|(with_reducible refine isRet ?_;refine RetV (rs:=[.tmp 4]) (by with_unfolding_all rfl) rfl ?_<;>simp only [seval,go_sem]<;>(repeat' (with_reducible apply And.intro))<;>(try rfl))|(with_reducible (refine TVq (st:=[]) ?_))|simp only [seval,go_sem]|(with_reducible refine oV_st (by simp (disch:=omega) only [seval,go_sem,cnd,intV,shV,convV,strV];rfl) ?_)))<;>(try (fail)))
set_option maxRecDepth 100000 in set_option maxHeartbeats 6400000 in
theorem rckpins_calls {a b c e p f g com:Int} {ob bd pg:List (List D)} {l:List Pn} (hl:l.length≤1000):ACalls Try.prog 47 [.agg [.sc (.int .i64 a), .sc (.int .i64 b), .sc (.int .i64 c), .sc (.int .i64 e), .sc (.int .i64 p), .sc (.int .i64 f), .sc (.int .i64 g)], .agg [.sc (.int .i64 com), .sl 2 ob, .sl 4 bd, .sl 2 (l.map rowP), .sl 3 pg]] (.sc (.int .i64 (pinsE ⟨a,b,c,e,p,f,g⟩ com l))) []:=by
 unfold pinsE
 by_cases hv:validP none l≠0
 ·rw [if_pos hv]
  refine of_tri [] [2,3,9,31] Try.func47 rfl call47 rfl (by decide) (by decide) rfl rfl Try.ntmps47 (by simp (disch:=omega) only [seval,go_sem,cnd,intV,shV,convV,strV,List.replicate,l_2,l_1];rfl) (by simp (disch:=omega) only [seval,go_sem,cnd,intV,shV,convV,strV,l_2,l_1];rfl) ?_
  ((repeat' (first|((with_reducible refine isTriD ?_);((with_reducible refine isCallD ?_);((with_reducible refine LVcall (st:=[]) ?_);simp only [seval,go_sem];(refine CallL.c (rvalidp_calls ?_) ?_))))|(with_reducible refine isRet ?_;refine RetV (rs:=[.tmp 4]) (by with_unfolding_all rfl) rfl ?_<;>simp only [seval,go_sem]<;>(repeat' (with_reducible apply And.intro))<;>(try rfl))|(with_reducible (refine TVq (st:=[]) ?_))|simp only [seval,go_sem]|(with_reducible refine oV_st (by simp (disch:=omega) only [seval,go_sem,cnd,intV,shV,convV,strV];rfl) ?_)))<;>(try (((with_reducible show (_:Nat)≤_);omega))))
 ·simp only [ne_eq,Decidable.not_not] at hv
  rw [if_neg (by simp [hv])]
  refine of_tri [] [2,3,9,31] Try.func47 rfl call47 rfl (by decide) (by decide) rfl rfl Try.ntmps47 (by simp (disch:=omega) only [seval,go_sem,cnd,intV,shV,convV,strV,List.replicate,l_2,l_1];rfl) (by simp (disch:=omega) only [seval,go_sem,cnd,intV,shV,convV,strV,l_2,l_1];rfl) ?_
  ((repeat' (first|((with_reducible refine isTriD ?_);((with_reducible refine isCallD ?_);((with_reducible refine LVcall (st:=[]) ?_);simp only [seval,go_sem,hv];(refine CallL.c (rvalidp_calls ?_) ?_))))|(with_reducible (refine TVq (st:=[]) ?_))|simp only [seval,go_sem,hv]|(with_reducible refine oV_st (by simp (disch:=omega) only [seval,go_sem,cnd,intV,shV,convV,strV,hv];rfl) ?_)))<;>(try (((with_reducible show (_:Nat)≤_);omega))))
  all_goals (with_reducible refine Tri.loopU (fun (k:Nat)=>[(6, .sc (.int .i64 k)),(4, .any),(13, .any),(14, .any),(15, .any),(16, .any),(17, .any),(18, .any),(19, .any),(20, .any),(21, .any),(22, .any),(23, .any),(24, .any),(25, .any),(26, .any),(27, .any),(28, .any)]) (fun (k:Nat)=>[]) (fun (k:Nat)=>k≤l.length∧(l.drop k).any (fun q=>decide (com<q.commit))=l.any (fun q=>decide (com<q.commit))) (fun (k:Nat)=>l.length-k) (0) (⟨Nat.zero_le _,rfl⟩) (by intro _;simp (disch:=omega) only [seval,go_sem,cnd,intV,shV,convV,strV];rfl) (by intro _;simp (disch:=omega) only [seval,go_sem,cnd,intV,shV,convV,strV];rfl) (by (refine leQL_spec ?_);(try simp only [seval,go_sem]);done) (by (refine leQH_spec ?_);(try simp only [seval,go_sem]);done) (fun k hI=>?_))
  all_goals obtain ⟨hk,hf⟩:=hI
  by_cases hlt:k<l.length
  ·obtain ⟨x,hx⟩:=get_lt hlt
   have hx':=get_map rowP hx
   obtain ⟨g1,g2⟩:=any_step hx hf
   by_cases hc1:com<x.commit
   ·rw [if_pos (g1 (by simp [hc1]))]
    ((repeat' (first|(with_reducible refine ListD.nil ?_)|((with_reducible refine isListD ?_);first|(with_reducible refine ListD.step (by simp only [seval,go_sem,hx',rowP];rfl) ?_)|(with_reducible refine ListD.step (by simp (disch:=omega) only [seval,go_sem,cnd,intV,shV,convV,strV,hx',rowP];rfl) ?_))|(with_reducible refine isDrawn ?_;refine Tri.drawnD mix (by kernel_rfl) (by simp only [l_3,l_4];rfl) ?_)|(with_reducible refine isRet ?_;refine RetV (rs:=[.tmp 4]) (by with_unfolding_all rfl) rfl ?_<;>simp only [seval,go_sem]<;>(repeat' (with_reducible apply And.intro))<;>(try rfl))|(with_reducible (refine TVq (st:=[]) ?_))|simp only [seval,go_sem,hx',rowP]|(with_reducible refine oV_st (by simp (disch:=omega) only [seval,go_sem,cnd,intV,shV,convV,strV,hx',rowP];rfl) ?_)))<;>(try (fail)))
   ·have g3:=g2 (by simp [hc1])
    ((repeat' (first|(with_reducible refine ListD.nil ?_)|((with_reducible refine isListD ?_);first|(with_reducible refine ListD.step (by simp only [seval,go_sem,hx',rowP];rfl) ?_)|(with_reducible refine ListD.step (by simp (disch:=omega) only [seval,go_sem,cnd,intV,shV,convV,strV,hx',rowP];rfl) ?_))|(with_reducible refine isDrawn ?_;refine Tri.drawnD mix (by kernel_rfl) (by simp only [l_3,l_4];rfl) ?_)|(with_reducible (refine TVq (st:=[]) ?_))|simp only [seval,go_sem,hx',rowP]|(with_reducible refine oV_st (by simp (disch:=omega) only [seval,go_sem,cnd,intV,shV,convV,strV,hx',rowP];rfl) ?_)))<;>(try (fail)))
    all_goals (try (refine isNextM (k+1) (by (refine leQL_spec ?_);(try simp only [seval,go_sem]);first|((repeat' (with_reducible apply And.intro))<;>first|rfl);done) (by (refine leQH_spec ?_);(try simp only [seval,go_sem]);done) ?_ ?_<;>(try (omega))))
    all_goals (try exact ⟨by omega,g3⟩)
  ·rw [List.drop_eq_nil_of_le (by omega)] at hf
   rw [if_neg (by rw [← hf];simp)]
   by_cases hc2:p<totalP l 0
   ·rw [if_pos hc2]
    ((repeat' (first|(with_reducible refine ListD.nil ?_)|((with_reducible refine isListD ?_);first|(with_reducible refine ListD.step (by simp only [seval,go_sem];rfl) ?_)|((with_reducible refine isCallV ?_);((with_reducible (refine ListD.dE (by simp only [seval,go_sem];rfl) (by simp only [seval,go_sem];rfl) ?_));refine CallW.c (rtotal_calls ?_) (by simp only [seval,go_sem];rfl) ?_))|(with_reducible refine ListD.step (by simp (disch:=omega) only [seval,go_sem,cnd,intV,shV,convV,strV];rfl) ?_))|(with_reducible refine isDrawn ?_;refine Tri.drawnD mix (by kernel_rfl) (by simp only [l_3,l_4];rfl) ?_)|(with_reducible refine isRet ?_;refine RetV (rs:=[.tmp 4]) (by with_unfolding_all rfl) rfl ?_<;>simp only [seval,go_sem]<;>(repeat' (with_reducible apply And.intro))<;>(try rfl))|(with_reducible (refine TVq (st:=[]) ?_))|simp only [seval,go_sem]|(with_reducible refine oV_st (by simp (disch:=omega) only [seval,go_sem,cnd,intV,shV,convV,strV];rfl) ?_)))<;>(try (((with_reducible show (_:Nat)≤_);omega))))
   ·rw [if_neg hc2]
    ((repeat' (first|(with_reducible refine ListD.nil ?_)|((with_reducible refine isListD ?_);first|(with_reducible refine ListD.step (by simp only [seval,go_sem];rfl) ?_)|((with_reducible refine isCallV ?_);((with_reducible (refine ListD.dE (by simp only [seval,go_sem];rfl) (by simp only [seval,go_sem];rfl) ?_));refine CallW.c (rtotal_calls ?_) (by simp only [seval,go_sem];rfl) ?_))|(with_reducible refine ListD.step (by simp (disch:=omega) only [seval,go_sem,cnd,intV,shV,convV,strV];rfl) ?_))|(with_reducible refine isDrawn ?_;refine Tri.drawnD mix (by kernel_rfl) (by simp only [l_3,l_4];rfl) ?_)|(with_reducible refine isRet ?_;refine RetV (rs:=[.tmp 4]) (by with_unfolding_all rfl) rfl ?_<;>simp only [seval,go_sem]<;>(repeat' (with_reducible apply And.intro))<;>(try rfl))|(with_reducible (refine TVq (st:=[]) ?_))|simp only [seval,go_sem]|(with_reducible refine oV_st (by simp (disch:=omega) only [seval,go_sem,cnd,intV,shV,convV,strV];rfl) ?_)))<;>(try (((with_reducible show (_:Nat)≤_);omega))))
theorem validB_rng {l:List Bd} (h:validB l=0): ∀ b∈l,1≤b.obj∧1≤b.frm∧0≤b.to:=by
 intro b hb
 have h1:valid1 none l=0:=by
  unfold validB at h
  split at h
  ·contradiction
  ·rename_i q;simpa using q
 have:=valid1_all l none h1 b hb
 unfold badB at this
 split at this
 ·omega
 split at this
 ·omega
 omega
theorem inR_eq {n m:Int} (h:0≤n):(!inR n 0 m)=decide (m<n):=by
 unfold inR
 rw [decide_eq_true h,Bool.true_and,Bool.eq_iff_iff]
 simp
theorem inR_not {n m:Int} (h:0≤n):inR n 0 m = !decide (m<n):=by rw [← inR_eq h,Bool.not_not]
set_option maxRecDepth 100000 in set_option maxHeartbeats 6400000 in
theorem ckbinds_calls {a b c e p f g com:Int} {ob pn pg:List (List D)} {l:List Bd} (hl:l.length≤1000) (hcom:com≤9223372036854775807):ACalls Try.prog 38 [.agg [.sc (.int .i64 a), .sc (.int .i64 b), .sc (.int .i64 c), .sc (.int .i64 e), .sc (.int .i64 p), .sc (.int .i64 f), .sc (.int .i64 g)], .agg [.sc (.int .i64 com), .sl 2 ob, .sl 4 (l.map rowBd), .sl 2 pn, .sl 3 pg]] (.sc (.int .i64 (bindsE ⟨a,b,c,e,p,f,g⟩ com l))) []:=by
 unfold bindsE
 by_cases hv:validB l≠0
 ·rw [if_pos hv]
  refine of_tri [] [2,3,8,11,26,32] Try.func38 rfl call38 rfl (by decide) (by decide) rfl rfl Try.ntmps38 (by simp (disch:=omega) only [seval,go_sem,cnd,intV,shV,convV,strV,List.replicate,l_2,l_1];rfl) (by simp (disch:=omega) only [seval,go_sem,cnd,intV,shV,convV,strV,l_2,l_1];rfl) ?_
  ((repeat' (first|((with_reducible refine isTriD ?_);((with_reducible refine isCallD ?_);((with_reducible refine LVcall (st:=[]) ?_);simp only [seval,go_sem];(refine CallL.c (validd_calls ?_) ?_))))|(with_reducible refine isRet ?_;refine RetV (rs:=[.tmp 4]) (by with_unfolding_all rfl) rfl ?_<;>simp only [seval,go_sem]<;>(repeat' (with_reducible apply And.intro))<;>(try rfl))|(with_reducible (refine TVq (st:=[]) ?_))|simp only [seval,go_sem]|(with_reducible refine oV_st (by simp (disch:=omega) only [seval,go_sem,cnd,intV,shV,convV,strV];rfl) ?_)))<;>(try (((with_reducible show (_:Nat)≤_);omega))))
 ·simp only [ne_eq,Decidable.not_not] at hv
  rw [if_neg (by simp [hv])]
  have hr:=validB_rng hv
  have hor:=openN_rng l
  refine of_tri [] [2,3,8,11,26,32] Try.func38 rfl call38 rfl (by decide) (by decide) rfl rfl Try.ntmps38 (by simp (disch:=omega) only [seval,go_sem,cnd,intV,shV,convV,strV,List.replicate,l_2,l_1];rfl) (by simp (disch:=omega) only [seval,go_sem,cnd,intV,shV,convV,strV,l_2,l_1];rfl) ?_
  ((repeat' (first|((with_reducible refine isTriD ?_);((with_reducible refine isCallD ?_);((with_reducible refine LVcall (st:=[]) ?_);simp only [seval,go_sem,hv];(refine CallL.c (validd_calls ?_) ?_))))|(with_reducible (refine TVq (st:=[]) ?_))|simp only [seval,go_sem,hv]|(with_reducible refine oV_st (by simp (disch:=omega) only [seval,go_sem,cnd,intV,shV,convV,strV,hv];rfl) ?_)))<;>(try (((with_reducible show (_:Nat)≤_);omega))))
  all_goals (with_reducible refine Tri.loopU (fun (t:Nat×Int)=>[(18, .sc (.int .i64 t.1)),(6, .sc (.int .i64 t.2)),(4, .any),(8, .any),(19, .any),(20, .any),(21, .any),(22, .any),(23, .any),(24, .any),(25, .any),(26, .any),(27, .any),(28, .any),(29, .any),(30, .any),(31, .any),(32, .any),(33, .any),(34, .any),(35, .any),(36, .any),(37, .any),(38, .any),(39, .any)]) (fun (t:Nat×Int)=>[(8, .dead),(26, .dead),(32, .dead)]) (fun (t:Nat×Int)=>t.1≤l.length∧(0≤t.2∧t.2≤t.1)∧lateB com (l.drop t.1)=lateB com l∧t.2+openN (l.drop t.1)=openN l) (fun (t:Nat×Int)=>l.length-t.1) ((0,0)) (⟨Nat.zero_le _,by simp,rfl,by simp⟩) (by intro _;simp (disch:=omega) only [seval,go_sem,cnd,intV,shV,convV,strV];rfl) (by intro _;simp (disch:=omega) only [seval,go_sem,cnd,intV,shV,convV,strV];rfl) (by (refine leQL_spec ?_);(try simp only [seval,go_sem]);done) (by (refine leQH_spec ?_);(try simp only [seval,go_sem]);done) (fun t hI=>?_))
  all_goals
   obtain ⟨k,n⟩:=t
   obtain ⟨hk,⟨hn0,hn1⟩,hf,ho⟩:=hI
   simp only at hk hn0 hn1 hf ho
   by_cases hlt:k<l.length
   ·obtain ⟨x,hx⟩:=get_lt hlt
    have hx':=get_map rowBd hx
    obtain ⟨_,hr2,hr3⟩:=hr x (List.mem_of_getElem? hx)
    have i1:=inR_not (n:=x.frm) (m:=com) (by omega)
    have i2:=inR_not (n:=x.to) (m:=com) (by omega)
    obtain ⟨g1,g2⟩:=any_step hx hf
    rw [drop_get hx,openN] at ho
    by_cases hc1:com<x.frm
    ·rw [if_pos (show lateB com l=true from g1 (by simp [hc1]))]
     rw [decide_eq_true hc1,Bool.not_true] at i1
     ((repeat' (first|((with_reducible refine isTriD ?_);((with_reducible refine isCallD ?_);((with_reducible refine LVcall (st:=[]) ?_);simp only [seval,go_sem,hx',rowBd,i1];(refine CallL.c (outside_calls) ?_))))|(with_reducible refine isRet ?_;refine RetV (rs:=[.tmp 4]) (by with_unfolding_all rfl) rfl ?_<;>simp only [seval,go_sem]<;>(repeat' (with_reducible apply And.intro))<;>(try rfl))|(with_reducible (refine TVq (st:=[]) ?_))|simp only [seval,go_sem,hx',rowBd,i1]|(with_reducible refine oV_st (by simp (disch:=omega) only [seval,go_sem,cnd,intV,shV,convV,strV,hx',rowBd,i1];rfl) ?_)))<;>(try (fail)))
    ·rw [decide_eq_false hc1,Bool.not_false] at i1
     by_cases hc2:com<x.to
     ·rw [if_pos (show lateB com l=true from g1 (by simp [hc2]))]
      rw [decide_eq_true hc2,Bool.not_true] at i2
      ((repeat' (first|((with_reducible refine isTriD ?_);((with_reducible refine isCallD ?_);((with_reducible refine LVcall (st:=[]) ?_);simp only [seval,go_sem,hx',rowBd,i1,i2];(refine CallL.c (outside_calls) ?_))))|(with_reducible refine isRet ?_;refine RetV (rs:=[.tmp 4]) (by with_unfolding_all rfl) rfl ?_<;>simp only [seval,go_sem]<;>(repeat' (with_reducible apply And.intro))<;>(try rfl))|(with_reducible (refine TVq (st:=[]) ?_))|simp only [seval,go_sem,hx',rowBd,i1,i2]|(with_reducible refine oV_st (by simp (disch:=omega) only [seval,go_sem,cnd,intV,shV,convV,strV,hx',rowBd,i1,i2];rfl) ?_)))<;>(try (fail)))
     ·rw [decide_eq_false hc2,Bool.not_false] at i2
      have g3:=g2 (by simp [hc1,hc2])
      by_cases hc3:x.to=0
      ·rw [if_pos hc3] at ho
       rw [hc3] at i2
       (all_goals (try have hZ:=(And.intro hx' hc3));(repeat' (first|((with_reducible refine isTriD ?_);((with_reducible refine isCallD ?_);((with_reducible refine LVcall (st:=[]) ?_);simp only [seval,go_sem,rowBd,i1,i2,hZ];(refine CallL.c (outside_calls) ?_))))|(with_reducible (refine TVq (st:=[]) ?_))|simp only [seval,go_sem,rowBd,i1,i2,hZ]|(with_reducible refine oV_st (by simp (disch:=omega) only [seval,go_sem,cnd,intV,shV,convV,strV,rowBd,i1,i2,hZ];rfl) ?_)))<;>(try (fail));all_goals (try clear hZ))
       all_goals (try (refine isNextM ((k+1,n+1)) (by (refine leQL_spec ?_);(try simp only [seval,go_sem]);first|((repeat' (with_reducible apply And.intro))<;>first|rfl);done) (by (refine leQH_spec ?_);(try simp only [seval,go_sem]);done) ?_ ?_<;>(try (omega))))
       all_goals (try exact ⟨by simp only;omega,⟨by simp only;omega,by simp only;omega⟩,g3,by simp only;omega⟩)
      ·rw [if_neg hc3] at ho
       ((repeat' (first|((with_reducible refine isTriD ?_);((with_reducible refine isCallD ?_);((with_reducible refine LVcall (st:=[]) ?_);simp only [seval,go_sem,hx',rowBd,i1,i2];(refine CallL.c (outside_calls) ?_))))|(with_reducible (refine TVq (st:=[]) ?_))|simp only [seval,go_sem,hx',rowBd,i1,i2]|(with_reducible refine oV_st (by simp (disch:=omega) only [seval,go_sem,cnd,intV,shV,convV,strV,hx',rowBd,i1,i2];rfl) ?_)))<;>(try (fail)))
       all_goals (try (refine isNextM ((k+1,n)) (by (refine leQL_spec ?_);(try simp only [seval,go_sem]);first|((repeat' (with_reducible apply And.intro))<;>first|rfl);done) (by (refine leQH_spec ?_);(try simp only [seval,go_sem]);done) ?_ ?_<;>(try (omega))))
       all_goals (try exact ⟨by simp only;omega,⟨by simp only;omega,by simp only;omega⟩,g3,by simp only;omega⟩)
   ·rw [List.drop_eq_nil_of_le (by omega)] at hf ho
    rw [if_neg (by rw [← hf];simp [lateB])]
    simp only [openN,Int.add_zero] at ho
    subst n
    by_cases hc4:b<openN l
    ·rw [if_pos hc4]
     ((repeat' (first|(with_reducible refine isRet ?_;refine RetV (rs:=[.tmp 4]) (by with_unfolding_all rfl) rfl ?_<;>simp only [seval,go_sem]<;>(repeat' (with_reducible apply And.intro))<;>(try rfl))|(with_reducible (refine TVq (st:=[]) ?_))|simp only [seval,go_sem]|(with_reducible refine oV_st (by simp (disch:=omega) only [seval,go_sem,cnd,intV,shV,convV,strV];rfl) ?_)))<;>(try (fail)))
    ·rw [if_neg hc4]
     ((repeat' (first|(with_reducible refine isRet ?_;refine RetV (rs:=[.tmp 4]) (by with_unfolding_all rfl) rfl ?_<;>simp only [seval,go_sem]<;>(repeat' (with_reducible apply And.intro))<;>(try rfl))|(with_reducible (refine TVq (st:=[]) ?_))|simp only [seval,go_sem]|(with_reducible refine oV_st (by simp (disch:=omega) only [seval,go_sem,cnd,intV,shV,convV,strV];rfl) ?_)))<;>(try (fail)))
set_option maxRecDepth 100000 in set_option maxHeartbeats 6400000 in
theorem rckbinds_calls {a b c e p f g com:Int} {ob pn pg:List (List D)} {l:List Bd} (hl:l.length≤1000):ACalls Try.prog 48 [.agg [.sc (.int .i64 a), .sc (.int .i64 b), .sc (.int .i64 c), .sc (.int .i64 e), .sc (.int .i64 p), .sc (.int .i64 f), .sc (.int .i64 g)], .agg [.sc (.int .i64 com), .sl 2 ob, .sl 4 (l.map rowBd), .sl 2 pn, .sl 3 pg]] (.sc (.int .i64 (bindsE ⟨a,b,c,e,p,f,g⟩ com l))) []:=by
 unfold bindsE
 by_cases hv:validB l≠0
 ·rw [if_pos hv]
  refine of_tri [] [2,3,10] Try.func48 rfl call48 rfl (by decide) (by decide) rfl rfl Try.ntmps48 (by simp (disch:=omega) only [seval,go_sem,cnd,intV,shV,convV,strV,List.replicate,l_2,l_1];rfl) (by simp (disch:=omega) only [seval,go_sem,cnd,intV,shV,convV,strV,l_2,l_1];rfl) ?_
  ((repeat' (first|((with_reducible refine isTriD ?_);((with_reducible refine isCallD ?_);((with_reducible refine LVcall (st:=[]) ?_);simp only [seval,go_sem];(refine CallL.c (rvalidd_calls ?_) ?_))))|(with_reducible refine isRet ?_;refine RetV (rs:=[.tmp 4]) (by with_unfolding_all rfl) rfl ?_<;>simp only [seval,go_sem]<;>(repeat' (with_reducible apply And.intro))<;>(try rfl))|(with_reducible (refine TVq (st:=[]) ?_))|simp only [seval,go_sem]|(with_reducible refine oV_st (by simp (disch:=omega) only [seval,go_sem,cnd,intV,shV,convV,strV];rfl) ?_)))<;>(try (((with_reducible show (_:Nat)≤_);omega))))
 ·simp only [ne_eq,Decidable.not_not] at hv
  rw [if_neg (by simp [hv])]
  have hor:=openN_rng l
  refine of_tri [] [2,3,10] Try.func48 rfl call48 rfl (by decide) (by decide) rfl rfl Try.ntmps48 (by simp (disch:=omega) only [seval,go_sem,cnd,intV,shV,convV,strV,List.replicate,l_2,l_1];rfl) (by simp (disch:=omega) only [seval,go_sem,cnd,intV,shV,convV,strV,l_2,l_1];rfl) ?_
  ((repeat' (first|((with_reducible refine isTriD ?_);((with_reducible refine isCallD ?_);((with_reducible refine LVcall (st:=[]) ?_);simp only [seval,go_sem,hv];(refine CallL.c (rvalidd_calls ?_) ?_))))|(with_reducible (refine TVq (st:=[]) ?_))|simp only [seval,go_sem,hv]|(with_reducible refine oV_st (by simp (disch:=omega) only [seval,go_sem,cnd,intV,shV,convV,strV,hv];rfl) ?_)))<;>(try (((with_reducible show (_:Nat)≤_);omega))))
  all_goals (with_reducible refine Tri.loopU (fun (t:Nat×Int)=>[(7, .sc (.int .i64 t.1)),(6, .sc (.int .i64 t.2)),(4, .any),(14, .any),(15, .any),(16, .any),(17, .any),(18, .any),(19, .any),(20, .any),(21, .any),(22, .any),(23, .any),(24, .any),(25, .any),(26, .any),(27, .any),(28, .any),(29, .any),(30, .any),(31, .any),(32, .any),(33, .any),(34, .any),(35, .any),(36, .any),(37, .any),(38, .any),(39, .any),(40, .any),(41, .any),(42, .any),(43, .any),(44, .any),(45, .any),(46, .any),(47, .any),(48, .any),(49, .any)]) (fun (t:Nat×Int)=>[]) (fun (t:Nat×Int)=>t.1≤l.length∧(0≤t.2∧t.2≤t.1)∧lateB com (l.drop t.1)=lateB com l∧t.2+openN (l.drop t.1)=openN l) (fun (t:Nat×Int)=>l.length-t.1) ((0,0)) (⟨Nat.zero_le _,by simp,rfl,by simp⟩) (by intro _;simp (disch:=omega) only [seval,go_sem,cnd,intV,shV,convV,strV];rfl) (by intro _;simp (disch:=omega) only [seval,go_sem,cnd,intV,shV,convV,strV];rfl) (by (refine leQL_spec ?_);(try simp only [seval,go_sem]);done) (by (refine leQH_spec ?_);(try simp only [seval,go_sem]);done) (fun t hI=>?_))
  all_goals
   obtain ⟨k,n⟩:=t
   obtain ⟨hk,⟨hn0,hn1⟩,hf,ho⟩:=hI
   simp only at hk hn0 hn1 hf ho
   by_cases hlt:k<l.length
   ·obtain ⟨x,hx⟩:=get_lt hlt
    have hx':=get_map rowBd hx
    obtain ⟨g1,g2⟩:=any_step hx hf
    rw [drop_get hx,openN] at ho
    by_cases hc1:com<x.frm
    ·rw [if_pos (show lateB com l=true from g1 (by simp [hc1]))]
     ((repeat' (first|(with_reducible refine ListD.nil ?_)|((with_reducible refine isListD ?_);first|(with_reducible refine ListD.step (by simp only [seval,go_sem,hx',rowBd];rfl) ?_)|(with_reducible refine ListD.step (by simp (disch:=omega) only [seval,go_sem,cnd,intV,shV,convV,strV,hx',rowBd];rfl) ?_))|(with_reducible refine isDrawn ?_;refine Tri.drawnD mix (by kernel_rfl) (by simp only [l_3,l_4];rfl) ?_)|(with_reducible refine isRet ?_;refine RetV (rs:=[.tmp 4]) (by with_unfolding_all rfl) rfl ?_<;>simp only [seval,go_sem]<;>(repeat' (with_reducible apply And.intro))<;>(try rfl))|(with_reducible (refine TVq (st:=[]) ?_))|simp only [seval,go_sem,hx',rowBd]|(with_reducible refine oV_st (by simp (disch:=omega) only [seval,go_sem,cnd,intV,shV,convV,strV,hx',rowBd];rfl) ?_)))<;>(try (fail)))
    ·by_cases hc2:com<x.to
     ·rw [if_pos (show lateB com l=true from g1 (by simp [hc2]))]
      ((repeat' (first|(with_reducible refine ListD.nil ?_)|((with_reducible refine isListD ?_);first|(with_reducible refine ListD.step (by simp only [seval,go_sem,hx',rowBd];rfl) ?_)|(with_reducible refine ListD.step (by simp (disch:=omega) only [seval,go_sem,cnd,intV,shV,convV,strV,hx',rowBd];rfl) ?_))|(with_reducible refine isDrawn ?_;refine Tri.drawnD mix (by kernel_rfl) (by simp only [l_3,l_4];rfl) ?_)|(with_reducible refine isRet ?_;refine RetV (rs:=[.tmp 4]) (by with_unfolding_all rfl) rfl ?_<;>simp only [seval,go_sem]<;>(repeat' (with_reducible apply And.intro))<;>(try rfl))|(with_reducible (refine TVq (st:=[]) ?_))|simp only [seval,go_sem,hx',rowBd]|(with_reducible refine oV_st (by simp (disch:=omega) only [seval,go_sem,cnd,intV,shV,convV,strV,hx',rowBd];rfl) ?_)))<;>(try (fail)))
     ·have g3:=g2 (by simp [hc1,hc2])
      by_cases hc3:x.to=0
      ·rw [if_pos hc3] at ho
       (all_goals (try have hZ:=(And.intro hx' hc3));(repeat' (first|(with_reducible refine ListD.nil ?_)|((with_reducible refine isListD ?_);first|(with_reducible refine ListD.step (by simp only [seval,go_sem,rowBd,hZ];rfl) ?_)|(with_reducible refine ListD.step (by simp (disch:=omega) only [seval,go_sem,cnd,intV,shV,convV,strV,rowBd,hZ];rfl) ?_))|(with_reducible refine isDrawn ?_;refine Tri.drawnD mix (by kernel_rfl) (by simp only [l_3,l_4];rfl) ?_)|(with_reducible (refine TVq (st:=[]) ?_))|simp only [seval,go_sem,rowBd,hZ]|(with_reducible refine oV_st (by simp (disch:=omega) only [seval,go_sem,cnd,intV,shV,convV,strV,rowBd,hZ];rfl) ?_)))<;>(try (fail));all_goals (try clear hZ))
       all_goals (try (refine isNextM ((k+1,n+1)) (by (refine leQL_spec ?_);(try simp only [seval,go_sem]);first|((repeat' (with_reducible apply And.intro))<;>first|rfl);done) (by (refine leQH_spec ?_);(try simp only [seval,go_sem]);done) ?_ ?_<;>(try (omega))))
       all_goals (try exact ⟨by simp only;omega,⟨by simp only;omega,by simp only;omega⟩,g3,by simp only;omega⟩)
      ·rw [if_neg hc3] at ho
       ((repeat' (first|(with_reducible refine ListD.nil ?_)|((with_reducible refine isListD ?_);first|(with_reducible refine ListD.step (by simp only [seval,go_sem,hx',rowBd];rfl) ?_)|(with_reducible refine ListD.step (by simp (disch:=omega) only [seval,go_sem,cnd,intV,shV,convV,strV,hx',rowBd];rfl) ?_))|(with_reducible refine isDrawn ?_;refine Tri.drawnD mix (by kernel_rfl) (by simp only [l_3,l_4];rfl) ?_)|(with_reducible (refine TVq (st:=[]) ?_))|simp only [seval,go_sem,hx',rowBd]|(with_reducible refine oV_st (by simp (disch:=omega) only [seval,go_sem,cnd,intV,shV,convV,strV,hx',rowBd];rfl) ?_)))<;>(try (fail)))
       all_goals (try (refine isNextM ((k+1,n)) (by (refine leQL_spec ?_);(try simp only [seval,go_sem]);first|((repeat' (with_reducible apply And.intro))<;>first|rfl);done) (by (refine leQH_spec ?_);(try simp only [seval,go_sem]);done) ?_ ?_<;>(try (omega))))
       all_goals (try exact ⟨by simp only;omega,⟨by simp only;omega,by simp only;omega⟩,g3,by simp only;omega⟩)
   ·rw [List.drop_eq_nil_of_le (by omega)] at hf ho
    rw [if_neg (by rw [← hf];simp [lateB])]
    simp only [openN,Int.add_zero] at ho
    subst n
    by_cases hc4:b<openN l
    ·rw [if_pos hc4]
     ((repeat' (first|(with_reducible refine isRet ?_;refine RetV (rs:=[.tmp 4]) (by with_unfolding_all rfl) rfl ?_<;>simp only [seval,go_sem]<;>(repeat' (with_reducible apply And.intro))<;>(try rfl))|(with_reducible (refine TVq (st:=[]) ?_))|simp only [seval,go_sem]|(with_reducible refine oV_st (by simp (disch:=omega) only [seval,go_sem,cnd,intV,shV,convV,strV];rfl) ?_)))<;>(try (fail)))
    ·rw [if_neg hc4]
     ((repeat' (first|(with_reducible refine isRet ?_;refine RetV (rs:=[.tmp 4]) (by with_unfolding_all rfl) rfl ?_<;>simp only [seval,go_sem]<;>(repeat' (with_reducible apply And.intro))<;>(try rfl))|(with_reducible (refine TVq (st:=[]) ?_))|simp only [seval,go_sem]|(with_reducible refine oV_st (by simp (disch:=omega) only [seval,go_sem,cnd,intV,shV,convV,strV];rfl) ?_)))<;>(try (fail)))
end Go.Proofs.Ytmgodadmafcliaa
