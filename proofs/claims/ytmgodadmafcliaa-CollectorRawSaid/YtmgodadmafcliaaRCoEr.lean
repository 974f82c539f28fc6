/- Collector: the law's known. -/
import Derived.Test.YtmgodadmafcliaaRCoDr
set_option linter.unusedSimpArgs false
set_option linter.unusedVariables false
namespace Go.Proofs.Ytmgodadmafcliaa
open Go.RowKit Go.Avm
theorem weak1B {f:FuncId} {r:D} {ds ds':List D} (h:ACalls Try.prog f [.agg ds] r []) (hw: ∀ (w:World) (st:Nat→Prop) (ρ:Nat→Option (Option Nat)) (vs:List Value),RL w st ρ ds' vs→RL w st ρ ds vs):ACalls Try.prog f [.agg ds'] r []:=by
 obtain ⟨h1,h2⟩:=h
 refine ⟨h1,fun w st ρ vs hst hin hargs=>h2 w st ρ vs hst hin ?_⟩
 simp only [RL] at hargs ⊢
 obtain ⟨a,l,rfl,ha,rfl⟩:=hargs
 simp only [R] at ha
 obtain ⟨cs,rfl,hc⟩:=ha
 exact ⟨_,_,rfl,by simp only [R];exact ⟨cs,rfl,hw w st ρ _ hc⟩,rfl⟩
theorem nilR1B {w:World} {st:Nat→Prop} {ρ:Nat→Option (Option Nat)} {k:Nat} {v:Value} (h:R w st ρ (.sc (.slice none 0 0)) v):R w st ρ (.sl k []) v:=by
 simp only [R] at h ⊢
 exact ⟨none,0,h,Nat.le_refl _,Nat.zero_le _, .inl trivial⟩
theorem dmk_weakB (c:Int) (o:List (List D)) (w:World) (st:Nat→Prop) (ρ:Nat→Option (Option Nat)) (vs:List Value) (h:RL w st ρ [.sc (.int .i64 c), .sl 2 o, .sc (.slice none 0 0), .sc (.slice none 0 0), .sc (.slice none 0 0)] vs):RL w st ρ [.sc (.int .i64 c), .sl 2 o, .sl 4 [], .sl 2 [], .sl 3 []] vs:=by
 simp only [RL] at h ⊢
 obtain ⟨a,_,rfl,ha,b,_,rfl,hb,c,_,rfl,hc,d,_,rfl,hd,e,_,rfl,he,rfl⟩:=h
 exact ⟨a,_,rfl,ha,b,_,rfl,hb,c,_,rfl,nilR1B hc,d,_,rfl,nilR1B hd,e,_,rfl,nilR1B he,rfl⟩
-- CON sketchstore/sketchstorelaw20.known | known20B_calls | 0
def obsKB:List Ob:=[⟨1,[⟨1,2,0,[4]⟩,⟨2,0,0,[7]⟩]⟩]
theorem kn_1B:garbR [] (versR obsKB [])=[⟨1,1⟩]:=by decide +kernel
theorem kn_2B:reachR [] (versR obsKB [])=[7]:=by decide +kernel
theorem kn_3B: ∀ x∈versR obsKB [],x.v.pages.length≤1000:=by decide +kernel
theorem kn_4B:(obsKB.flatMap vnsO).length≤100:=by decide +kernel
theorem kn_0B:obsKB.map rowOb=[[.sc (.int .i64 1), .sl 4 [[.sc (.int .i64 1), .sc (.int .i64 2), .sc (.int .i64 0), .sl 1 [[.sc (.int .i64 4)]]],[.sc (.int .i64 2), .sc (.int .i64 0), .sc (.int .i64 0), .sl 1 [[.sc (.int .i64 7)]]]]]]:=rfl
set_option maxRecDepth 100000 in set_option maxHeartbeats 6400000 in
theorem known20B_calls:ACalls Try.prog 21 [] (.sc (.bool true)) []:=by
 have c1:=weak1B (garbageB_calls (com:=2) (os:=obsKB) (ps:=[]) (bd:=[]) (pg:=[]) (by decide) kn_4B (by decide)) (dmk_weakB _ _)
 have c2:=weak1B (reachB_calls (com:=2) (os:=obsKB) (ps:=[]) (bd:=[]) (pg:=[]) (by decide) kn_4B (by decide) kn_3B) (dmk_weakB _ _)
 rw [kn_1B,kn_0B] at c1
 rw [kn_2B,kn_0B] at c2
 simp only [l_3,l_4,rowVc,rowI] at c1 c2
 refine of_tri [] [1,4,6,8,10,13,15] Try.func21 rfl call21 rfl (by decide) (by decide) rfl rfl Try.ntmps21 (by simp (disch:=omega) only [seval,go_sem,cnd,intV,shV,convV,strV,List.replicate,l_2,l_1];rfl) (by simp (disch:=omega) only [seval,go_sem,cnd,intV,shV,convV,strV,l_2,l_1];rfl) ?_
 ((repeat' (first|(with_reducible refine isCv ?_;intro hc;(try simp only [bls,reduceCtorEq] at hc);(try (exfalso;omega)))|((with_reducible refine isTriD ?_);first|(with_reducible refine TriD.frz 4 (by simp only [seval,go_sem];rfl) (by simp only [seval,go_sem];rfl) ?_;refine LVs (st:=[24,29,35]) ?_)|(with_reducible refine TriD.frz 6 (by simp only [seval,go_sem];rfl) (by simp only [seval,go_sem];rfl) ?_;refine LVs (st:=[24,29,35]) ?_)|(with_reducible refine TriD.frz 8 (by simp only [seval,go_sem];rfl) (by simp only [seval,go_sem];rfl) ?_;refine LVs (st:=[24,29,35]) ?_)|(with_reducible refine TriD.frz 10 (by simp only [seval,go_sem];rfl) (by simp only [seval,go_sem];rfl) ?_;refine LVs (st:=[24,29,35]) ?_)|((with_reducible refine isCallD ?_);((with_reducible refine LVcall (st:=[24,29,35]) ?_);simp only [seval,go_sem];first|(refine CallL.c (c1) ?_;simp only [seval,go_sem];(fail_if_success (with_reducible refine isResV ?_)))|(refine CallL.c (c2) ?_;simp only [seval,go_sem];(fail_if_success (with_reducible refine isResV ?_)))|(refine CallL.c (garbage_calls ?_ ?_ ?_) ?_;simp only [seval,go_sem];(fail_if_success (with_reducible refine isResV ?_)))|(refine CallL.c (garbageB_calls ?_ ?_ ?_) ?_;simp only [seval,go_sem];(fail_if_success (with_reducible refine isResV ?_)))|(refine CallL.c (reach_calls ?_ ?_ ?_ ?_) ?_;simp only [seval,go_sem];(fail_if_success (with_reducible refine isResV ?_)))|(refine CallL.c (reachB_calls ?_ ?_ ?_ ?_) ?_;simp only [seval,go_sem];(fail_if_success (with_reducible refine isResV ?_)))))|((with_reducible first|refine TriD.step (by simp only [seval,go_sem];rfl) ?_|refine TriD.step (by simp (disch:=omega) only [seval,go_sem,cnd,intV,shV,convV,strV];rfl) ?_);refine LVs (st:=[24,29,35]) ?_)|(with_reducible (first|refine isAnd2 25 ?_|refine isAnd2 30 ?_|refine isAnd2 36 ?_);with_reducible refine TriD.and2 (by simp only [seval,go_sem];first|done|rfl) (by simp only [seval,go_sem];first|done|rfl) (by decide) (by simp only [seval,go_sem,List.length_cons,List.length_nil]) (by simp only [seval,go_sem]) (by first|(simp only [seval,go_sem];rfl)|(simp (disch:=omega) only [seval,go_sem,cnd,intV,shV,convV,strV];rfl)) (by simp only [seval,go_sem];rfl) ?_;refine LVs (st:=[24,29,35]) ?_))|(with_reducible refine isRet ?_;refine RetV (rs:=[.tmp 0]) (by with_unfolding_all rfl) rfl ?_<;>simp only [seval,go_sem]<;>(repeat' (with_reducible apply And.intro))<;>(try rfl))|(with_reducible (first|refine TVq (st:=[24,29,35]) ?_|refine TVb (st:=[24,29,35]) ?_|refine TVc (st:=[24,29,35]) ?_|refine TVr (st:=[24,29,35]) ?_))|simp only [seval,go_sem]|(with_reducible refine oV_st (by simp (disch:=omega) only [seval,go_sem,cnd,intV,shV,convV,strV];rfl) ?_)|(with_reducible refine gV_split (by simp only [seval,go_sem];rfl) (by simp only [seval,go_sem];rfl) (by simp only [seval,go_sem];first|done|rfl) (cvI ?_) (cvI ?_) (by simp only [seval,go_sem]))|(with_reducible refine cV_split (cvI ?_) (cvI ?_))))<;>(try (first|(with_reducible assumption)|((with_reducible show (_:Int)≤_);omega)|((with_reducible show (_:Nat)≤_);omega))))
end Go.Proofs.Ytmgodadmafcliaa
