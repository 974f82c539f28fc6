/- The configurations of the laws. -/
import Derived.Test.YteemiclhnfkekaaZDiB
import Derived.Test.YteemiclhnfkekaaZBase
import Derived.Test.YteemiclhnfkekaaZAvmU
import Derived.Test.YteemiclhnfkekaaZCov
set_option linter.unusedSimpArgs false
set_option linter.unusedVariables false
namespace Go.Proofs.Yteemiclhnfkekaa
open Go.RowKit Go.Avm
/-- In a region whose order is open, an own row stays from now on. -/
theorem anyP_frz {P:Program} {ops:Array Oper} {K:St→Prop} {pl:Pl} {fuel:Nat} {listed:Array Bool} {σ σ':St} (o:Nat) {k:Nat} {rows:List (List D)} (hg:hget σ.heap o = .row k rows) (he:σ.frz o k rows=σ') (hn:AnyP P ops K pl fuel listed σ'):AnyP P ops K pl fuel listed σ:=by
 subst he
 unfold AnyP at hn ⊢
 exact fun hk=>AnyG.imp (Imp.freeze σ o k rows hg) (hn hk)
def cfgK (n:Int):Cf:=⟨2+n%2,2+n/2%2,if n/4%4=0 then 60 else if n/4%4=1 then 12 else if n/4%4=2 then 6 else 30,if n/16%4=0 then 8 else if n/16%4=1 then 16 else if n/16%4=2 then 40 else 200,if n/64%4=0 then 8 else if n/64%4=1 then 3 else if n/64%4=2 then 2 else 5,if n/256%4=0 then 100 else if n/256%4=1 then 6 else if n/256%4=2 then 30 else 12,1+n/1024%4⟩
theorem pick4 (m a b c d:Int):([[.sc (.int .i64 a)],[.sc (.int .i64 b)],[.sc (.int .i64 c)],[.sc (.int .i64 d)]]:List (List D))[(m%4).toNat]? = some [.sc (.int .i64 (if m%4=0 then a else if m%4=1 then b else if m%4=2 then c else d))]:=by
 have:m%4=0∨m%4=1∨m%4=2∨m%4=3:=by omega
 rcases this with h|h|h|h<;>rw [h]<;>rfl
set_option maxRecDepth 100000 in set_option maxHeartbeats 6400000 in
theorem cfgk_calls {n:Int} (h0:0≤n) (h1:n≤1000000):ACalls Try.prog 23 [.sc (.int .i64 n)] (.agg (dCf (cfgK n))) []:=by
 have p1:=pick4 (n/4) 60 12 6 30
 have p2:=pick4 (n/16) 8 16 40 200
 have p3:=pick4 (n/64) 8 3 2 5
 have p4:=pick4 (n/256) 100 6 30 12
 simp only [cfgK,dCf]
 generalize (if n/4%4=0 then (60:Int) else if n/4%4=1 then 12 else if n/4%4=2 then 6 else 30)=a1 at *
 generalize (if n/16%4=0 then (8:Int) else if n/16%4=1 then 16 else if n/16%4=2 then 40 else 200)=a2 at *
 generalize (if n/64%4=0 then (8:Int) else if n/64%4=1 then 3 else if n/64%4=2 then 2 else 5)=a3 at *
 generalize (if n/256%4=0 then (100:Int) else if n/256%4=1 then 6 else if n/256%4=2 then 30 else 12)=a4 at *
 refine of_tri [] [2,10,16,22,28] Try.func23 rfl call23 rfl (by decide) (by decide) rfl rfl Try.ntmps23 (by simp (disch:=omega) only [seval,go_sem,cnd,intV,shV,convV,strV,List.replicate,l_2,l_1];rfl) (by simp (disch:=omega) only [seval,go_sem,cnd,intV,shV,convV,strV,l_2,l_1];rfl) ?_
 ((repeat' (first|((with_reducible refine isTriD ?_);((with_reducible first|refine TriD.step (by simp only [seval,go_sem,p1,p2,p3,p4];rfl) ?_);refine LVs (st:=[]) ?_))|(with_reducible refine isDrawnN 1 ?_;refine Tri.mixedP 1 mix 37 rfl (.f 0 <| .f 1 <| .f 2 <| .f 3 <| .f 4 <| .f 5 <| .f 6 <| .f 8 <| .f 9 <| .f 10 <| .f 14 <| .f 15 <| .f 16 <| .f 20 <| .f 21 <| .f 22 <| .f 26 <| .f 27 <| .f 28 <| .f 31 <| .f 32 <| .f 33 <| .f 34 <| .a <| .b 7 (.f 11 <| .r 12 <| .a <| .b 13 (.f 17 <| .r 18 <| .a <| .b 19 (.f 23 <| .r 24 <| .a <| .b 25 (.f 29 <| .r 30 <| .a <| .b 35 (.a <| .b 36 (.d) .e) .e) .e) <| .b 25 (.f 29 <| .r 30 <| .a <| .b 19 (.f 23 <| .r 24 <| .a <| .b 35 (.a <| .b 36 (.d) .e) .e) .e) .e) <| .b 19 (.f 23 <| .r 24 <| .a <| .b 13 (.f 17 <| .r 18 <| .a <| .b 25 (.f 29 <| .r 30 <| .a <| .b 35 (.a <| .b 36 (.d) .e) .e) .e) <| .b 25 (.f 29 <| .r 30 <| .a <| .b 13 (.f 17 <| .r 18 <| .a <| .b 35 (.a <| .b 36 (.d) .e) .e) .e) .e) <| .b 25 (.f 29 <| .r 30 <| .a <| .b 13 (.f 17 <| .r 18 <| .a <| .b 19 (.f 23 <| .r 24 <| .a <| .b 35 (.a <| .b 36 (.d) .e) .e) .e) <| .b 19 (.f 23 <| .r 24 <| .a <| .b 13 (.f 17 <| .r 18 <| .a <| .b 35 (.a <| .b 36 (.d) .e) .e) .e) .e) .e) <| .b 13 (.f 17 <| .r 18 <| .a <| .b 7 (.f 11 <| .r 12 <| .a <| .b 19 (.f 23 <| .r 24 <| .a <| .b 25 (.f 29 <| .r 30 <| .a <| .b 35 (.a <| .b 36 (.d) .e) .e) .e) <| .b 25 (.f 29 <| .r 30 <| .a <| .b 19 (.f 23 <| .r 24 <| .a <| .b 35 (.a <| .b 36 (.d) .e) .e) .e) .e) <| .b 19 (.f 23 <| .r 24 <| .a <| .b 7 (.f 11 <| .r 12 <| .a <| .b 25 (.f 29 <| .r 30 <| .a <| .b 35 (.a <| .b 36 (.d) .e) .e) .e) <| .b 25 (.f 29 <| .r 30 <| .a <| .b 7 (.f 11 <| .r 12 <| .a <| .b 35 (.a <| .b 36 (.d) .e) .e) .e) .e) <| .b 25 (.f 29 <| .r 30 <| .a <| .b 7 (.f 11 <| .r 12 <| .a <| .b 19 (.f 23 <| .r 24 <| .a <| .b 35 (.a <| .b 36 (.d) .e) .e) .e) <| .b 19 (.f 23 <| .r 24 <| .a <| .b 7 (.f 11 <| .r 12 <| .a <| .b 35 (.a <| .b 36 (.d) .e) .e) .e) .e) .e) <| .b 19 (.f 23 <| .r 24 <| .a <| .b 7 (.f 11 <| .r 12 <| .a <| .b 13 (.f 17 <| .r 18 <| .a <| .b 25 (.f 29 <| .r 30 <| .a <| .b 35 (.a <| .b 36 (.d) .e) .e) .e) <| .b 25 (.f 29 <| .r 30 <| .a <| .b 13 (.f 17 <| .r 18 <| .a <| .b 35 (.a <| .b 36 (.d) .e) .e) .e) .e) <| .b 13 (.f 17 <| .r 18 <| .a <| .b 7 (.f 11 <| .r 12 <| .a <| .b 25 (.f 29 <| .r 30 <| .a <| .b 35 (.a <| .b 36 (.d) .e) .e) .e) <| .b 25 (.f 29 <| .r 30 <| .a <| .b 7 (.f 11 <| .r 12 <| .a <| .b 35 (.a <| .b 36 (.d) .e) .e) .e) .e) <| .b 25 (.f 29 <| .r 30 <| .a <| .b 7 (.f 11 <| .r 12 <| .a <| .b 13 (.f 17 <| .r 18 <| .a <| .b 35 (.a <| .b 36 (.d) .e) .e) .e) <| .b 13 (.f 17 <| .r 18 <| .a <| .b 7 (.f 11 <| .r 12 <| .a <| .b 35 (.a <| .b 36 (.d) .e) .e) .e) .e) .e) <| .b 25 (.f 29 <| .r 30 <| .a <| .b 7 (.f 11 <| .r 12 <| .a <| .b 13 (.f 17 <| .r 18 <| .a <| .b 19 (.f 23 <| .r 24 <| .a <| .b 35 (.a <| .b 36 (.d) .e) .e) .e) <| .b 19 (.f 23 <| .r 24 <| .a <| .b 13 (.f 17 <| .r 18 <| .a <| .b 35 (.a <| .b 36 (.d) .e) .e) .e) .e) <| .b 13 (.f 17 <| .r 18 <| .a <| .b 7 (.f 11 <| .r 12 <| .a <| .b 19 (.f 23 <| .r 24 <| .a <| .b 35 (.a <| .b 36 (.d) .e) .e) .e) <| .b 19 (.f 23 <| .r 24 <| .a <| .b 7 (.f 11 <| .r 12 <| .a <| .b 35 (.a <| .b 36 (.d) .e) .e) .e) .e) <| .b 19 (.f 23 <| .r 24 <| .a <| .b 7 (.f 11 <| .r 12 <| .a <| .b 13 (.f 17 <| .r 18 <| .a <| .b 35 (.a <| .b 36 (.d) .e) .e) .e) <| .b 13 (.f 17 <| .r 18 <| .a <| .b 7 (.f 11 <| .r 12 <| .a <| .b 35 (.a <| .b 36 (.d) .e) .e) .e) .e) .e) .e) (by kernel_rfl) ?_)|(with_reducible refine isAnyP ?_;first|refine anyP_frz 10 (by simp only [seval,go_sem,p1,p2,p3,p4];with_reducible rfl) (by simp only [seval,go_sem,p1,p2,p3,p4];with_reducible rfl) ?_|refine anyP_frz 16 (by simp only [seval,go_sem,p1,p2,p3,p4];with_reducible rfl) (by simp only [seval,go_sem,p1,p2,p3,p4];with_reducible rfl) ?_|refine anyP_frz 22 (by simp only [seval,go_sem,p1,p2,p3,p4];with_reducible rfl) (by simp only [seval,go_sem,p1,p2,p3,p4];with_reducible rfl) ?_|refine anyP_frz 28 (by simp only [seval,go_sem,p1,p2,p3,p4];with_reducible rfl) (by simp only [seval,go_sem,p1,p2,p3,p4];with_reducible rfl) ?_|refine AnyP.D ?_|refine AnyP.F (by simp only [seval,go_sem,l_7,l_6];rfl) (by first|(simp only [seval,go_sem,p1,p2,p3,p4];first|done|fail)) (by first|(simp only [seval,go_sem,p1,p2,p3,p4];with_reducible rfl)|(simp (disch:=omega) only [seval,go_sem,cnd,intV,shV,convV,strV,p1,p2,p3,p4];with_reducible rfl)) ?_|refine AnyP.R (by simp only [seval,go_sem,l_7,l_6];rfl) (by first|(refine .inl ?_;simp only [seval,go_sem,p1,p2,p3,p4];done)) (by first|(simp only [seval,go_sem,p1,p2,p3,p4];with_reducible rfl)) ?_|refine AnyP.A ?_)|(with_reducible first|exact NextsP.E|refine NextsP.B (by simp only [seval,go_sem,l_7,l_6];rfl) ?_ ?_)|(with_reducible refine isRet ?_;refine RetV (rs:=[.cell 2 57]) (by with_unfolding_all rfl) rfl ?_<;>simp only [seval,go_sem]<;>(repeat' (with_reducible apply And.intro))<;>(try rfl))|(with_reducible (refine TVq (st:=[]) ?_))|simp only [seval,go_sem,p1,p2,p3,p4]))<;>(try (fail)))
 all_goals trace_state
end Go.Proofs.Yteemiclhnfkekaa
/- The walks of Append and Close of the chain and of the reference. -/
set_option linter.unusedSimpArgs false
set_option linter.unusedVariables false
namespace Go.Proofs.Yteemiclhnfkekaa
open Go.RowKit Go.Avm
def appendV (vs:List Ver) (v:Ver):List Ver×Int:=
 if validV none vs≠0 then ([],validV none vs) else if v.from_<1∨v.size<0∨v.to≠0 then ([],5) else
  match vs[vs.length-1]? with
  | none=>([v],0)
  | some u=>if v.from_≤u.from_∨v.from_<u.to then ([],19) else if u.to=0 then (vs.set (vs.length-1) { u with to:=v.from_ }++[v],0) else (vs++[v],0)
set_option maxRecDepth 100000 in set_option maxHeartbeats 3200000 in
theorem append_calls {vs:List Ver} {f t s:Int} {p:List Int} (hl:vs.length≤100000) (hp: ∀ v∈vs,v.pages.length≤1000000) (hq:p.length≤1000000):ACalls Try.prog 47 [.sl 4 (vs.map rowV), .agg [.sc (.int .i64 f), .sc (.int .i64 t), .sc (.int .i64 s), .sl 1 (p.map rowI)]]
  (.tup [.slo 0 4 0 (appendV vs ⟨f,t,s,p⟩).1.length, .sc (.int .i64 (appendV vs ⟨f,t,s,p⟩).2)]) [.row 4 ((appendV vs ⟨f,t,s,p⟩).1.map rowV)]:=by
 refine of_tri [] [3,11,29,66,70,71] Try.func47 rfl call47 rfl (by decide) (by decide) rfl rfl Try.ntmps47 (by simp (disch:=omega) only [seval,go_sem,cnd,intV,shV,convV,strV,List.replicate,l_2,l_1];rfl) (by simp (disch:=omega) only [seval,go_sem,cnd,intV,shV,convV,strV,l_2,l_1];rfl) ?_
 by_cases h0:vs.length=0
 ·have e:vs=[]:=List.eq_nil_of_length_eq_zero h0
  have hu:vs[vs.length-1]? = none:=by rw [e];rfl
  have hz:validV none vs=0:=by rw [e];rfl
  ((repeat' (first|(with_reducible (first|refine Tri.seq ?_|refine Tri.skip ?_|refine Tri.ret ?_|refine TriD.nil ?_|refine thenQ_n ?_|refine thenQ_r ?_|refine Tri.regionD (by simp only [l_3,l_4];rfl) ?_))|((with_reducible refine isTriD ?_);first|(with_reducible refine TriD.step (by simp only [seval,go_sem,hz];rfl) ?_)|((with_reducible refine isCallD ?_);((with_reducible (refine TriD.dE (by simp only [seval,go_sem,hz];rfl) (by simp only [seval,go_sem,hz];rfl) ?_));first|refine CallK.c [] (valid_calls ?_) (by simp only [seval,go_sem,hz];rfl) ?_|refine CallK.c (dst:=some 29) [29] (copied_calls ?_ ?_) (by simp only [seval,go_sem,hz];rfl) ?_|refine CallK.c (dst:=some 66) [66] (clone_ints ?_) (by simp only [seval,go_sem,hz];rfl) ?_))|(with_reducible first|refine TriD.step (by simp (disch:=omega) only [seval,go_sem,cnd,intV,shV,convV,strV,hz];rfl) ?_|refine TriD.byGuard (by simp only [seval,go_sem,hz];rfl) (by simp only [seval,go_sem,hz];rfl) (by (fail_if_success (with_reducible exact nlT));(fail_if_success (with_reducible exact nlF));exact nlI) (cvI ?_) (cvI ?_)|refine TriD.frz 66 (by simp only [seval,go_sem,hz];rfl) (by simp only [seval,go_sem,hz];rfl) ?_))|(with_reducible refine isCond ?_;with_reducible refine Tri.cond (by simp only [seval,go_sem,hz];rfl) (cvI ?_) (cvI ?_))|(with_reducible refine isCv ?_;intro hc;(try simp only [bls,reduceCtorEq] at hc);(try (exfalso;omega)))|(with_reducible refine isRet ?_;refine RetOK.q rfl rfl (by simp only [seval,go_sem];rfl) (by decide) (by simp only [seval,go_sem];rfl) (by simp only [seval,go_sem];rfl) rfl ?_<;>(try simp only [seval,go_sem])<;>(repeat' (with_reducible apply And.intro))<;>(try rfl))|(with_reducible refine isRet ?_;(refine RetOK.virt 4 71 4 (by first|(simp only [seval,go_sem];first|done|fail)) (by first|(simp only [seval,go_sem];first|done|fail)) (by simp only [seval,go_sem];rfl) ?_);(with_reducible refine isRet ?_;refine RetOK.q rfl rfl (by simp only [seval,go_sem];rfl) (by decide) (by simp only [seval,go_sem];rfl) (by simp only [seval,go_sem];rfl) rfl ?_<;>(try simp only [seval,go_sem,hz])<;>(repeat' (with_reducible apply And.intro))<;>(try rfl)))))<;>(try ((with_reducible assumption))))
  all_goals ((try simp (disch:=omega) only [appendV,hu,rowV,if_pos,if_neg])<;>(try (first|omega|(simp [appendV,hu,rowV];done)|(simp [appendV,hu,rowV];omega))))
  all_goals (subst e;try simp)
 ·obtain ⟨u,hu⟩:=get_lt (show vs.length-1<vs.length by omega)
  have hu':=get_map rowV hu
  ((repeat' (first|(with_reducible (first|refine Tri.seq ?_|refine Tri.skip ?_|refine Tri.ret ?_|refine TriD.nil ?_|refine ListD.nil ?_|refine thenQ_n ?_|refine thenQ_r ?_|refine Tri.regionD (by simp only [l_3,l_4];rfl) ?_))|((with_reducible refine isTriD ?_);first|(with_reducible refine TriD.step (by simp only [seval,go_sem,hu',rowV];rfl) ?_)|((with_reducible refine isCallD ?_);((with_reducible (refine TriD.dE (by simp only [seval,go_sem,hu',rowV];rfl) (by simp only [seval,go_sem,hu',rowV];rfl) ?_));first|refine CallK.c [] (valid_calls ?_) (by simp only [seval,go_sem,hu',rowV];rfl) ?_|refine CallK.c (dst:=some 29) [29] (copied_calls ?_ ?_) (by simp only [seval,go_sem,hu',rowV];rfl) ?_|refine CallK.c (dst:=some 66) [66] (clone_ints ?_) (by simp only [seval,go_sem,hu',rowV];rfl) ?_))|(with_reducible first|refine TriD.step (by simp (disch:=omega) only [seval,go_sem,cnd,intV,shV,convV,strV,hu',rowV];rfl) ?_|refine TriD.byGuard (by simp only [seval,go_sem,hu',rowV];rfl) (by simp only [seval,go_sem,hu',rowV];rfl) (by (fail_if_success (with_reducible exact nlT));(fail_if_success (with_reducible exact nlF));exact nlI) (cvI ?_) (cvI ?_)|refine TriD.frz 66 (by simp only [seval,go_sem,hu',rowV];rfl) (by simp only [seval,go_sem,hu',rowV];rfl) ?_))|((with_reducible refine isListD ?_);(with_reducible first|refine ListD.step (by simp only [seval,go_sem,hu',rowV];rfl) ?_|refine ListD.step (by simp (disch:=omega) only [seval,go_sem,cnd,intV,shV,convV,strV,hu',rowV];rfl) ?_|refine ListD.byGuard (by simp only [seval,go_sem,hu',rowV];rfl) (by simp only [seval,go_sem,hu',rowV];rfl) (by (fail_if_success (with_reducible exact nlT));(fail_if_success (with_reducible exact nlF));exact nlI) (cvI ?_) (cvI ?_)))|(with_reducible refine isCond ?_;with_reducible refine Tri.cond (by simp only [seval,go_sem,hu',rowV];rfl) (cvI ?_) (cvI ?_))|(with_reducible refine isCv ?_;intro hc;(try simp only [bls,reduceCtorEq] at hc);(try (exfalso;omega)))|(with_reducible refine isDrawn ?_;refine Tri.drawnD mix (by kernel_rfl) (by simp only [l_3,l_4];rfl) ?_)|(with_reducible refine isRet ?_;refine RetOK.q rfl rfl (by simp only [seval,go_sem];rfl) (by decide) (by simp only [seval,go_sem];rfl) (by simp only [seval,go_sem];rfl) rfl ?_<;>(try simp only [seval,go_sem])<;>(repeat' (with_reducible apply And.intro))<;>(try rfl))|(with_reducible refine isRet ?_;(refine RetOK.virt 4 71 4 (by first|(simp only [seval,go_sem];first|done|fail)) (by first|(simp only [seval,go_sem];first|done|fail)) (by simp only [seval,go_sem];rfl) ?_);(with_reducible refine isRet ?_;refine RetOK.q rfl rfl (by simp only [seval,go_sem];rfl) (by decide) (by simp only [seval,go_sem];rfl) (by simp only [seval,go_sem];rfl) rfl ?_<;>(try simp only [seval,go_sem,hu',rowV])<;>(repeat' (with_reducible apply And.intro))<;>(try rfl)))))<;>(try ((with_reducible assumption))))
  all_goals ((try simp (disch:=omega) only [appendV,hu,rowV,List.map_set,if_pos,if_neg])<;>(try (first|(simp [appendV,hu,rowV,List.map_set];done)|(simp [appendV,hu,rowV,List.map_set];omega))))
theorem append_val {vs:List Ver} {f t s:Int} {p:List Int} (hl:vs.length≤100000) (hp: ∀ v∈vs,v.pages.length≤1000000) (hq:p.length≤1000000):ACalls Try.prog 47 [.sl 4 (vs.map rowV), .agg [.sc (.int .i64 f), .sc (.int .i64 t), .sc (.int .i64 s), .sl 1 (p.map rowI)]]
  (.tup [.sl 4 ((appendV vs ⟨f,t,s,p⟩).1.map rowV), .sc (.int .i64 (appendV vs ⟨f,t,s,p⟩).2)]) []:=by
 have h:=ACalls.freeze (append_calls (f:=f) (t:=t) (s:=s) hl hp hq)
 simpa [frzD,frzL,take_lenmap] using h
end Go.Proofs.Yteemiclhnfkekaa
/- The walks of Close of the chain and of the reference. -/
set_option linter.unusedSimpArgs false
set_option linter.unusedVariables false
namespace Go.Proofs.Yteemiclhnfkekaa
open Go.RowKit Go.Avm
def closeV (vs:List Ver) (c:Int):List Ver×Int:=
 if validV none vs≠0 then ([],validV none vs) else
  match vs[vs.length-1]? with
  | none=>([],17)
  | some u=>if u.to≠0 then ([],17) else if c≤u.from_ then ([],19) else (vs.set (vs.length-1) { u with to:=c },0)
end Go.Proofs.Yteemiclhnfkekaa
/- Chain: RemoveVersion of the reference. -/
set_option linter.unusedSimpArgs false
set_option linter.unusedVariables false
namespace Go.Proofs.Yteemiclhnfkekaa
open Go.RowKit Go.Avm
def idxV (c:Int):List Ver→Nat→Int
 | [],_=> -1
 | v::vs,k=>if v.from_=c then k else idxV c vs (k+1)
def zeroV:Ver:=⟨0,0,0,[]⟩
def removeV (vs:List Ver) (c:Int):List Ver×Ver×Int:=
 if idxV c vs 0<0 then ([],zeroV,8) else (vs.take (idxV c vs 0).toNat++vs.drop ((idxV c vs 0).toNat+1),(vs[(idxV c vs 0).toNat]?).getD zeroV,0)
end Go.Proofs.Yteemiclhnfkekaa
/- Directory: the walks of Lookup, open, late of the program and of the reference, and of the searches with a test. -/
set_option linter.unusedSimpArgs false
set_option linter.unusedVariables false
namespace Go.Proofs.Yteemiclhnfkekaa
open Go.RowKit Go.Avm
set_option maxRecDepth 100000 in set_option maxHeartbeats 3200000 in
theorem late1_calls {b:Bd} {c:Int}:ACalls Try.prog 86 [.agg (rowBd b), .ro [.sc (.int .i64 c)]] (.sc (.bool (decide (c<b.frm)||decide (c<b.to)))) []:=by
 simp only [rowBd]
 refine of_tri [] [2] Try.func86 rfl call86 rfl (by decide) (by decide) rfl rfl Try.ntmps86 (by simp (disch:=omega) only [seval,go_sem,cnd,intV,shV,convV,strV,List.replicate,l_2,l_1];rfl) (by simp (disch:=omega) only [seval,go_sem,cnd,intV,shV,convV,strV,l_2,l_1];rfl) ?_
 ((repeat' (first|(with_reducible (first|refine Tri.seq ?_|refine Tri.ret ?_|refine TriD.nil ?_|refine thenQ_n ?_|refine Tri.regionD (by simp only [l_3,l_4];rfl) ?_))|((with_reducible refine isTriD ?_);(with_reducible first|refine TriD.step (by simp only [seval,go_sem];rfl) ?_|refine TriD.step (by simp (disch:=omega) only [seval,go_sem,cnd,intV,shV,convV,strV];rfl) ?_|refine TriD.byGuard (by simp only [seval,go_sem];rfl) (by simp only [seval,go_sem];rfl) (by (fail_if_success (with_reducible exact nlT));(fail_if_success (with_reducible exact nlF));exact nlI) (cvI ?_) (cvI ?_)))|(with_reducible refine isCv ?_;intro hc;(try simp only [bls,reduceCtorEq] at hc);(try (exfalso;omega)))|(with_reducible refine isRet ?_;refine RetOK.q rfl rfl (by simp only [seval,go_sem];rfl) (by decide) (by simp only [seval,go_sem];rfl) (by simp only [seval,go_sem];rfl) rfl ?_<;>(try simp only [seval,go_sem])<;>(repeat' (with_reducible apply And.intro))<;>(try rfl))))<;>(try (fail)))
 all_goals (try (first|rfl|(simp;omega)|(simp_all;done)|(simp_all;omega)))
set_option maxRecDepth 100000 in set_option maxHeartbeats 3200000 in
theorem bind1_calls {b:Bd} {n:ByteArray} {o:Int}:ACalls Try.prog 62 [.agg (rowBd b), .ro [.sc (.string n)], .ro [.sc (.int .i64 o)]] (.sc (.bool (b.to==0&&(eqN b.name n||b.obj==o)))) []:=by
 unfold eqN
 simp only [rowBd]
 refine of_tri [] [3] Try.func62 rfl call62 rfl (by decide) (by decide) rfl rfl Try.ntmps62 (by simp (disch:=omega) only [seval,go_sem,cnd,intV,shV,convV,strV,List.replicate,l_2,l_1];rfl) (by simp (disch:=omega) only [seval,go_sem,cnd,intV,shV,convV,strV,l_2,l_1];rfl) ?_
 ((repeat' (first|(with_reducible (first|refine Tri.seq ?_|refine Tri.ret ?_|refine TriD.nil ?_|refine thenQ_n ?_|refine Tri.regionD (by simp only [l_3,l_4];rfl) ?_))|((with_reducible refine isTriD ?_);(with_reducible first|refine TriD.step (by simp only [seval,go_sem];rfl) ?_|refine TriD.step (by simp (disch:=omega) only [seval,go_sem,cnd,intV,shV,convV,strV];rfl) ?_|refine TriD.byGuard (by simp only [seval,go_sem];rfl) (by simp only [seval,go_sem];rfl) (by (fail_if_success (with_reducible exact nlT));(fail_if_success (with_reducible exact nlF));exact nlI) (cvI ?_) (cvI ?_)))|(with_reducible refine isCv ?_;intro hc;(try simp only [bls,reduceCtorEq] at hc);(try (exfalso;omega)))|(with_reducible refine isRet ?_;refine RetOK.q rfl rfl (by simp only [seval,go_sem];rfl) (by decide) (by simp only [seval,go_sem];rfl) (by simp only [seval,go_sem];rfl) rfl ?_<;>(try simp only [seval,go_sem])<;>(repeat' (with_reducible apply And.intro))<;>(try rfl))))<;>(try (fail)))
 all_goals (try (first|rfl|(simp;omega)|(simp_all;done)|(simp_all;omega)))
set_option maxRecDepth 100000 in set_option maxHeartbeats 3200000 in
theorem bind2_calls {b:Bd} {n:ByteArray} {c:Int}:ACalls Try.prog 63 [.agg (rowBd b), .ro [.sc (.string n)], .ro [.sc (.int .i64 c)]] (.sc (.bool (eqN b.name n&&b.frm==c))) []:=by
 unfold eqN
 simp only [rowBd]
 refine of_tri [] [3] Try.func63 rfl call63 rfl (by decide) (by decide) rfl rfl Try.ntmps63 (by simp (disch:=omega) only [seval,go_sem,cnd,intV,shV,convV,strV,List.replicate,l_2,l_1];rfl) (by simp (disch:=omega) only [seval,go_sem,cnd,intV,shV,convV,strV,l_2,l_1];rfl) ?_
 ((repeat' (first|(with_reducible (first|refine Tri.seq ?_|refine Tri.ret ?_|refine TriD.nil ?_|refine thenQ_n ?_|refine Tri.regionD (by simp only [l_3,l_4];rfl) ?_))|((with_reducible refine isTriD ?_);(with_reducible first|refine TriD.step (by simp only [seval,go_sem];rfl) ?_|refine TriD.step (by simp (disch:=omega) only [seval,go_sem,cnd,intV,shV,convV,strV];rfl) ?_|refine TriD.byGuard (by simp only [seval,go_sem];rfl) (by simp only [seval,go_sem];rfl) (by (fail_if_success (with_reducible exact nlT));(fail_if_success (with_reducible exact nlF));exact nlI) (cvI ?_) (cvI ?_)))|(with_reducible refine isCv ?_;intro hc;(try simp only [bls,reduceCtorEq] at hc);(try (exfalso;omega)))|(with_reducible refine isRet ?_;refine RetOK.q rfl rfl (by simp only [seval,go_sem];rfl) (by decide) (by simp only [seval,go_sem];rfl) (by simp only [seval,go_sem];rfl) rfl ?_<;>(try simp only [seval,go_sem])<;>(repeat' (with_reducible apply And.intro))<;>(try rfl))))<;>(try (fail)))
 all_goals (try (first|rfl|(simp;omega)|(simp_all;done)|(simp_all;omega)))
theorem idxB_any {p:Bd→Bool}: ∀ (l:List Bd) (i:Nat),decide (0≤idxB p l i)=l.any p
 | [],_=>rfl
 | b::l,i=>by
   rw [idxB,List.any_cons]
   cases h:p b
   ·simp only [Bool.false_eq_true,if_false,Bool.false_or];exact idxB_any l (i+1)
   ·simp
set_option maxRecDepth 100000 in set_option maxHeartbeats 3200000 in
theorem idx1_calls {fc:FuncId} {u:Value} {l:List Bd} {p:Bd→Bool} (hl:l.length≤100000) (h: ∀ b,ACalls Try.prog fc [.agg (rowBd b), .ro [.sc u]] (.sc (.bool (p b))) []):ACalls Try.prog 87 [.sl 4 (l.map rowBd), .fn fc [.ro [.sc u]]] (.sc (.int .i64 (idxB p l 0))) []:=by
 refine of_tri [] [16] Try.func87 rfl call87 rfl (by decide) (by decide) rfl rfl Try.ntmps87 (by simp (disch:=omega) only [seval,go_sem,cnd,intV,shV,convV,strV,List.replicate,l_2,l_1];rfl) (by simp (disch:=omega) only [seval,go_sem,cnd,intV,shV,convV,strV,l_2,l_1];rfl) ?_
 ((repeat' (first|(with_reducible (first|refine Tri.seq ?_|refine Tri.block ?_|refine TriD.nil ?_|refine thenQ_n ?_|refine Tri.regionD (by simp only [l_3,l_4];rfl) ?_))|((with_reducible refine isTriD ?_);(with_reducible refine TriD.step (by simp only [seval,go_sem];rfl) ?_))))<;>(try (fail)))
 (with_reducible refine Tri.loopU (fun (k:Nat)=>[(8,.sc (.int .i64 k)),(4,.any),(5,.any),(9,.any),(10,.any),(11,.any),(12,.any),(13,.any),(14,.any),(15,.any),(16,.any),(17,.any),(18,.any)]) (fun (k:Nat)=>[(16,.dead)]) (fun (k:Nat)=>k≤l.length∧idxB p (l.drop k) k=idxB p l 0) (fun (k:Nat)=>l.length-k) (0) (⟨Nat.zero_le _,rfl⟩) (by intro _;simp (disch:=omega) only [seval,go_sem,cnd,intV,shV,convV,strV];rfl) (by intro _;simp (disch:=omega) only [seval,go_sem,cnd,intV,shV,convV,strV];rfl) (by (refine leQL_spec ?_);(try simp only [seval,go_sem]);first|done|fail) (by (refine leQH_spec ?_);(try simp only [seval,go_sem]);first|done|fail) (fun k hI=>?_))
 obtain ⟨hk,hf⟩:=hI
 by_cases hlt:k<l.length
 ·obtain ⟨b,hb⟩:=get_lt hlt
  have hb':=get_map rowBd hb
  have hc1:=h b
  simp only [rowBd] at hc1
  rw [drop_get hb,idxB] at hf
  cases hp:p b with
  | true=>
    rw [if_pos hp] at hf
    rw [← hf]
    rw [hp] at hc1
    ((repeat' (first|(with_reducible (first|refine Tri.seq ?_|refine Tri.block ?_|refine Tri.skip ?_|refine Tri.ret ?_|refine TriD.nil ?_|refine thenQ_n ?_|refine thenQ_r ?_|refine inBlockQ_r ?_|refine loopQ_r ?_|refine Tri.regionD (by simp only [l_3,l_4];rfl) ?_))|((with_reducible refine isTriD ?_);first|(with_reducible refine TriD.step (by simp only [seval,go_sem,hb',rowBd];rfl) ?_)|((with_reducible refine isCallD ?_);((with_reducible (refine TriD.dE (by simp only [seval,go_sem,hb',rowBd];rfl) (by simp only [seval,go_sem,hb',rowBd];rfl) ?_));refine CallK.c [] (hc1) (by simp only [seval,go_sem,hb',rowBd];rfl) ?_))|(with_reducible refine TriD.step (by simp (disch:=omega) only [seval,go_sem,cnd,intV,shV,convV,strV,hb',rowBd];rfl) ?_))|(with_reducible refine isCond ?_;with_reducible refine Tri.cond (by simp only [seval,go_sem,hb',rowBd];rfl) (cvI ?_) (cvI ?_))|(with_reducible refine isCv ?_;intro hc;(try simp only [bls,reduceCtorEq] at hc);(try (exfalso;omega)))|(with_reducible refine isRet ?_;refine RetOK.q rfl rfl (by simp only [seval,go_sem];rfl) (by decide) (by simp only [seval,go_sem];rfl) (by simp only [seval,go_sem];rfl) rfl ?_<;>(try simp only [seval,go_sem])<;>(repeat' (with_reducible apply And.intro))<;>(try rfl))))<;>(try (fail)))
  | false=>
    rw [if_neg (by simp [hp])] at hf
    rw [hp] at hc1
    ((repeat' (first|(with_reducible (first|refine Tri.seq ?_|refine Tri.block ?_|refine Tri.skip ?_|refine TriD.nil ?_|refine thenQ_n ?_|refine inBlockQ_n ?_|refine loopQ_n ?_|refine Tri.regionD (by simp only [l_3,l_4];rfl) ?_))|((with_reducible refine isTriD ?_);first|(with_reducible refine TriD.step (by simp only [seval,go_sem,hb',rowBd];rfl) ?_)|((with_reducible refine isCallD ?_);((with_reducible (refine TriD.dE (by simp only [seval,go_sem,hb',rowBd];rfl) (by simp only [seval,go_sem,hb',rowBd];rfl) ?_));refine CallK.c [] (hc1) (by simp only [seval,go_sem,hb',rowBd];rfl) ?_))|(with_reducible refine TriD.step (by simp (disch:=omega) only [seval,go_sem,cnd,intV,shV,convV,strV,hb',rowBd];rfl) ?_))|(with_reducible refine isCond ?_;with_reducible refine Tri.cond (by simp only [seval,go_sem,hb',rowBd];rfl) (cvI ?_) (cvI ?_))|(with_reducible refine isCv ?_;intro hc;(try simp only [bls,reduceCtorEq] at hc);(try (exfalso;omega)))))<;>(try (fail)))
    all_goals (try (refine isNext (k+1) (by (refine leQL_spec ?_);(try simp only [seval,go_sem]);first|((repeat' (with_reducible apply And.intro))<;>first|rfl);first|done|fail) (by (refine leQH_spec ?_);(try simp only [seval,go_sem]);first|done|fail) ?_ ?_<;>(try (omega))))
    all_goals (try (exact ⟨by omega,hf⟩))
 ·rw [List.drop_eq_nil_of_le (by omega),idxB] at hf
  rw [← hf]
  ((repeat' (first|(with_reducible (first|refine Tri.seq ?_|refine Tri.exit ?_|refine Tri.ret ?_|refine TriD.nil ?_|refine thenQ_n ?_|refine thenQ_e ?_|refine inBlockQ_e ?_|refine loopQ_e ?_|refine Tri.regionD (by simp only [l_3,l_4];rfl) ?_))|((with_reducible refine isTriD ?_);(with_reducible first|refine TriD.step (by simp only [seval,go_sem];rfl) ?_|refine TriD.step (by simp (disch:=omega) only [seval,go_sem,cnd,intV,shV,convV,strV];rfl) ?_))|(with_reducible refine isCond ?_;with_reducible refine Tri.cond (by simp only [seval,go_sem];rfl) (cvI ?_) (cvI ?_))|(with_reducible refine isCv ?_;intro hc;(try simp only [bls,reduceCtorEq] at hc);(try (exfalso;omega)))|(with_reducible refine isRet ?_;refine RetOK.q rfl rfl (by simp only [seval,go_sem];rfl) (by decide) (by simp only [seval,go_sem];rfl) (by simp only [seval,go_sem];rfl) rfl ?_<;>(try simp only [seval,go_sem])<;>(repeat' (with_reducible apply And.intro))<;>(try rfl))))<;>(try (fail)))
set_option maxRecDepth 100000 in set_option maxHeartbeats 3200000 in
theorem idx2_calls {fc:FuncId} {u v:Value} {l:List Bd} {p:Bd→Bool} (hl:l.length≤100000) (h: ∀ b,ACalls Try.prog fc [.agg (rowBd b),.ro [.sc u],.ro [.sc v]] (.sc (.bool (p b))) []):ACalls Try.prog 87 [.sl 4 (l.map rowBd),.fn fc [.ro [.sc u],.ro [.sc v]]] (.sc (.int .i64 (idxB p l 0))) []:=by
 refine of_tri [] [16] Try.func87 rfl call87 rfl (by decide) (by decide) rfl rfl Try.ntmps87 (by simp (disch:=omega) only [seval,go_sem,cnd,intV,shV,convV,strV,List.replicate,l_2,l_1];rfl) (by simp (disch:=omega) only [seval,go_sem,cnd,intV,shV,convV,strV,l_2,l_1];rfl) ?_
 ((repeat' (first|(with_reducible (first|refine Tri.seq ?_|refine Tri.block ?_|refine TriD.nil ?_|refine thenQ_n ?_|refine Tri.regionD (by simp only [l_3,l_4];rfl) ?_))|((with_reducible refine isTriD ?_);(with_reducible refine TriD.step (by simp only [seval,go_sem];rfl) ?_))))<;>(try (fail)))
 (with_reducible refine Tri.loopU (fun (k:Nat)=>[(8,.sc (.int .i64 k)),(4,.any),(5,.any),(9,.any),(10,.any),(11,.any),(12,.any),(13,.any),(14,.any),(15,.any),(16,.any),(17,.any),(18,.any)]) (fun (k:Nat)=>[(16,.dead)]) (fun (k:Nat)=>k≤l.length∧idxB p (l.drop k) k=idxB p l 0) (fun (k:Nat)=>l.length-k) (0) (⟨Nat.zero_le _,rfl⟩) (by intro _;simp (disch:=omega) only [seval,go_sem,cnd,intV,shV,convV,strV];rfl) (by intro _;simp (disch:=omega) only [seval,go_sem,cnd,intV,shV,convV,strV];rfl) (by (refine leQL_spec ?_);(try simp only [seval,go_sem]);first|done|fail) (by (refine leQH_spec ?_);(try simp only [seval,go_sem]);first|done|fail) (fun k hI=>?_))
 obtain ⟨hk,hf⟩:=hI
 by_cases hlt:k<l.length
 ·obtain ⟨b,hb⟩:=get_lt hlt
  have hb':=get_map rowBd hb
  have hc1:=h b
  simp only [rowBd] at hc1
  rw [drop_get hb,idxB] at hf
  cases hp:p b with
  | true=>
    rw [if_pos hp] at hf
    rw [← hf]
    rw [hp] at hc1
    ((repeat' (first|(with_reducible (first|refine Tri.seq ?_|refine Tri.block ?_|refine Tri.skip ?_|refine Tri.ret ?_|refine TriD.nil ?_|refine thenQ_n ?_|refine thenQ_r ?_|refine inBlockQ_r ?_|refine loopQ_r ?_|refine Tri.regionD (by simp only [l_3,l_4];rfl) ?_))|((with_reducible refine isTriD ?_);first|(with_reducible refine TriD.step (by simp only [seval,go_sem,hb',rowBd];rfl) ?_)|((with_reducible refine isCallD ?_);((with_reducible (refine TriD.dE (by simp only [seval,go_sem,hb',rowBd];rfl) (by simp only [seval,go_sem,hb',rowBd];rfl) ?_));refine CallK.c [] (hc1) (by simp only [seval,go_sem,hb',rowBd];rfl) ?_))|(with_reducible refine TriD.step (by simp (disch:=omega) only [seval,go_sem,cnd,intV,shV,convV,strV,hb',rowBd];rfl) ?_))|(with_reducible refine isCond ?_;with_reducible refine Tri.cond (by simp only [seval,go_sem,hb',rowBd];rfl) (cvI ?_) (cvI ?_))|(with_reducible refine isCv ?_;intro hc;(try simp only [bls,reduceCtorEq] at hc);(try (exfalso;omega)))|(with_reducible refine isRet ?_;refine RetOK.q rfl rfl (by simp only [seval,go_sem];rfl) (by decide) (by simp only [seval,go_sem];rfl) (by simp only [seval,go_sem];rfl) rfl ?_<;>(try simp only [seval,go_sem])<;>(repeat' (with_reducible apply And.intro))<;>(try rfl))))<;>(try (fail)))
  | false=>
    rw [if_neg (by simp [hp])] at hf
    rw [hp] at hc1
    ((repeat' (first|(with_reducible (first|refine Tri.seq ?_|refine Tri.block ?_|refine Tri.skip ?_|refine TriD.nil ?_|refine thenQ_n ?_|refine inBlockQ_n ?_|refine loopQ_n ?_|refine Tri.regionD (by simp only [l_3,l_4];rfl) ?_))|((with_reducible refine isTriD ?_);first|(with_reducible refine TriD.step (by simp only [seval,go_sem,hb',rowBd];rfl) ?_)|((with_reducible refine isCallD ?_);((with_reducible (refine TriD.dE (by simp only [seval,go_sem,hb',rowBd];rfl) (by simp only [seval,go_sem,hb',rowBd];rfl) ?_));refine CallK.c [] (hc1) (by simp only [seval,go_sem,hb',rowBd];rfl) ?_))|(with_reducible refine TriD.step (by simp (disch:=omega) only [seval,go_sem,cnd,intV,shV,convV,strV,hb',rowBd];rfl) ?_))|(with_reducible refine isCond ?_;with_reducible refine Tri.cond (by simp only [seval,go_sem,hb',rowBd];rfl) (cvI ?_) (cvI ?_))|(with_reducible refine isCv ?_;intro hc;(try simp only [bls,reduceCtorEq] at hc);(try (exfalso;omega)))))<;>(try (fail)))
    all_goals (try (refine isNext (k+1) (by (refine leQL_spec ?_);(try simp only [seval,go_sem]);first|((repeat' (with_reducible apply And.intro))<;>first|rfl);first|done|fail) (by (refine leQH_spec ?_);(try simp only [seval,go_sem]);first|done|fail) ?_ ?_<;>(try (omega))))
    all_goals (try (exact ⟨by omega,hf⟩))
 ·rw [List.drop_eq_nil_of_le (by omega),idxB] at hf
  rw [← hf]
  ((repeat' (first|(with_reducible (first|refine Tri.seq ?_|refine Tri.exit ?_|refine Tri.ret ?_|refine TriD.nil ?_|refine thenQ_n ?_|refine thenQ_e ?_|refine inBlockQ_e ?_|refine loopQ_e ?_|refine Tri.regionD (by simp only [l_3,l_4];rfl) ?_))|((with_reducible refine isTriD ?_);(with_reducible first|refine TriD.step (by simp only [seval,go_sem];rfl) ?_|refine TriD.step (by simp (disch:=omega) only [seval,go_sem,cnd,intV,shV,convV,strV];rfl) ?_))|(with_reducible refine isCond ?_;with_reducible refine Tri.cond (by simp only [seval,go_sem];rfl) (cvI ?_) (cvI ?_))|(with_reducible refine isCv ?_;intro hc;(try simp only [bls,reduceCtorEq] at hc);(try (exfalso;omega)))|(with_reducible refine isRet ?_;refine RetOK.q rfl rfl (by simp only [seval,go_sem];rfl) (by decide) (by simp only [seval,go_sem];rfl) (by simp only [seval,go_sem];rfl) rfl ?_<;>(try simp only [seval,go_sem])<;>(repeat' (with_reducible apply And.intro))<;>(try rfl))))<;>(try (fail)))
set_option maxRecDepth 100000 in set_option maxHeartbeats 3200000 in
theorem has1_calls {fc:FuncId} {u:Value} {l:List Bd} {p:Bd→Bool} (hl:l.length≤100000) (h: ∀ b,ACalls Try.prog fc [.agg (rowBd b), .ro [.sc u]] (.sc (.bool (p b))) []):ACalls Try.prog 61 [.sl 4 (l.map rowBd), .fn fc [.ro [.sc u]]] (.sc (.bool (l.any p))) []:=by
 have hi:=idx1_calls hl h
 rw [← idxB_any l 0]
 refine of_tri [] [7] Try.func61 rfl call61 rfl (by decide) (by decide) rfl rfl Try.ntmps61 (by simp (disch:=omega) only [seval,go_sem,cnd,intV,shV,convV,strV,List.replicate,l_2,l_1];rfl) (by simp (disch:=omega) only [seval,go_sem,cnd,intV,shV,convV,strV,l_2,l_1];rfl) ?_
 ((repeat' (first|(with_reducible (first|refine Tri.seq ?_|refine Tri.ret ?_|refine TriD.nil ?_|refine thenQ_n ?_|refine Tri.regionD (by simp only [l_3,l_4];rfl) ?_))|((with_reducible refine isTriD ?_);first|(with_reducible refine TriD.step (by simp only [seval,go_sem];rfl) ?_)|((with_reducible refine isCallD ?_);((with_reducible (refine TriD.dE (by simp only [seval,go_sem];rfl) (by simp only [seval,go_sem];rfl) ?_));refine CallK.c [] (hi) (by simp only [seval,go_sem];rfl) ?_))|(with_reducible refine TriD.step (by simp (disch:=omega) only [seval,go_sem,cnd,intV,shV,convV,strV];rfl) ?_))|(with_reducible refine isRet ?_;refine RetOK.q rfl rfl (by simp only [seval,go_sem];rfl) (by decide) (by simp only [seval,go_sem];rfl) (by simp only [seval,go_sem];rfl) rfl ?_<;>(try simp only [seval,go_sem])<;>(repeat' (with_reducible apply And.intro))<;>(try rfl))))<;>(try (fail)))
set_option maxRecDepth 100000 in set_option maxHeartbeats 3200000 in
theorem has2_calls {fc:FuncId} {u v:Value} {l:List Bd} {p:Bd→Bool} (hl:l.length≤100000) (h: ∀ b,ACalls Try.prog fc [.agg (rowBd b),.ro [.sc u],.ro [.sc v]] (.sc (.bool (p b))) []):ACalls Try.prog 61 [.sl 4 (l.map rowBd),.fn fc [.ro [.sc u],.ro [.sc v]]] (.sc (.bool (l.any p))) []:=by
 have hi:=idx2_calls hl h
 rw [← idxB_any l 0]
 refine of_tri [] [7] Try.func61 rfl call61 rfl (by decide) (by decide) rfl rfl Try.ntmps61 (by simp (disch:=omega) only [seval,go_sem,cnd,intV,shV,convV,strV,List.replicate,l_2,l_1];rfl) (by simp (disch:=omega) only [seval,go_sem,cnd,intV,shV,convV,strV,l_2,l_1];rfl) ?_
 ((repeat' (first|(with_reducible (first|refine Tri.seq ?_|refine Tri.ret ?_|refine TriD.nil ?_|refine thenQ_n ?_|refine Tri.regionD (by simp only [l_3,l_4];rfl) ?_))|((with_reducible refine isTriD ?_);first|(with_reducible refine TriD.step (by simp only [seval,go_sem];rfl) ?_)|((with_reducible refine isCallD ?_);((with_reducible (refine TriD.dE (by simp only [seval,go_sem];rfl) (by simp only [seval,go_sem];rfl) ?_));refine CallK.c [] (hi) (by simp only [seval,go_sem];rfl) ?_))|(with_reducible refine TriD.step (by simp (disch:=omega) only [seval,go_sem,cnd,intV,shV,convV,strV];rfl) ?_))|(with_reducible refine isRet ?_;refine RetOK.q rfl rfl (by simp only [seval,go_sem];rfl) (by decide) (by simp only [seval,go_sem];rfl) (by simp only [seval,go_sem];rfl) rfl ?_<;>(try simp only [seval,go_sem])<;>(repeat' (with_reducible apply And.intro))<;>(try rfl))))<;>(try (fail)))
set_option maxRecDepth 100000 in set_option maxHeartbeats 3200000 in
theorem late_calls {l:List Bd} {c:Int} (hl:l.length≤100000):ACalls Try.prog 60 [.sl 4 (l.map rowBd), .sc (.int .i64 c)] (.sc (.bool (lateB c l))) []:=by
 have hi:=has1_calls hl (fun b=>late1_calls (b:=b) (c:=c))
 unfold lateB
 refine of_tri [] [3,7] Try.func60 rfl call60 rfl (by decide) (by decide) rfl rfl Try.ntmps60 (by simp (disch:=omega) only [seval,go_sem,cnd,intV,shV,convV,strV,List.replicate,l_2,l_1];rfl) (by simp (disch:=omega) only [seval,go_sem,cnd,intV,shV,convV,strV,l_2,l_1];rfl) ?_
 ((repeat' (first|(with_reducible (first|refine Tri.seq ?_|refine Tri.ret ?_|refine TriD.nil ?_|refine thenQ_n ?_|refine Tri.regionD (by simp only [l_3,l_4];rfl) ?_))|((with_reducible refine isTriD ?_);first|(with_reducible refine TriD.step (by simp only [seval,go_sem];rfl) ?_)|((with_reducible refine isCallD ?_);((with_reducible (refine TriD.dS (by simp only [seval,go_sem];rfl) (by simp only [seval,go_sem];rfl) ?_));refine CallK.c [] (hi) (by simp only [seval,go_sem];rfl) ?_)))|(with_reducible refine isRet ?_;refine RetOK.q rfl rfl (by simp only [seval,go_sem];rfl) (by decide) (by simp only [seval,go_sem];rfl) (by simp only [seval,go_sem];rfl) rfl ?_<;>(try simp only [seval,go_sem])<;>(repeat' (with_reducible apply And.intro))<;>(try rfl))))<;>(try (fail)))
set_option maxRecDepth 100000 in set_option maxHeartbeats 3200000 in
theorem look_calls {l:List Bd} {n:ByteArray} {c:Int} (hl:l.length≤100000):ACalls Try.prog 55 [.sl 4 (l.map rowBd), .sc (.string n), .sc (.int .i64 c)] (.tup [.sc (.int .i64 (lookB n c l).1), .sc (.bool (lookB n c l).2)]) []:=by
 refine of_tri [] [9,23] Try.func55 rfl call55 rfl (by decide) (by decide) rfl rfl Try.ntmps55 (by simp (disch:=omega) only [seval,go_sem,cnd,intV,shV,convV,strV,List.replicate,l_2,l_1];rfl) (by simp (disch:=omega) only [seval,go_sem,cnd,intV,shV,convV,strV,l_2,l_1];rfl) ?_
 ((repeat' (first|(with_reducible (first|refine Tri.seq ?_|refine Tri.block ?_|refine TriD.nil ?_|refine thenQ_n ?_|refine Tri.regionD (by simp only [l_3,l_4];rfl) ?_))|((with_reducible refine isTriD ?_);(with_reducible refine TriD.step (by simp only [seval,go_sem];rfl) ?_))))<;>(try (fail)))
 (with_reducible refine Tri.loopU (fun (k:Nat)=>[(12,.sc (.int .i64 k)),(6,.any),(7,.any),(9,.any),(13,.any),(14,.any),(15,.any),(16,.any),(17,.any),(18,.any),(19,.any),(20,.any),(21,.any),(22,.any),(23,.any),(24,.any),(25,.any),(26,.any),(27,.any)]) (fun (k:Nat)=>[(9,.dead),(23,.dead)]) (fun (k:Nat)=>k≤l.length∧lookB n c (l.drop k)=lookB n c l) (fun (k:Nat)=>l.length-k) (0) (⟨Nat.zero_le _,rfl⟩) (by intro _;simp (disch:=omega) only [seval,go_sem,cnd,intV,shV,convV,strV];rfl) (by intro _;simp (disch:=omega) only [seval,go_sem,cnd,intV,shV,convV,strV];rfl) (by (refine leQL_spec ?_);(try simp only [seval,go_sem]);first|done|fail) (by (refine leQH_spec ?_);(try simp only [seval,go_sem]);first|done|fail) (fun k hI=>?_))
 obtain ⟨hk,hf⟩:=hI
 by_cases hlt:k<l.length
 ·obtain ⟨b,hb⟩:=get_lt hlt
  have hb':=get_map rowBd hb
  rw [drop_get hb,lookB,eqN] at hf
  cases h1:(b.name.toList==n.toList) with
  | false=>
    rw [h1,Bool.false_and,if_neg (by decide)] at hf
    (all_goals (try have hZ:=(And.intro hb' h1));(repeat' (first|(with_reducible (first|refine Tri.seq ?_|refine Tri.block ?_|refine Tri.skip ?_|refine TriD.nil ?_|refine thenQ_n ?_|refine inBlockQ_n ?_|refine loopQ_n ?_|refine Tri.regionD (by simp only [l_3,l_4];rfl) ?_))|((with_reducible refine isTriD ?_);(with_reducible first|refine TriD.step (by simp only [seval,go_sem,rowBd,hZ];rfl) ?_|refine TriD.step (by simp (disch:=omega) only [seval,go_sem,cnd,intV,shV,convV,strV,rowBd,hZ];rfl) ?_))|(with_reducible refine isCond ?_;with_reducible refine Tri.cond (by simp only [seval,go_sem,rowBd,hZ];rfl) (cvI ?_) (cvI ?_))|(with_reducible refine isCv ?_;intro hc;(try simp only [bls,reduceCtorEq] at hc);(try (exfalso;omega)))))<;>(try (fail));all_goals (try clear hZ))
    all_goals (try (refine isNext (k+1) (by (refine leQL_spec ?_);(try simp only [seval,go_sem]);first|((repeat' (with_reducible apply And.intro))<;>first|rfl);first|done|fail) (by (refine leQH_spec ?_);(try simp only [seval,go_sem]);first|done|fail) ?_ ?_<;>(try (omega))))
    all_goals (try (exact ⟨by omega,hf⟩))
  | true=>
    rw [h1,Bool.true_and] at hf
    cases h2:holdsB b.frm b.to c with
    | true=>
      rw [if_pos h2] at hf
      rw [← hf]
      (all_goals (try have hZ:=(And.intro hb' (And.intro h1 h2)));(repeat' (first|(with_reducible (first|refine Tri.seq ?_|refine Tri.block ?_|refine Tri.skip ?_|refine Tri.ret ?_|refine TriD.nil ?_|refine thenQ_n ?_|refine thenQ_r ?_|refine inBlockQ_r ?_|refine loopQ_r ?_|refine Tri.regionD (by simp only [l_3,l_4];rfl) ?_))|((with_reducible refine isTriD ?_);first|(with_reducible refine TriD.step (by simp only [seval,go_sem,rowBd,hZ];rfl) ?_)|((with_reducible refine isCallD ?_);((with_reducible (refine TriD.dE (by simp only [seval,go_sem,rowBd,hZ];rfl) (by simp only [seval,go_sem,rowBd,hZ];rfl) ?_));refine CallK.c [] (holds_calls) (by simp only [seval,go_sem,rowBd,hZ];rfl) ?_))|(with_reducible refine TriD.step (by simp (disch:=omega) only [seval,go_sem,cnd,intV,shV,convV,strV,rowBd,hZ];rfl) ?_))|(with_reducible refine isCond ?_;with_reducible refine Tri.cond (by simp only [seval,go_sem,rowBd,hZ];rfl) (cvI ?_) (cvI ?_))|(with_reducible refine isCv ?_;intro hc;(try simp only [bls,reduceCtorEq] at hc);(try (exfalso;omega)))|(with_reducible refine isRet ?_;refine RetOK.q rfl rfl (by simp only [seval,go_sem];rfl) (by decide) (by simp only [seval,go_sem];rfl) (by simp only [seval,go_sem];rfl) rfl ?_<;>(try simp only [seval,go_sem])<;>(repeat' (with_reducible apply And.intro))<;>(try rfl))))<;>(try (fail));all_goals (try clear hZ))
    | false=>
      rw [if_neg (by simp [h2])] at hf
      (all_goals (try have hZ:=(And.intro hb' (And.intro h1 h2)));(repeat' (first|(with_reducible (first|refine Tri.seq ?_|refine Tri.block ?_|refine Tri.skip ?_|refine TriD.nil ?_|refine thenQ_n ?_|refine inBlockQ_n ?_|refine loopQ_n ?_|refine Tri.regionD (by simp only [l_3,l_4];rfl) ?_))|((with_reducible refine isTriD ?_);first|(with_reducible refine TriD.step (by simp only [seval,go_sem,rowBd,hZ];rfl) ?_)|((with_reducible refine isCallD ?_);((with_reducible (refine TriD.dE (by simp only [seval,go_sem,rowBd,hZ];rfl) (by simp only [seval,go_sem,rowBd,hZ];rfl) ?_));refine CallK.c [] (holds_calls) (by simp only [seval,go_sem,rowBd,hZ];rfl) ?_))|(with_reducible refine TriD.step (by simp (disch:=omega) only [seval,go_sem,cnd,intV,shV,convV,strV,rowBd,hZ];rfl) ?_))|(with_reducible refine isCond ?_;with_reducible refine Tri.cond (by simp only [seval,go_sem,rowBd,hZ];rfl) (cvI ?_) (cvI ?_))|(with_reducible refine isCv ?_;intro hc;(try simp only [bls,reduceCtorEq] at hc);(try (exfalso;omega)))))<;>(try (fail));all_goals (try clear hZ))
      all_goals (try (refine isNext (k+1) (by (refine leQL_spec ?_);(try simp only [seval,go_sem]);first|((repeat' (with_reducible apply And.intro))<;>first|rfl);first|done|fail) (by (refine leQH_spec ?_);(try simp only [seval,go_sem]);first|done|fail) ?_ ?_<;>(try (omega))))
      all_goals (try (exact ⟨by omega,hf⟩))
 ·rw [List.drop_eq_nil_of_le (by omega),lookB] at hf
  rw [← hf]
  ((repeat' (first|(with_reducible (first|refine Tri.seq ?_|refine Tri.exit ?_|refine Tri.ret ?_|refine TriD.nil ?_|refine thenQ_n ?_|refine thenQ_e ?_|refine inBlockQ_e ?_|refine loopQ_e ?_|refine Tri.regionD (by simp only [l_3,l_4];rfl) ?_))|((with_reducible refine isTriD ?_);(with_reducible first|refine TriD.step (by simp only [seval,go_sem];rfl) ?_|refine TriD.step (by simp (disch:=omega) only [seval,go_sem,cnd,intV,shV,convV,strV];rfl) ?_))|(with_reducible refine isCond ?_;with_reducible refine Tri.cond (by simp only [seval,go_sem];rfl) (cvI ?_) (cvI ?_))|(with_reducible refine isCv ?_;intro hc;(try simp only [bls,reduceCtorEq] at hc);(try (exfalso;omega)))|(with_reducible refine isRet ?_;refine RetOK.q rfl rfl (by simp only [seval,go_sem];rfl) (by decide) (by simp only [seval,go_sem];rfl) (by simp only [seval,go_sem];rfl) rfl ?_<;>(try simp only [seval,go_sem])<;>(repeat' (with_reducible apply And.intro))<;>(try rfl))))<;>(try (fail)))
end Go.Proofs.Yteemiclhnfkekaa
