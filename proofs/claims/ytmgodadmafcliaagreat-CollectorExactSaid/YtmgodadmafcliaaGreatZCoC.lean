/- Collector: the walks of the reference's Garbage, insert, Reachable, Next and SameVictims. -/
import Derived.Test.YtmgodadmafcliaaGreatZVnP
import Derived.Test.YtmgodadmafcliaaGreatZCoB
import Derived.Test.YtmgodadmafcliaaGreatZAuE
set_option linter.unusedSimpArgs false
set_option linter.unusedVariables false
namespace Go.Proofs.YtmgodadmafcliaaGreat
open Go.RowKit Go.Avm
theorem vers_le {os:List Ob} (hl:(os.flatMap vnsO).length≤1000): ∀ o∈os,o.vers.length≤1000:=fun o ho=>by
 obtain ⟨A,B,e⟩:=List.append_of_mem ho
 subst e
 rw [List.flatMap_append,List.flatMap_cons] at hl
 simp only [List.length_append,vnsO,List.length_map] at hl
 omega
set_option maxRecDepth 100000 in set_option maxHeartbeats 6400000 in
theorem rgarbage_calls {com:Int} {os:List Ob} {ps:List Pn} {bd pg:List (List D)} (ho:os.length≤1000) (hl:(os.flatMap vnsO).length≤1000) (hp:ps.length≤100000):ACalls Tryz.prog 16 [.agg [.sc (.int .i64 com),.sl 2 (os.map rowOb),.sl 4 bd,.sl 2 (ps.map rowP),.sl 3 pg]] (.sl 2 ((garbR ps (versR os [])).map rowVc)) []:=by
 have hen:=versr_calls (com:=com) (bd:=bd) (pn:=ps.map rowP) (pg:=pg) ho (vers_le hl)
 have hel:(versR os []).length≤1000:=by rw [versR_sortV,sortV_len];simpa using hl
 generalize versR os []=E at *
 generalize hG:garbR ps E=G
 refine of_tri [] [1,7,20,34,35] Tryz.func16 rfl call16 rfl (by decide) (by decide) rfl rfl Tryz.ntmps16 (by simp (disch:=omega) only [seval,go_sem,cnd,intV,shV,convV,strV,List.replicate,l_2,l_1];rfl) (by simp (disch:=omega) only [seval,go_sem,cnd,intV,shV,convV,strV,l_2,l_1];rfl) ?_
 ((repeat' (first|((with_reducible refine isTriD ?_);((with_reducible refine isCallD ?_);((with_reducible refine LVcall (st:=[]) ?_);simp only [seval,go_sem];(refine CallL.c (hen) ?_))))|(with_reducible (refine TVq (st:=[]) ?_))|simp only [seval,go_sem]))<;>(try (fail)))
 all_goals (refine Tri.virt 3 35 2 (by first|(simp only [seval,go_sem];done)) (by first|(simp only [seval,go_sem];done)) (by simp only [seval,go_sem];rfl) ?_)
 all_goals (refine Tri.bx 1 (by simp only [seval,go_sem];rfl) (by simp only [seval,go_sem];first|done|rfl) (by simp only [seval,go_sem];rfl) ?_)
 all_goals (with_reducible refine Tri.loopU (fun (t:Nat×List Vc)=>[(5,.sc (.int .i64 t.1)),(3,.slo 35 2 0 t.2.length),(8,.any),(9,.any),(10,.any),(11,.any),(12,.any),(13,.any),(14,.any),(15,.any),(16,.any),(17,.any),(18,.any),(19,.any),(20,.any),(21,.any),(22,.any),(23,.any),(24,.any),(25,.any),(26,.any),(27,.any),(28,.any),(29,.any),(30,.any),(31,.any),(32,.any),(33,.any),(34,.any),(35,.any)]) (fun (t:Nat×List Vc)=>[(35,.row 2 (t.2.map rowVc)),(20,.dead),(34,.dead)]) (fun (t:Nat×List Vc)=>t.1≤E.length∧t.2.length≤t.1∧t.2++garbR ps (E.drop t.1)=G) (fun (t:Nat×List Vc)=>E.length-t.1) ((0,[])) (⟨Nat.zero_le _,by simp,by simpa using hG⟩) (by intro _;simp (disch:=omega) only [seval,go_sem,cnd,intV,shV,convV,strV];rfl) (by intro _;simp (disch:=omega) only [seval,go_sem,cnd,intV,shV,convV,strV];rfl) (by (refine leQL_spec ?_);(try simp only [seval,go_sem]);done) (by (refine leQH_spec ?_);(try simp only [seval,go_sem]);done) (fun t hI=>?_))
 all_goals
  obtain ⟨k,a⟩:=t
  obtain ⟨hk,hal,hf⟩:=hI
  simp only at hk hal hf
  by_cases hlt:k<E.length
  ·obtain ⟨x,hx⟩:=get_lt hlt
   have hx':=get_map rowVn hx
   have hgc:=rgarb_calls (com:=com) (f:=x.v.from_) (t:=x.v.to) (s:=x.v.size) (p:=x.v.pages.map rowI) (od:=os.map rowOb) (bd:=bd) (pg:=pg) hp
   rw [show (!(x.v.to==0) && !coversP x.v.from_ x.v.to ps)=garbV ps x.v from rfl] at hgc
   rw [drop_get hx,garbR] at hf
   cases hg:garbV ps x.v with
   | true=>
     rw [if_pos hg] at hf
     rw [hg] at hgc
     ((repeat' (first|((with_reducible refine isTriD ?_);((with_reducible first|refine TriD.step (by simp only [seval,go_sem,hx',rowVn];rfl) ?_|refine TriD.step (by simp (disch:=omega) only [seval,go_sem,cnd,intV,shV,convV,strV,hx',rowVn];rfl) ?_);refine LVs (st:=[]) ?_))|(with_reducible refine ListD.nil ?_)|((with_reducible refine isListD ?_);first|(with_reducible refine ListD.step (by simp only [seval,go_sem,hx',rowVn];rfl) ?_)|((with_reducible refine isCallV ?_);((with_reducible (refine ListD.dE (by simp only [seval,go_sem,hx',rowVn];rfl) (by simp only [seval,go_sem,hx',rowVn];rfl) ?_));refine CallW.c (hgc) (by simp only [seval,go_sem,hx',rowVn];rfl) ?_))|(with_reducible refine ListD.step (by simp (disch:=omega) only [seval,go_sem,cnd,intV,shV,convV,strV,hx',rowVn];rfl) ?_))|(with_reducible refine isDrawnN 7 ?_;(try (refine Tri.bx 1 (by simp only [seval,go_sem,hx',rowVn];rfl) (by simp only [seval,go_sem,hx',rowVn];fail) (by simp only [seval,go_sem,hx',rowVn];rfl) ?_));refine Tri.mixedP 7 mix 16 rfl (.f 0 <| .f 1 <| .f 2 <| .f 3 <| .f 4 <| .f 6 <| .f 7 <| .f 8 <| .f 9 <| .f 10 <| .a <| .b 5 (.a <| .b 11 (.a <| .b 12 (.a <| .b 13 (.a <| .b 14 (.f 15 <| .d) .e) .e) .e) .e) <| .b 11 (.a <| .b 5 (.a <| .b 12 (.a <| .b 13 (.a <| .b 14 (.f 15 <| .d) .e) .e) .e) .e) .e) (by kernel_rfl) ?_)|(with_reducible refine isAnyP ?_;first|refine AnyP.D ?_|refine AnyP.F (by simp only [seval,go_sem,l_7,l_6];rfl) (by first|(simp only [seval,go_sem,hx',rowVn];done)) (by first|(simp only [seval,go_sem,hx',rowVn];with_reducible rfl)|(simp (disch:=omega) only [seval,go_sem,cnd,intV,shV,convV,strV,hx',rowVn];with_reducible rfl)) ?_|refine AnyP.A ?_)|(with_reducible first|exact NextsP.E|refine NextsP.B (by simp only [seval,go_sem,l_7,l_6];rfl) ?_ ?_)|(with_reducible refine isDrawn ?_;refine Tri.drawnD mix (by kernel_rfl) (by simp only [l_3,l_4];rfl) ?_)|(with_reducible (refine TVq (st:=[]) ?_))|simp only [seval,go_sem,hx',rowVn]|(with_reducible refine oV_st (by simp (disch:=omega) only [seval,go_sem,cnd,intV,shV,convV,strV,hx',rowVn];rfl) ?_)))<;>(try (fail)))
     all_goals (try (refine isNextM ((k+1,a++[vcOf x])) (by (refine leQL_spec ?_);(try simp only [seval,go_sem,rowVc,vcOf]);first|((repeat' (with_reducible apply And.intro))<;>first|rfl|(simp [rowVc,vcOf];done));done) (by (refine leQH_spec ?_);(try simp only [seval,go_sem,rowVc,vcOf]);first|((repeat' (with_reducible apply And.intro))<;>first|(simp [rowVc,vcOf];done));done) ?_ ?_<;>(try (omega))))
     all_goals (try exact ⟨by simp only;omega,by simp only [List.length_append,List.length_cons,List.length_nil];omega,by simp only [List.append_assoc,List.cons_append,List.nil_append];exact hf⟩)
   | false=>
     rw [if_neg (by rw [hg];decide)] at hf
     rw [hg] at hgc
     ((repeat' (first|(with_reducible refine ListD.nil ?_)|((with_reducible refine isListD ?_);first|(with_reducible refine ListD.step (by simp only [seval,go_sem,hx',rowVn];rfl) ?_)|((with_reducible refine isCallV ?_);((with_reducible (refine ListD.dE (by simp only [seval,go_sem,hx',rowVn];rfl) (by simp only [seval,go_sem,hx',rowVn];rfl) ?_));refine CallW.c (hgc) (by simp only [seval,go_sem,hx',rowVn];rfl) ?_))|(with_reducible refine ListD.step (by simp (disch:=omega) only [seval,go_sem,cnd,intV,shV,convV,strV,hx',rowVn];rfl) ?_))|(with_reducible refine isDrawn ?_;refine Tri.drawnD mix (by kernel_rfl) (by simp only [l_3,l_4];rfl) ?_)|(with_reducible (refine TVq (st:=[]) ?_))|simp only [seval,go_sem,hx',rowVn]|(with_reducible refine oV_st (by simp (disch:=omega) only [seval,go_sem,cnd,intV,shV,convV,strV,hx',rowVn];rfl) ?_)))<;>(try (fail)))
     all_goals (try (refine isNextM ((k+1,a)) (by (refine leQL_spec ?_);(try simp only [seval,go_sem]);first|((repeat' (with_reducible apply And.intro))<;>first|rfl);done) (by (refine leQH_spec ?_);(try simp only [seval,go_sem]);done) ?_ ?_<;>(try (omega))))
     all_goals (try exact ⟨by simp only;omega,by simp only;omega,hf⟩)
  ·rw [List.drop_eq_nil_of_le (by omega),garbR,List.append_nil] at hf
   subst hf
   have hll:(List.map rowVc a).length=a.length:=List.length_map _
   have htk:(List.map rowVc a).take a.length=List.map rowVc a:=List.take_of_length_le (by omega)
   (all_goals (try have hZ:=(And.intro hll htk));(repeat' (first|(with_reducible refine isRet ?_;(refine RetOK.frz 35 (by simp only [seval,go_sem];rfl) (by simp only [seval,go_sem,hZ];rfl) ?_);(with_reducible refine isRet ?_;refine RetOK.q rfl rfl (by simp only [seval,go_sem];rfl) (by decide) (by simp only [seval,go_sem];rfl) (by simp only [seval,go_sem];rfl) rfl ?_<;>(try simp only [seval,go_sem,hZ])<;>(repeat' (with_reducible apply And.intro))<;>(try rfl)))|(with_reducible (refine TVq (st:=[]) ?_))|simp only [seval,go_sem,hZ]|(with_reducible refine oV_st (by simp (disch:=omega) only [seval,go_sem,cnd,intV,shV,convV,strV,hZ];rfl) ?_)))<;>(try (fail));all_goals (try clear hZ))
set_option maxRecDepth 100000 in set_option maxHeartbeats 3200000 in
theorem samevc_calls {a b:List Vc} (ha:a.length≤100000):ACalls Tryz.prog 14 [.sl 2 (a.map rowVc), .sl 2 (b.map rowVc)] (.sc (.bool (decide (a=b)))) []:=by
 by_cases hn:a.length=b.length
 ·generalize hR:decide (a=b)=R
  refine of_tri [] [] Tryz.func14 rfl call14 rfl (by decide) (by decide) rfl rfl Tryz.ntmps14 (by simp (disch:=omega) only [seval,go_sem,cnd,intV,shV,convV,strV,List.replicate,l_2,l_1];rfl) (by simp (disch:=omega) only [seval,go_sem,cnd,intV,shV,convV,strV,l_2,l_1];rfl) ?_
  ((repeat' (first|(with_reducible (refine TVq (st:=[]) ?_))|simp only [seval,go_sem,hn]|(with_reducible refine oV_st (by simp (disch:=omega) only [seval,go_sem,cnd,intV,shV,convV,strV,hn];rfl) ?_)))<;>(try (fail)))
  all_goals (with_reducible refine Tri.loopU (fun (k:Nat)=>[(5,.sc (.int .i64 k)),(4,.any),(11,.any),(12,.any),(13,.any),(14,.any),(15,.any),(16,.any),(17,.any),(18,.any),(19,.any),(20,.any),(21,.any),(22,.any),(23,.any),(24,.any),(25,.any)]) (fun (k:Nat)=>[]) (fun (k:Nat)=>k≤a.length∧(decide (a.drop k=b.drop k))=R) (fun (k:Nat)=>a.length-k) (0) (⟨Nat.zero_le _,by simpa using hR⟩) (by intro _;simp (disch:=omega) only [seval,go_sem,cnd,intV,shV,convV,strV];rfl) (by intro _;simp (disch:=omega) only [seval,go_sem,cnd,intV,shV,convV,strV];rfl) (by (refine leQL_spec ?_);(try simp only [seval,go_sem]);done) (by (refine leQH_spec ?_);(try simp only [seval,go_sem]);done) (fun k hI=>?_))
  all_goals obtain ⟨hk,hf⟩:=hI
  by_cases hlt:k<a.length
  ·obtain ⟨x,hx⟩:=get_lt hlt
   obtain ⟨y,hy⟩:=get_lt (show k<b.length by omega)
   have hx':=get_map rowVc hx
   have hy':=get_map rowVc hy
   rw [drop_get hx,drop_get hy] at hf
   obtain ⟨x1,x2⟩:=x
   obtain ⟨y1,y2⟩:=y
   by_cases h1:x1=y1
   ·by_cases h2:x2=y2
    ·subst h1 h2
     have hf2:decide (a.drop (k+1)=b.drop (k+1))=R:=by rw [← hf];simp
     (all_goals (try have hZ:=(And.intro hx' hy'));(repeat' (first|(with_reducible refine ListD.nil ?_)|((with_reducible refine isListD ?_);(with_reducible first|refine ListD.step (by simp only [seval,go_sem,rowVc,hZ];rfl) ?_|refine ListD.step (by simp (disch:=omega) only [seval,go_sem,cnd,intV,shV,convV,strV,rowVc,hZ];rfl) ?_))|(with_reducible refine isDrawn ?_;refine Tri.drawnD mix (by kernel_rfl) (by simp only [l_3,l_4];rfl) ?_)|(with_reducible (refine TVq (st:=[]) ?_))|simp only [seval,go_sem,rowVc,hZ]|(with_reducible refine oV_st (by simp (disch:=omega) only [seval,go_sem,cnd,intV,shV,convV,strV,rowVc,hZ];rfl) ?_)))<;>(try (fail));all_goals (try clear hZ))
     all_goals (try (refine isNextM (k+1) (by (refine leQL_spec ?_);(try simp only [seval,go_sem]);first|((repeat' (with_reducible apply And.intro))<;>first|rfl);done) (by (refine leQH_spec ?_);(try simp only [seval,go_sem]);done) ?_ ?_<;>(try (omega))))
     all_goals (try exact ⟨by omega,hf2⟩)
    ·have hf2:false=R:=by rw [← hf];simp [h2]
     subst hf2
     (all_goals (try have hZ:=(And.intro hx' hy'));(repeat' (first|(with_reducible refine isCv ?_;intro hc;(try simp only [bls,reduceCtorEq] at hc);(try (exfalso;omega)))|(with_reducible refine ListD.nil ?_)|((with_reducible refine isListD ?_);(with_reducible first|refine ListD.step (by simp only [seval,go_sem,rowVc,hZ];rfl) ?_|refine ListD.step (by simp (disch:=omega) only [seval,go_sem,cnd,intV,shV,convV,strV,rowVc,hZ];rfl) ?_))|(with_reducible refine isDrawn ?_;refine Tri.drawnD mix (by kernel_rfl) (by simp only [l_3,l_4];rfl) ?_)|(with_reducible refine isRet ?_;refine RetV (rs:=[.tmp 4]) (by with_unfolding_all rfl) rfl ?_<;>simp only [seval,go_sem]<;>(repeat' (with_reducible apply And.intro))<;>(try rfl))|(with_reducible (refine TVq (st:=[]) ?_))|simp only [seval,go_sem,rowVc,hZ]|(with_reducible first|refine oV_st (by simp (disch:=omega) only [seval,go_sem,cnd,intV,shV,convV,strV,rowVc,hZ];rfl) ?_|refine cV_split (cvI ?_) (cvI ?_))))<;>(try (fail));all_goals (try clear hZ))
   ·have hf2:false=R:=by rw [← hf];simp [h1]
    subst hf2
    (all_goals (try have hZ:=(And.intro hx' hy'));(repeat' (first|(with_reducible refine isCv ?_;intro hc;(try simp only [bls,reduceCtorEq] at hc);(try (exfalso;omega)))|(with_reducible refine ListD.nil ?_)|((with_reducible refine isListD ?_);(with_reducible first|refine ListD.step (by simp only [seval,go_sem,rowVc,hZ];rfl) ?_|refine ListD.step (by simp (disch:=omega) only [seval,go_sem,cnd,intV,shV,convV,strV,rowVc,hZ];rfl) ?_))|(with_reducible refine isDrawn ?_;refine Tri.drawnD mix (by kernel_rfl) (by simp only [l_3,l_4];rfl) ?_)|(with_reducible refine isRet ?_;refine RetV (rs:=[.tmp 4]) (by with_unfolding_all rfl) rfl ?_<;>simp only [seval,go_sem]<;>(repeat' (with_reducible apply And.intro))<;>(try rfl))|(with_reducible (refine TVq (st:=[]) ?_))|simp only [seval,go_sem,rowVc,hZ]|(with_reducible first|refine oV_st (by simp (disch:=omega) only [seval,go_sem,cnd,intV,shV,convV,strV,rowVc,hZ];rfl) ?_|refine cV_split (cvI ?_) (cvI ?_))))<;>(try (fail));all_goals (try clear hZ))
  ·rw [List.drop_eq_nil_of_le (by omega),List.drop_eq_nil_of_le (by omega)] at hf
   have hf2:true=R:=by rw [← hf];simp
   subst hf2
   ((repeat' (first|(with_reducible refine isRet ?_;refine RetV (rs:=[.tmp 4]) (by with_unfolding_all rfl) rfl ?_<;>simp only [seval,go_sem]<;>(repeat' (with_reducible apply And.intro))<;>(try rfl))|(with_reducible (refine TVq (st:=[]) ?_))|simp only [seval,go_sem,hn]|(with_reducible refine oV_st (by simp (disch:=omega) only [seval,go_sem,cnd,intV,shV,convV,strV,hn];rfl) ?_)))<;>(try (fail)))
 ·have e:decide (a=b)=false:=by
   rw [decide_eq_false_iff_not];intro e;subst e;exact hn rfl
  rw [e]
  refine of_tri [] [] Tryz.func14 rfl call14 rfl (by decide) (by decide) rfl rfl Tryz.ntmps14 (by simp (disch:=omega) only [seval,go_sem,cnd,intV,shV,convV,strV,List.replicate,l_2,l_1];rfl) (by simp (disch:=omega) only [seval,go_sem,cnd,intV,shV,convV,strV,l_2,l_1];rfl) ?_
  ((repeat' (first|(with_reducible refine isRet ?_;refine RetV (rs:=[.tmp 4]) (by with_unfolding_all rfl) rfl ?_<;>simp only [seval,go_sem]<;>(repeat' (with_reducible apply And.intro))<;>(try rfl))|(with_reducible (refine TVq (st:=[]) ?_))|simp only [seval,go_sem]|(with_reducible refine oV_st (by simp (disch:=omega) only [seval,go_sem,cnd,intV,shV,convV,strV];rfl) ?_)))<;>(try (fail)))
set_option maxRecDepth 100000 in set_option maxHeartbeats 6400000 in
theorem insi_calls {l:List Int} {n:Int} (hl:l.length≤1000000):ACalls Tryz.prog 34 [.sl 1 (l.map rowI), .sc (.int .i64 n)] (.sl 1 ((insI n l).map rowI)) []:=by
 generalize hR:insI n l=R
 refine of_tri [] [36,38,39,43] Tryz.func34 rfl call34 rfl (by decide) (by decide) rfl rfl Tryz.ntmps34 (by simp (disch:=omega) only [seval,go_sem,cnd,intV,shV,convV,strV,List.replicate,l_2,l_1];rfl) (by simp (disch:=omega) only [seval,go_sem,cnd,intV,shV,convV,strV,l_2,l_1];rfl) ?_
 ((repeat' (first|(with_reducible (refine TVq (st:=[]) ?_))|simp only [seval,go_sem]))<;>(try (fail)))
 all_goals (with_reducible refine Tri.loopU (fun (k:Nat)=>[(5,.sc (.int .i64 k)),(6,.any),(7,.any),(8,.any),(9,.any),(10,.any),(11,.any),(12,.any),(13,.any),(14,.any),(15,.any),(16,.any),(17,.any),(18,.any),(19,.any)]) (fun (k:Nat)=>[]) (fun (k:Nat)=>k≤l.length∧l.take k++insI n (l.drop k)=R) (fun (k:Nat)=>l.length-k) (0) (⟨Nat.zero_le _,by simpa using hR⟩) (by intro _;simp (disch:=omega) only [seval,go_sem,cnd,intV,shV,convV,strV];rfl) (by intro _;simp (disch:=omega) only [seval,go_sem,cnd,intV,shV,convV,strV];rfl) (by (refine leQL_spec ?_);(try simp only [seval,go_sem]);done) (by (refine leQH_spec ?_);(try simp only [seval,go_sem]);done) (fun k hI=>?_))
 all_goals
  obtain ⟨hk,hf⟩:=hI
  have htl:((l.map rowI).take k).length=k:=by rw [List.length_take,List.length_map];omega
  have hdl:((l.map rowI).drop k).length=l.length-k:=by rw [List.length_drop,List.length_map]
  have h71:(((l.map rowI).take k)++[[D.sc (.int .i64 n)]]).length=k+1:=by rw [List.length_append,htl];rfl
  have hE:(((l.map rowI).take k)++[[D.sc (.int .i64 n)]]++(l.map rowI).drop k)=(l.take k++n::l.drop k).map rowI:=by simp [rowI]
  have h75:((l.take k++n::l.drop k).map rowI).length=l.length+1:=by rw [← hE,List.length_append,h71,hdl];omega
  have htk:((l.take k++n::l.drop k).map rowI).take (l.length+1)=(l.take k++n::l.drop k).map rowI:=List.take_of_length_le (by rw [h75];exact Nat.le_refl _)
  by_cases hkl:k<l.length
  ·obtain ⟨y,hy⟩:=get_lt hkl
   have hy':=get_map rowI hy
   rw [drop_get hy,insI] at hf
   by_cases c1:y<n
   ·rw [if_pos c1] at hf
    ((repeat' (first|(with_reducible (refine TVq (st:=[]) ?_))|simp only [seval,go_sem,hy',rowI]|(with_reducible refine oV_st (by simp (disch:=omega) only [seval,go_sem,cnd,intV,shV,convV,strV,hy',rowI];rfl) ?_)))<;>(try (fail)))
    all_goals (try (refine isNextM (k+1) (by (refine leQL_spec ?_);(try simp only [seval,go_sem]);first|((repeat' (with_reducible apply And.intro))<;>first|rfl);done) (by (refine leQH_spec ?_);(try simp only [seval,go_sem]);done) ?_ ?_<;>(try (omega))))
    all_goals (try exact ⟨by omega,by rw [← hf,List.take_add_one,hy];simp⟩)
   ·rw [if_neg c1] at hf
    by_cases c2:y=n
    ·rw [if_pos c2, ← drop_get hy,List.take_append_drop] at hf
     subst hf
     ((repeat' (first|(with_reducible refine isRet ?_;refine RetV (rs:=[.tmp 4]) (by with_unfolding_all rfl) rfl ?_<;>simp only [seval,go_sem]<;>(repeat' (with_reducible apply And.intro))<;>(try rfl))|(with_reducible (refine TVq (st:=[]) ?_))|simp only [seval,go_sem,hy',rowI]|(with_reducible refine oV_st (by simp (disch:=omega) only [seval,go_sem,cnd,intV,shV,convV,strV,hy',rowI];rfl) ?_)))<;>(try (fail)))
    ·rw [if_neg c2, ← drop_get hy] at hf
     subst hf
     (all_goals (try have hZ:=(And.intro hy' (And.intro h71 (And.intro hdl (And.intro htl (And.intro hE (And.intro h75 htk)))))));(repeat' (first|((with_reducible refine isTriD ?_);((with_reducible first|refine TriD.step (by simp only [seval,go_sem,rowI,hZ];rfl) ?_|refine TriD.step (by simp (disch:=omega) only [seval,go_sem,cnd,intV,shV,convV,strV,rowI,hZ];rfl) ?_);refine LVs (st:=[]) ?_))|(with_reducible refine isDrawnN 6 ?_;refine Tri.mixedP 6 mix 12 rfl (.f 0 <| .f 1 <| .f 2 <| .f 4 <| .f 7 <| .f 8 <| .f 9 <| .a <| .b 3 (.a <| .b 5 (.a <| .b 6 (.a <| .b 10 (.f 11 <| .d) .e) .e) .e) <| .b 5 (.a <| .b 3 (.a <| .b 6 (.a <| .b 10 (.f 11 <| .d) .e) .e) .e) .e) (by kernel_rfl) ?_)|(with_reducible refine isAnyP ?_;first|refine AnyP.D ?_|refine AnyP.F (by simp only [seval,go_sem,l_7,l_6];rfl) (by first|(simp only [seval,go_sem,rowI,hZ];done)) (by first|(simp only [seval,go_sem,rowI,hZ];with_reducible rfl)|(simp (disch:=omega) only [seval,go_sem,cnd,intV,shV,convV,strV,rowI,hZ];with_reducible rfl)) ?_|refine AnyP.A ?_)|(with_reducible first|exact NextsP.E|refine NextsP.B (by simp only [seval,go_sem,l_7,l_6];rfl) ?_ ?_)|(with_reducible refine isRet ?_;(refine RetOK.frz 43 (by simp only [seval,go_sem];rfl) (by simp only [seval,go_sem,rowI,hZ];rfl) ?_);(with_reducible refine isRet ?_;refine RetOK.q rfl rfl (by simp only [seval,go_sem];rfl) (by decide) (by simp only [seval,go_sem];rfl) (by simp only [seval,go_sem];rfl) rfl ?_<;>(try simp only [seval,go_sem,rowI,hZ])<;>(repeat' (with_reducible apply And.intro))<;>(try rfl)))|(with_reducible (refine TVq (st:=[]) ?_))|simp only [seval,go_sem,rowI,hZ]|(with_reducible refine oV_st (by simp (disch:=omega) only [seval,go_sem,cnd,intV,shV,convV,strV,rowI,hZ];rfl) ?_)))<;>(try (fail));all_goals (try clear hZ))
  ·have e:l.drop k=[]:=List.drop_eq_nil_of_le (by omega)
   have ek:k=l.length:=by omega
   rw [e] at hf hE h75 htk
   subst hf
   have e2:insI n []=[n]:=rfl
   rw [e2]
   (all_goals (try have hZ:=(And.intro h71 (And.intro hdl (And.intro htl (And.intro hE (And.intro h75 htk))))));(repeat' (first|((with_reducible refine isTriD ?_);((with_reducible first|refine TriD.step (by simp only [seval,go_sem,hZ];rfl) ?_|refine TriD.step (by simp (disch:=omega) only [seval,go_sem,cnd,intV,shV,convV,strV,hZ];rfl) ?_);refine LVs (st:=[]) ?_))|(with_reducible refine isDrawnN 6 ?_;refine Tri.mixedP 6 mix 12 rfl (.f 0 <| .f 1 <| .f 2 <| .f 4 <| .f 7 <| .f 8 <| .f 9 <| .a <| .b 3 (.a <| .b 5 (.a <| .b 6 (.a <| .b 10 (.f 11 <| .d) .e) .e) .e) <| .b 5 (.a <| .b 3 (.a <| .b 6 (.a <| .b 10 (.f 11 <| .d) .e) .e) .e) .e) (by kernel_rfl) ?_)|(with_reducible refine isAnyP ?_;first|refine AnyP.D ?_|refine AnyP.F (by simp only [seval,go_sem,l_7,l_6];rfl) (by first|(simp only [seval,go_sem,hZ];done)) (by first|(simp only [seval,go_sem,hZ];with_reducible rfl)|(simp (disch:=omega) only [seval,go_sem,cnd,intV,shV,convV,strV,hZ];with_reducible rfl)) ?_|refine AnyP.A ?_)|(with_reducible first|exact NextsP.E|refine NextsP.B (by simp only [seval,go_sem,l_7,l_6];rfl) ?_ ?_)|(with_reducible refine isRet ?_;(refine RetOK.frz 43 (by simp only [seval,go_sem];rfl) (by simp only [seval,go_sem,hZ];rfl) ?_);(with_reducible refine isRet ?_;refine RetOK.q rfl rfl (by simp only [seval,go_sem];rfl) (by decide) (by simp only [seval,go_sem];rfl) (by simp only [seval,go_sem];rfl) rfl ?_<;>(try simp only [seval,go_sem,hZ])<;>(repeat' (with_reducible apply And.intro))<;>(try rfl)))|(with_reducible (refine TVq (st:=[]) ?_))|simp only [seval,go_sem,hZ]|(with_reducible refine oV_st (by simp (disch:=omega) only [seval,go_sem,cnd,intV,shV,convV,strV,hZ];rfl) ?_)))<;>(try (fail));all_goals (try clear hZ))
set_option maxRecDepth 100000 in set_option maxHeartbeats 6400000 in
theorem rreach_calls {com:Int} {os:List Ob} {ps:List Pn} {bd pg:List (List D)} (ho:os.length≤1000) (hl:(os.flatMap vnsO).length≤1000) (hp:ps.length≤100000) (hg: ∀ x∈versR os [],x.v.pages.length≤1000):ACalls Tryz.prog 13 [.agg [.sc (.int .i64 com),.sl 2 (os.map rowOb),.sl 4 bd,.sl 2 (ps.map rowP),.sl 3 pg]] (.sl 1 ((reachR ps (versR os [])).map rowI)) []:=by
 have hen:=versr_calls (com:=com) (bd:=bd) (pn:=ps.map rowP) (pg:=pg) ho (vers_le hl)
 have hel:(versR os []).length≤1000:=by rw [versR_sortV,sortV_len];simpa using hl
 unfold reachR
 generalize versR os []=E at *
 generalize hG:insAll [] (livePgs ps E)=G
 refine of_tri [] [1,8,31,46] Tryz.func13 rfl call13 rfl (by decide) (by decide) rfl rfl Tryz.ntmps13 (by simp (disch:=omega) only [seval,go_sem,cnd,intV,shV,convV,strV,List.replicate,l_2,l_1];rfl) (by simp (disch:=omega) only [seval,go_sem,cnd,intV,shV,convV,strV,l_2,l_1];rfl) ?_
 ((repeat' (first|((with_reducible refine isTriD ?_);((with_reducible refine isCallD ?_);((with_reducible refine LVcall (st:=[]) ?_);simp only [seval,go_sem];(refine CallL.c (hen) ?_))))|(with_reducible (refine TVq (st:=[]) ?_))|simp only [seval,go_sem]))<;>(try (fail)))
 all_goals (refine Tri.bx 1 (by simp only [seval,go_sem];rfl) (by simp only [seval,go_sem];first|done|rfl) (by simp only [seval,go_sem];rfl) ?_)
 all_goals (with_reducible refine Tri.loopV (fun (t:Nat×List Int)=>[(5,.sc (.int .i64 t.1)),(3,.sl 1 (t.2.map rowI)),(6,.any),(9,.any),(10,.any),(11,.any),(12,.any),(13,.any),(14,.any),(15,.any),(16,.any),(17,.any),(18,.any),(19,.any),(20,.any),(21,.any),(22,.any),(23,.any),(24,.any),(25,.any),(26,.any),(27,.any),(28,.any),(29,.any),(30,.any),(31,.any),(32,.any),(33,.any),(34,.any),(35,.any),(36,.any),(37,.any),(38,.any),(39,.any),(40,.any),(41,.any),(42,.any),(43,.any),(44,.any),(45,.any),(46,.any)]) (fun (t:Nat×List Int)=>[(31,.dead),(46,.dead)]) (fun (t:Nat×List Int)=>t.1≤E.length∧t.2.length≤1000*t.1∧insAll t.2 (livePgs ps (E.drop t.1))=G) (fun (t:Nat×List Int)=>E.length-t.1) ((0,[])) (⟨Nat.zero_le _,by simp,by simpa using hG⟩) (by intro _;simp (disch:=omega) only [seval,go_sem,cnd,intV,shV,convV,strV];rfl) (by intro _;simp (disch:=omega) only [seval,go_sem,cnd,intV,shV,convV,strV];rfl) (by (refine leQL_spec ?_);(try simp only [seval,go_sem]);done) (by (refine leQH_spec ?_);(try simp only [seval,go_sem]);done) (fun t hI=>?_))
 all_goals
  obtain ⟨k,a⟩:=t
  obtain ⟨hk,hal,hf⟩:=hI
  simp only at hk hal hf
  by_cases hlt:k<E.length
  ·obtain ⟨x,hx⟩:=get_lt hlt
   have hx':=get_map rowVn hx
   have hxp:=hg x (List.mem_of_getElem? hx)
   have hgc:=rgarb_calls (com:=com) (f:=x.v.from_) (t:=x.v.to) (s:=x.v.size) (p:=x.v.pages.map rowI) (od:=os.map rowOb) (bd:=bd) (pg:=pg) hp
   rw [show (!(x.v.to==0) && !coversP x.v.from_ x.v.to ps)=garbV ps x.v from rfl] at hgc
   have hk1:1000*(k+1)=1000*k+1000:=by omega
   rw [drop_get hx,livePgs] at hf
   cases hgb:garbV ps x.v with
   | true=>
     rw [if_pos hgb] at hf
     rw [hgb] at hgc
     by_cases hz:x.v.pages.length=0
     ·((repeat' (first|(with_reducible (refine TVq (st:=[]) ?_))|simp only [seval,go_sem,hx',rowVn]|(with_reducible refine oV_st (by simp (disch:=omega) only [seval,go_sem,cnd,intV,shV,convV,strV,hx',rowVn];rfl) ?_)))<;>(try (fail)))
      all_goals (with_reducible refine Tri.loopV (fun (j:Nat)=>[(6,.sc (.int .i64 j)),(3,.sl 1 (a.map rowI)),(15,.any),(16,.any),(17,.any),(18,.any),(19,.any),(20,.any),(21,.any),(22,.any),(23,.any),(24,.any),(25,.any),(26,.any),(27,.any),(28,.any),(29,.any),(30,.any),(31,.any),(32,.any),(33,.any),(34,.any),(35,.any),(36,.any),(37,.any),(38,.any),(39,.any),(40,.any),(41,.any),(42,.any),(43,.any),(44,.any),(45,.any),(46,.any)]) (fun (j:Nat)=>[(31,.dead),(46,.dead)]) (fun (j:Nat)=>j=0) (fun (j:Nat)=>0) (0) (rfl) (by intro _;simp (disch:=omega) only [seval,go_sem,cnd,intV,shV,convV,strV];rfl) (by intro _;simp (disch:=omega) only [seval,go_sem,cnd,intV,shV,convV,strV];rfl) (by (refine leQL_spec ?_);(try simp only [seval,go_sem]);done) (by (refine leQH_spec ?_);(try simp only [seval,go_sem]);done) (fun j hI=>?_))
      all_goals subst hI
      all_goals (all_goals (try have hZ:=(And.intro hx' hz));(repeat' (first|(with_reducible refine ListD.nil ?_)|((with_reducible refine isListD ?_);(with_reducible first|refine ListD.step (by simp only [seval,go_sem,rowVn,hZ];rfl) ?_|refine ListD.step (by simp (disch:=omega) only [seval,go_sem,cnd,intV,shV,convV,strV,rowVn,hZ];rfl) ?_))|(with_reducible refine isDrawn ?_;refine Tri.drawnD mix (by kernel_rfl) (by simp only [l_3,l_4];rfl) ?_)|(with_reducible (refine TVq (st:=[]) ?_))|simp only [seval,go_sem,rowVn,hZ]|(with_reducible refine oV_st (by simp (disch:=omega) only [seval,go_sem,cnd,intV,shV,convV,strV,rowVn,hZ];rfl) ?_)))<;>(try (fail));all_goals (try clear hZ))
      all_goals (try ((refine isNextVM ((k+1,a)) (Imp.les (by (refine leQL_spec ?_);(try simp only [seval,go_sem]);first|((repeat' (with_reducible apply And.intro))<;>first|rfl);done) (by (refine leQH_spec ?_);(try simp only [seval,go_sem]);done)) ?_ ?_)<;>(try (omega))))
      all_goals (try exact ⟨by simp only;omega,by simp only;omega,hf⟩)
     ·((repeat' (first|(with_reducible (refine TVq (st:=[]) ?_))|simp only [seval,go_sem,hx',rowVn]|(with_reducible refine oV_st (by simp (disch:=omega) only [seval,go_sem,cnd,intV,shV,convV,strV,hx',rowVn];rfl) ?_)))<;>(try (fail)))
      all_goals (with_reducible refine Tri.loopV (fun (j:Nat)=>[(6,.sc (.int .i64 j)),(3,.sl 1 (a.map rowI)),(15,.any),(16,.any),(17,.any),(18,.any),(19,.any),(20,.any),(21,.any),(22,.any),(23,.any),(24,.any),(25,.any),(26,.any),(27,.any),(28,.any),(29,.any),(30,.any),(31,.any),(32,.any),(33,.any),(34,.any),(35,.any),(36,.any),(37,.any),(38,.any),(39,.any),(40,.any),(41,.any),(42,.any),(43,.any),(44,.any),(45,.any),(46,.any)]) (fun (j:Nat)=>[(31,.dead),(46,.dead)]) (fun (j:Nat)=>j=0) (fun (j:Nat)=>0) (0) (rfl) (by intro _;simp (disch:=omega) only [seval,go_sem,cnd,intV,shV,convV,strV];rfl) (by intro _;simp (disch:=omega) only [seval,go_sem,cnd,intV,shV,convV,strV];rfl) (by (refine leQL_spec ?_);(try simp only [seval,go_sem]);done) (by (refine leQH_spec ?_);(try simp only [seval,go_sem]);done) (fun j hI=>?_))
      all_goals subst hI
      all_goals ((repeat' (first|(with_reducible refine ListD.nil ?_)|((with_reducible refine isListD ?_);first|(with_reducible refine ListD.step (by simp only [seval,go_sem,hx',rowVn];rfl) ?_)|((with_reducible refine isCallV ?_);((with_reducible (refine ListD.dE (by simp only [seval,go_sem,hx',rowVn];rfl) (by simp only [seval,go_sem,hx',rowVn];rfl) ?_));refine CallW.c (hgc) (by simp only [seval,go_sem,hx',rowVn];rfl) ?_))|(with_reducible refine ListD.step (by simp (disch:=omega) only [seval,go_sem,cnd,intV,shV,convV,strV,hx',rowVn];rfl) ?_))|(with_reducible refine isDrawn ?_;refine Tri.drawnD mix (by kernel_rfl) (by simp only [l_3,l_4];rfl) ?_)|(with_reducible (refine TVq (st:=[]) ?_))|simp only [seval,go_sem,hx',rowVn]|(with_reducible refine oV_st (by simp (disch:=omega) only [seval,go_sem,cnd,intV,shV,convV,strV,hx',rowVn];rfl) ?_)))<;>(try (fail)))
      all_goals (try ((refine isNextVM ((k+1,a)) (Imp.les (by (refine leQL_spec ?_);(try simp only [seval,go_sem]);first|((repeat' (with_reducible apply And.intro))<;>first|rfl);done) (by (refine leQH_spec ?_);(try simp only [seval,go_sem]);done)) ?_ ?_)<;>(try (omega))))
      all_goals (try exact ⟨by simp only;omega,by simp only;omega,hf⟩)
   | false=>
     rw [if_neg (by rw [hgb];decide)] at hf
     rw [hgb] at hgc
     generalize hrest:livePgs ps (E.drop (k+1))=rest at *
     ((repeat' (first|(with_reducible (refine TVq (st:=[]) ?_))|simp only [seval,go_sem,hx',rowVn]|(with_reducible refine oV_st (by simp (disch:=omega) only [seval,go_sem,cnd,intV,shV,convV,strV,hx',rowVn];rfl) ?_)))<;>(try (fail)))
     all_goals (with_reducible refine Tri.loopV (fun (t:Nat×List Int)=>[(6,.sc (.int .i64 t.1)),(3,.sl 1 (t.2.map rowI)),(15,.any),(16,.any),(17,.any),(18,.any),(19,.any),(20,.any),(21,.any),(22,.any),(23,.any),(24,.any),(25,.any),(26,.any),(27,.any),(28,.any),(29,.any),(30,.any),(31,.any),(32,.any),(33,.any),(34,.any),(35,.any),(36,.any),(37,.any),(38,.any),(39,.any),(40,.any),(41,.any),(42,.any),(43,.any),(44,.any),(45,.any),(46,.any)]) (fun (t:Nat×List Int)=>[(31,.dead),(46,.dead)]) (fun (t:Nat×List Int)=>t.1≤x.v.pages.length∧t.2.length≤1000*k+t.1∧insAll t.2 (x.v.pages.drop t.1++rest)=G) (fun (t:Nat×List Int)=>x.v.pages.length-t.1) ((0,a)) (⟨Nat.zero_le _,by simpa using hal,by simpa using hf⟩) (by intro _;simp (disch:=omega) only [seval,go_sem,cnd,intV,shV,convV,strV];rfl) (by intro _;simp (disch:=omega) only [seval,go_sem,cnd,intV,shV,convV,strV];rfl) (by (refine leQL_spec ?_);(try simp only [seval,go_sem]);done) (by (refine leQH_spec ?_);(try simp only [seval,go_sem]);done) (fun t hI=>?_))
     all_goals
      obtain ⟨j,a2⟩:=t
      obtain ⟨hj,hal2,hf2⟩:=hI
      simp only at hj hal2 hf2
      by_cases hlt2:j<x.v.pages.length
      ·obtain ⟨z,hz⟩:=get_lt hlt2
       have hz':=get_map rowI hz
       rw [drop_get hz,List.cons_append,insAll] at hf2
       have hins:=insi_calls (l:=a2) (n:=z) (by omega)
       have hil:=insI_len z a2
       generalize insI z a2=a3 at *
       (all_goals (try have hZ:=(And.intro hx' hz'));(repeat' (first|((with_reducible refine isTriD ?_);((with_reducible refine isCallD ?_);((with_reducible refine LVcall (st:=[]) ?_);simp only [seval,go_sem,rowVn,rowI,hZ];(refine CallL.c (hins) ?_))))|(with_reducible refine ListD.nil ?_)|((with_reducible refine isListD ?_);first|(with_reducible refine ListD.step (by simp only [seval,go_sem,rowVn,rowI,hZ];rfl) ?_)|((with_reducible refine isCallV ?_);((with_reducible (refine ListD.dE (by simp only [seval,go_sem,rowVn,rowI,hZ];rfl) (by simp only [seval,go_sem,rowVn,rowI,hZ];rfl) ?_));refine CallW.c (hgc) (by simp only [seval,go_sem,rowVn,rowI,hZ];rfl) ?_))|(with_reducible refine ListD.step (by simp (disch:=omega) only [seval,go_sem,cnd,intV,shV,convV,strV,rowVn,rowI,hZ];rfl) ?_))|(with_reducible refine isDrawn ?_;refine Tri.drawnD mix (by kernel_rfl) (by simp only [l_3,l_4];rfl) ?_)|(with_reducible (refine TVq (st:=[]) ?_))|simp only [seval,go_sem,rowVn,rowI,hZ]|(with_reducible refine oV_st (by simp (disch:=omega) only [seval,go_sem,cnd,intV,shV,convV,strV,rowVn,rowI,hZ];rfl) ?_)))<;>(try (fail));all_goals (try clear hZ))
       all_goals (try ((refine isNextVM ((j+1,a3)) (Imp.les (by (refine leQL_spec ?_);(try simp only [seval,go_sem]);first|((repeat' (with_reducible apply And.intro))<;>first|rfl);done) (by (refine leQH_spec ?_);(try simp only [seval,go_sem]);done)) ?_ ?_)<;>(try (omega))))
       all_goals (try exact ⟨by simp only;omega,by simp only;omega,hf2⟩)
      ·rw [List.drop_eq_nil_of_le (by omega),List.nil_append] at hf2
       ((repeat' (first|(with_reducible refine ListD.nil ?_)|((with_reducible refine isListD ?_);(with_reducible first|refine ListD.step (by simp only [seval,go_sem,hx',rowVn];rfl) ?_|refine ListD.step (by simp (disch:=omega) only [seval,go_sem,cnd,intV,shV,convV,strV,hx',rowVn];rfl) ?_))|(with_reducible refine isDrawn ?_;refine Tri.drawnD mix (by kernel_rfl) (by simp only [l_3,l_4];rfl) ?_)|(with_reducible (refine TVq (st:=[]) ?_))|simp only [seval,go_sem,hx',rowVn]|(with_reducible refine oV_st (by simp (disch:=omega) only [seval,go_sem,cnd,intV,shV,convV,strV,hx',rowVn];rfl) ?_)))<;>(try (fail)))
       all_goals (try ((refine isNextVM ((k+1,a2)) (Imp.les (by (refine leQL_spec ?_);(try simp only [seval,go_sem]);first|((repeat' (with_reducible apply And.intro))<;>first|rfl);done) (by (refine leQH_spec ?_);(try simp only [seval,go_sem]);done)) ?_ ?_)<;>(try (omega))))
       all_goals (try exact ⟨by simp only;omega,by simp only;omega,by simp only [hrest];exact hf2⟩)
  ·rw [List.drop_eq_nil_of_le (by omega),livePgs,insAll] at hf
   subst hf
   ((repeat' (first|(with_reducible refine isRet ?_;refine RetV (rs:=[.tmp 2]) (by with_unfolding_all rfl) rfl ?_<;>simp only [seval,go_sem]<;>(repeat' (with_reducible apply And.intro))<;>(try rfl))|(with_reducible (refine TVq (st:=[]) ?_))|simp only [seval,go_sem]|(with_reducible refine oV_st (by simp (disch:=omega) only [seval,go_sem,cnd,intV,shV,convV,strV];rfl) ?_)))<;>(try (fail)))
theorem skip_drop {a:Vc}: ∀ {l:List Vn} {k:Nat} {x:Vn},skipR a (l.drop k)=skipR a l→l[k]? = some x→befP x a=true→skipR a (l.drop (k+1))=skipR a l:=fun {l k x} h hx hb=>by
 rw [drop_get hx,skipR,if_pos hb] at h;exact h
set_option maxRecDepth 100000 in set_option maxHeartbeats 12800000 in
theorem rnext_calls {com c:Int} {os:List Ob} {ps:List Pn} {bd pg:List (List D)} {p:Vc} (ho:os.length≤1000) (hl:(os.flatMap vnsO).length≤1000) (hp:ps.length≤100000) (hcr:c≤9223372036854775807) (hfr: ∀ x∈versR os [],-9223372036854775808≤x.v.from_):ACalls Tryz.prog 18 [.agg [.sc (.int .i64 com),.sl 2 (os.map rowOb),.sl 4 bd,.sl 2 (ps.map rowP),.sl 3 pg],.agg (rowVc p),.sc (.int .i64 c)] (.tup [.sl 2 ((nextR ps (skipR p (versR os [])) c [] p).1.map rowVc),.agg (rowVc (nextR ps (skipR p (versR os [])) c [] p).2.1),.sc (.bool (nextR ps (skipR p (versR os [])) c [] p).2.2)]) []:=by
 have hen:=versr_calls (com:=com) (bd:=bd) (pn:=ps.map rowP) (pg:=pg) ho (vers_le hl)
 have hel:(versR os []).length≤1000:=by rw [versR_sortV,sortV_len];simpa using hl
 generalize versR os []=E at *
 generalize hG:nextR ps (skipR p E) c [] p=G
 obtain ⟨GV,⟨GA,GB⟩,GD⟩:=G
 obtain ⟨pa,pb⟩:=p
 simp only [rowVc]
 refine of_tri [] [3,4,7,14,24,26,47,61,62,67] Tryz.func18 rfl call18 rfl (by decide) (by decide) rfl rfl Tryz.ntmps18 (by simp (disch:=omega) only [seval,go_sem,cnd,intV,shV,convV,strV,List.replicate,l_2,l_1];rfl) (by simp (disch:=omega) only [seval,go_sem,cnd,intV,shV,convV,strV,l_2,l_1];rfl) ?_
 ((repeat' (first|((with_reducible refine isTriD ?_);((with_reducible refine isCallD ?_);((with_reducible refine LVcall (st:=[]) ?_);simp only [seval,go_sem];(refine CallL.c (hen) ?_))))|(with_reducible (refine TVq (st:=[]) ?_))|simp only [seval,go_sem]))<;>(try (fail)))
 all_goals (refine Tri.bx 3 (by simp only [seval,go_sem];rfl) (by simp only [seval,go_sem];first|done|rfl) (by simp only [seval,go_sem];rfl) ?_)
 all_goals (with_reducible refine Tri.loopU (fun (k:Nat)=>[(11,.sc (.int .i64 k)),(15,.any),(16,.any),(17,.any),(18,.any),(19,.any),(20,.any),(21,.any),(22,.any),(23,.any),(24,.any),(25,.any),(26,.any),(27,.any),(28,.any),(29,.any)]) (fun (k:Nat)=>[(24,.dead),(26,.dead)]) (fun (k:Nat)=>k≤E.length∧skipR ⟨pa,pb⟩ (E.drop k)=skipR ⟨pa,pb⟩ E) (fun (k:Nat)=>E.length-k) (0) (⟨Nat.zero_le _,rfl⟩) (by intro _;simp (disch:=omega) only [seval,go_sem,cnd,intV,shV,convV,strV];rfl) (by intro _;simp (disch:=omega) only [seval,go_sem,cnd,intV,shV,convV,strV];rfl) (by (refine leQL_spec ?_);(try simp only [seval,go_sem]);done) (by (refine leQH_spec ?_);(try simp only [seval,go_sem]);done) (fun k hI=>?_))
 all_goals obtain ⟨hk0,hf0⟩:=hI
 have key: ∀ {R:Prop},(skipR ⟨pa,pb⟩ E=E.drop k→R)→skipR ⟨pa,pb⟩ E=E.drop k→R:=fun h=>h
 by_cases hgo: ∃ x,E[k]? = some x∧befP x ⟨pa,pb⟩=true
 ·obtain ⟨x,hx,hb⟩:=hgo
  have hlt:=(List.getElem?_eq_some_iff.1 hx).1
  have hx':=get_map rowVn hx
  have hbc:=before_calls (a:=x.id) (b:=x.v.from_) (c:=pa) (d:=pb)
  rw [show ptLt x.id x.v.from_ pa pb=befP x ⟨pa,pb⟩ from rfl,hb] at hbc
  have hf1:=skip_drop hf0 hx hb
  ((repeat' (first|(with_reducible refine ListD.nil ?_)|((with_reducible refine isListD ?_);first|(with_reducible refine ListD.step (by simp only [seval,go_sem,hx',rowVn];rfl) ?_)|((with_reducible refine isCallV ?_);((with_reducible (refine ListD.dE (by simp only [seval,go_sem,hx',rowVn];rfl) (by simp only [seval,go_sem,hx',rowVn];rfl) ?_));first|refine CallW.c (hbc) (by simp only [seval,go_sem,hx',rowVn];rfl) ?_|refine CallW.c (point_calls) (by simp only [seval,go_sem,hx',rowVn];rfl) ?_))|(with_reducible refine ListD.step (by simp (disch:=omega) only [seval,go_sem,cnd,intV,shV,convV,strV,hx',rowVn];rfl) ?_))|(with_reducible refine isDrawn ?_;refine Tri.drawnD mix (by kernel_rfl) (by simp only [l_3,l_4];rfl) ?_)|(with_reducible (refine TVq (st:=[]) ?_))|simp only [seval,go_sem,hx',rowVn]|(with_reducible refine oV_st (by simp (disch:=omega) only [seval,go_sem,cnd,intV,shV,convV,strV,hx',rowVn];rfl) ?_)))<;>(try (fail)))
  all_goals (try (refine isNextM (k+1) (by (refine leQL_spec ?_);(try simp only [seval,go_sem]);first|((repeat' (with_reducible apply And.intro))<;>first|rfl);done) (by (refine leQH_spec ?_);(try simp only [seval,go_sem]);done) ?_ ?_<;>(try (omega))))
  all_goals (try exact ⟨by omega,hf1⟩)
 ·have hsk:skipR ⟨pa,pb⟩ E=E.drop k:=by
   rw [← hf0]
   by_cases hlt:k<E.length
   ·obtain ⟨x,hx⟩:=get_lt hlt
    rw [drop_get hx,skipR,if_neg fun hb=>hgo ⟨x,hx,hb⟩]
   ·rw [List.drop_eq_nil_of_le (by omega)];rfl
  rw [hsk] at hG
  have hstop:(¬ k<E.length)∨ ∃ x,E[k]? = some x∧k<E.length∧befP x ⟨pa,pb⟩=false:=by
   by_cases hlt:k<E.length
   ·obtain ⟨x,hx⟩:=get_lt hlt
    refine .inr ⟨x,hx,hlt,?_⟩
    cases h:befP x ⟨pa,pb⟩ with
    | false=>rfl
    | true=>exact absurd ⟨x,hx,h⟩ hgo
   ·exact .inl hlt
  have hw: ∃ (z:Bool),True:=⟨true,trivial⟩
  rcases hstop with hno|⟨x,hx,hlt,hb⟩
  ·((repeat' (first|(with_reducible refine ListD.nil ?_)|((with_reducible refine isListD ?_);(with_reducible first|refine ListD.step (by simp only [seval,go_sem];rfl) ?_|refine ListD.step (by simp (disch:=omega) only [seval,go_sem,cnd,intV,shV,convV,strV];rfl) ?_))|(with_reducible refine isDrawn ?_;refine Tri.drawnD mix (by kernel_rfl) (by simp only [l_3,l_4];rfl) ?_)|(with_reducible (refine TVq (st:=[]) ?_))|simp only [seval,go_sem]))<;>(try (fail)))
   all_goals (refine Tri.virt 9 62 2 (by first|(simp only [seval,go_sem];done)) (by first|(simp only [seval,go_sem];done)) (by simp only [seval,go_sem];rfl) ?_)
   all_goals (with_reducible refine Tri.loopU (fun (z:Nat)=>[(12,.sc (.int .i64 0)),(11,.sc (.int .i64 k)),(9,.slo 62 2 0 0),(30,.any),(31,.any),(32,.any),(33,.any),(34,.any),(35,.any),(36,.any),(37,.any),(38,.any),(39,.any),(40,.any),(41,.any),(42,.any),(43,.any),(44,.any),(45,.any),(46,.any),(47,.any),(48,.any),(49,.any),(50,.any),(51,.any),(52,.any),(53,.any),(54,.any),(55,.any),(56,.any),(57,.any),(58,.any),(59,.any),(60,.any),(61,.any),(62,.any),(63,.any),(64,.any),(65,.any),(66,.any),(67,.any),(68,.any),(69,.any),(70,.any),(71,.any),(72,.any),(73,.any),(74,.any),(75,.any),(76,.any)]) (fun (z:Nat)=>[(62,.row 2 []),(47,.dead),(61,.dead),(67,.dead)]) (fun (z:Nat)=>True) (fun (z:Nat)=>0) (0) (trivial) (by intro _;simp (disch:=omega) only [seval,go_sem,cnd,intV,shV,convV,strV];rfl) (by intro _;simp (disch:=omega) only [seval,go_sem,cnd,intV,shV,convV,strV];rfl) (by (refine leQL_spec ?_);(try simp only [seval,go_sem]);done) (by (refine leQH_spec ?_);(try simp only [seval,go_sem]);done) (fun z hI=>?_))
   all_goals (rw [List.drop_eq_nil_of_le (by omega),nextR] at hG;simp only [Prod.mk.injEq,Vc.mk.injEq] at hG;obtain ⟨rfl,⟨rfl,rfl⟩,rfl⟩:=hG)
   all_goals have hke:k=E.length:=by omega
   all_goals by_cases hc0:0<c
   all_goals ((repeat' (first|((with_reducible refine isTriD ?_);((with_reducible first|refine TriD.step (by simp only [seval,go_sem,hke];rfl) ?_);refine LVs (st:=[]) ?_))|(with_reducible refine isDrawnN 15 ?_;(try (refine Tri.bx 3 (by simp only [seval,go_sem,hke];rfl) (by simp only [seval,go_sem,hke];fail) (by simp only [seval,go_sem,hke];rfl) ?_));refine Tri.mixedP 15 mix 9 rfl (.f 0 <| .f 2 <| .f 3 <| .f 4 <| .f 5 <| .f 6 <| .a <| .b 1 (.a <| .b 7 (.f 8 <| .d) .e) .e) (by kernel_rfl) ?_)|(with_reducible refine isAnyP ?_;first|refine AnyP.D ?_|refine AnyP.F (by simp only [seval,go_sem,l_7,l_6];rfl) (by first|(simp only [seval,go_sem,hke];done)) (by first|(simp only [seval,go_sem,hke];with_reducible rfl)|(simp (disch:=omega) only [seval,go_sem,cnd,intV,shV,convV,strV,hke];with_reducible rfl)) ?_|refine AnyP.A ?_)|(with_reducible first|exact NextsP.E|refine NextsP.B (by simp only [seval,go_sem,l_7,l_6];rfl) ?_ ?_)|(with_reducible refine isRet ?_;(refine RetOK.frz 62 (by simp only [seval,go_sem];rfl) (by simp only [seval,go_sem,hke];rfl) ?_);(with_reducible refine isRet ?_;refine RetOK.q rfl (by with_unfolding_all (show retD _ _ [.tmp 6,.cell 7 40,.tmp 8]=_);simp only [seval,go_sem];rfl) (by simp only [seval,go_sem];rfl) (by decide) (by simp only [seval,go_sem];rfl) (by simp only [seval,go_sem];rfl) rfl ?_<;>(try simp only [seval,go_sem,hke])<;>(repeat' (with_reducible apply And.intro))<;>(try rfl)))|(with_reducible (refine TVq (st:=[]) ?_))|simp only [seval,go_sem,hke]|(with_reducible refine oV_st (by simp (disch:=omega) only [seval,go_sem,cnd,intV,shV,convV,strV,hke];rfl) ?_)))<;>(try (fail)))
  ·have hx':=get_map rowVn hx
   have hbc:=before_calls (a:=x.id) (b:=x.v.from_) (c:=pa) (d:=pb)
   rw [show ptLt x.id x.v.from_ pa pb=befP x ⟨pa,pb⟩ from rfl,hb] at hbc
   ((repeat' (first|(with_reducible refine ListD.nil ?_)|((with_reducible refine isListD ?_);first|(with_reducible refine ListD.step (by simp only [seval,go_sem,hx',rowVn];rfl) ?_)|((with_reducible refine isCallV ?_);((with_reducible (refine ListD.dE (by simp only [seval,go_sem,hx',rowVn];rfl) (by simp only [seval,go_sem,hx',rowVn];rfl) ?_));first|refine CallW.c (hbc) (by simp only [seval,go_sem,hx',rowVn];rfl) ?_|refine CallW.c (point_calls) (by simp only [seval,go_sem,hx',rowVn];rfl) ?_))|(with_reducible refine ListD.step (by simp (disch:=omega) only [seval,go_sem,cnd,intV,shV,convV,strV,hx',rowVn];rfl) ?_))|(with_reducible refine isDrawn ?_;refine Tri.drawnD mix (by kernel_rfl) (by simp only [l_3,l_4];rfl) ?_)|(with_reducible (refine TVq (st:=[]) ?_))|simp only [seval,go_sem,hx',rowVn]))<;>(try (fail)))
   all_goals (refine Tri.virt 9 62 2 (by first|(simp only [seval,go_sem];done)) (by first|(simp only [seval,go_sem];done)) (by simp only [seval,go_sem];rfl) ?_)
   all_goals (with_reducible refine Tri.loopU (fun (t:Nat×Int×List Vc×Int×Int)=>[(11,.sc (.int .i64 t.1)),(12,.sc (.int .i64 t.2.1)),(9,.slo 62 2 0 t.2.2.1.length),(30,.any),(31,.any),(32,.any),(33,.any),(34,.any),(35,.any),(36,.any),(37,.any),(38,.any),(39,.any),(40,.any),(41,.any),(42,.any),(43,.any),(44,.any),(45,.any),(46,.any),(47,.any),(48,.any),(49,.any),(50,.any),(51,.any),(52,.any),(53,.any),(54,.any),(55,.any),(56,.any),(57,.any),(58,.any),(59,.any),(60,.any),(61,.any),(62,.any),(63,.any),(64,.any),(65,.any),(66,.any),(67,.any),(68,.any),(69,.any),(70,.any),(71,.any),(72,.any),(73,.any),(74,.any),(75,.any),(76,.any)]) (fun (t:Nat×Int×List Vc×Int×Int)=>[(62,.row 2 (t.2.2.1.map rowVc)),(4,.box [.sc (.int .i64 t.2.2.2.1),.sc (.int .i64 t.2.2.2.2)]),(47,.dead),(61,.dead),(67,.dead)]) (fun (t:Nat×Int×List Vc×Int×Int)=>t.1≤E.length∧0≤t.2.1∧t.2.1≤t.1∧t.2.2.1.length≤t.1∧nextR ps (E.drop t.1) (c-t.2.1) t.2.2.1 ⟨t.2.2.2.1,t.2.2.2.2⟩=(GV,⟨GA,GB⟩,GD)) (fun (t:Nat×Int×List Vc×Int×Int)=>E.length-t.1) ((k,0,[],pa,pb)) (⟨hk0,Int.le_refl _,by simp,by simp,by simpa using hG⟩) (by intro _;simp (disch:=omega) only [seval,go_sem,cnd,intV,shV,convV,strV];rfl) (by intro _;simp (disch:=omega) only [seval,go_sem,cnd,intV,shV,convV,strV];rfl) (by (refine leQL_spec ?_);(try simp only [seval,go_sem]);done) (by (refine leQH_spec ?_);(try simp only [seval,go_sem]);done) (fun t hI=>?_))
   all_goals
    obtain ⟨i,m,a,na,nb⟩:=t
    obtain ⟨hi,hm0,hm1,hal,hf⟩:=hI
    simp only at hi hm0 hm1 hal hf
    by_cases hlt2:i<E.length
    ·obtain ⟨y,hy⟩:=get_lt hlt2
     have hy':=get_map rowVn hy
     have hyf:=hfr y (List.mem_of_getElem? hy)
     rw [drop_get hy,nextR] at hf
     by_cases hmc:m<c
     ·rw [if_pos (by omega)] at hf
      have hgc:=rgarb_calls (com:=com) (f:=y.v.from_) (t:=y.v.to) (s:=y.v.size) (p:=y.v.pages.map rowI) (od:=os.map rowOb) (bd:=bd) (pg:=pg) hp
      rw [show (!(y.v.to==0) && !coversP y.v.from_ y.v.to ps)=garbV ps y.v from rfl] at hgc
      have ec:c-m-1=c-(m+1):=by omega
      rw [ec] at hf
      have hg:garbV ps y.v=true∨garbV ps y.v=false:=by cases garbV ps y.v<;>simp
      have hm:y.v.from_<9223372036854775807∨ ¬ y.v.from_<9223372036854775807:=by omega
      rcases hg with hg|hg<;>rcases hm with hm|hm
      ·rw [hg,if_pos rfl,bumpV,if_pos hm] at hf
       rw [hg] at hgc
       (all_goals (try have hZ:=(And.intro hy' hm));(repeat' (first|((with_reducible refine isTriD ?_);first|((with_reducible refine isCallD ?_);((with_reducible refine LVcall (st:=[]) ?_);simp only [seval,go_sem,rowVn,hZ];(refine CallL.c (point_calls) ?_)))|((with_reducible first|refine TriD.step (by simp only [seval,go_sem,rowVn,hZ];rfl) ?_|refine TriD.step (by simp (disch:=omega) only [seval,go_sem,cnd,intV,shV,convV,strV,rowVn,hZ];rfl) ?_);refine LVs (st:=[]) ?_))|(with_reducible refine ListD.nil ?_)|((with_reducible refine isListD ?_);first|(with_reducible refine ListD.step (by simp only [seval,go_sem,rowVn,hZ];rfl) ?_)|((with_reducible refine isCallV ?_);((with_reducible (refine ListD.dE (by simp only [seval,go_sem,rowVn,hZ];rfl) (by simp only [seval,go_sem,rowVn,hZ];rfl) ?_));refine CallW.c (hgc) (by simp only [seval,go_sem,rowVn,hZ];rfl) ?_))|(with_reducible refine ListD.step (by simp (disch:=omega) only [seval,go_sem,cnd,intV,shV,convV,strV,rowVn,hZ];rfl) ?_))|(with_reducible refine isDrawnN 10 ?_;(try (refine Tri.bx 3 (by simp only [seval,go_sem,rowVn,hZ];rfl) (by simp only [seval,go_sem,rowVn,hZ];fail) (by simp only [seval,go_sem,rowVn,hZ];rfl) ?_));refine Tri.mixedP 10 mix 16 rfl (.f 0 <| .f 1 <| .f 2 <| .f 3 <| .f 4 <| .f 6 <| .f 7 <| .f 8 <| .f 9 <| .f 10 <| .a <| .b 5 (.a <| .b 11 (.a <| .b 12 (.a <| .b 13 (.a <| .b 14 (.f 15 <| .d) .e) .e) .e) .e) <| .b 11 (.a <| .b 5 (.a <| .b 12 (.a <| .b 13 (.a <| .b 14 (.f 15 <| .d) .e) .e) .e) .e) .e) (by kernel_rfl) ?_)|(with_reducible refine isAnyP ?_;first|refine AnyP.D ?_|refine AnyP.F (by simp only [seval,go_sem,l_7,l_6];rfl) (by first|(simp only [seval,go_sem,rowVn,hZ];done)) (by first|(simp only [seval,go_sem,rowVn,hZ];with_reducible rfl)|(simp (disch:=omega) only [seval,go_sem,cnd,intV,shV,convV,strV,rowVn,hZ];with_reducible rfl)) ?_|refine AnyP.A ?_)|(with_reducible first|exact NextsP.E|refine NextsP.B (by simp only [seval,go_sem,l_7,l_6];rfl) ?_ ?_)|(with_reducible refine isDrawn ?_;refine Tri.drawnD mix (by kernel_rfl) (by simp only [l_3,l_4];rfl) ?_)|(with_reducible (refine TVq (st:=[]) ?_))|simp only [seval,go_sem,rowVn,hZ]|(with_reducible refine oV_st (by simp (disch:=omega) only [seval,go_sem,cnd,intV,shV,convV,strV,rowVn,hZ];rfl) ?_)))<;>(try (fail));all_goals (try clear hZ))
       all_goals (try (refine isNextM ((i+1,m+1,a++[vcOf y],y.id,y.v.from_+1)) (by (refine leQL_spec ?_);(try simp only [seval,go_sem,rowVc,vcOf]);first|((repeat' (with_reducible apply And.intro))<;>first|rfl|(simp [rowVc,vcOf];done));done) (by (refine leQH_spec ?_);(try simp only [seval,go_sem,rowVc,vcOf]);first|((repeat' (with_reducible apply And.intro))<;>first|(simp [rowVc,vcOf];done));done) ?_ ?_<;>(try (omega))))
       all_goals (try exact ⟨by simp only;omega,by simp only;omega,by simp only;omega,by simp only [List.length_append,List.length_cons,List.length_nil];omega,hf⟩)
      ·rw [hg,if_pos rfl,bumpV,if_neg hm] at hf
       rw [hg] at hgc
       (all_goals (try have hZ:=(And.intro hy' hm));(repeat' (first|((with_reducible refine isTriD ?_);first|((with_reducible refine isCallD ?_);((with_reducible refine LVcall (st:=[]) ?_);simp only [seval,go_sem,rowVn,hZ];(refine CallL.c (point_calls) ?_)))|((with_reducible first|refine TriD.step (by simp only [seval,go_sem,rowVn,hZ];rfl) ?_|refine TriD.step (by simp (disch:=omega) only [seval,go_sem,cnd,intV,shV,convV,strV,rowVn,hZ];rfl) ?_);refine LVs (st:=[]) ?_))|(with_reducible refine ListD.nil ?_)|((with_reducible refine isListD ?_);first|(with_reducible refine ListD.step (by simp only [seval,go_sem,rowVn,hZ];rfl) ?_)|((with_reducible refine isCallV ?_);((with_reducible (refine ListD.dE (by simp only [seval,go_sem,rowVn,hZ];rfl) (by simp only [seval,go_sem,rowVn,hZ];rfl) ?_));refine CallW.c (hgc) (by simp only [seval,go_sem,rowVn,hZ];rfl) ?_))|(with_reducible refine ListD.step (by simp (disch:=omega) only [seval,go_sem,cnd,intV,shV,convV,strV,rowVn,hZ];rfl) ?_))|(with_reducible refine isDrawnN 10 ?_;(try (refine Tri.bx 3 (by simp only [seval,go_sem,rowVn,hZ];rfl) (by simp only [seval,go_sem,rowVn,hZ];fail) (by simp only [seval,go_sem,rowVn,hZ];rfl) ?_));refine Tri.mixedP 10 mix 16 rfl (.f 0 <| .f 1 <| .f 2 <| .f 3 <| .f 4 <| .f 6 <| .f 7 <| .f 8 <| .f 9 <| .f 10 <| .a <| .b 5 (.a <| .b 11 (.a <| .b 12 (.a <| .b 13 (.a <| .b 14 (.f 15 <| .d) .e) .e) .e) .e) <| .b 11 (.a <| .b 5 (.a <| .b 12 (.a <| .b 13 (.a <| .b 14 (.f 15 <| .d) .e) .e) .e) .e) .e) (by kernel_rfl) ?_)|(with_reducible refine isAnyP ?_;first|refine AnyP.D ?_|refine AnyP.F (by simp only [seval,go_sem,l_7,l_6];rfl) (by first|(simp only [seval,go_sem,rowVn,hZ];done)) (by first|(simp only [seval,go_sem,rowVn,hZ];with_reducible rfl)|(simp (disch:=omega) only [seval,go_sem,cnd,intV,shV,convV,strV,rowVn,hZ];with_reducible rfl)) ?_|refine AnyP.A ?_)|(with_reducible first|exact NextsP.E|refine NextsP.B (by simp only [seval,go_sem,l_7,l_6];rfl) ?_ ?_)|(with_reducible refine isDrawn ?_;refine Tri.drawnD mix (by kernel_rfl) (by simp only [l_3,l_4];rfl) ?_)|(with_reducible (refine TVq (st:=[]) ?_))|simp only [seval,go_sem,rowVn,hZ]|(with_reducible refine oV_st (by simp (disch:=omega) only [seval,go_sem,cnd,intV,shV,convV,strV,rowVn,hZ];rfl) ?_)))<;>(try (fail));all_goals (try clear hZ))
       all_goals (try (refine isNextM ((i+1,m+1,a++[vcOf y],y.id,y.v.from_)) (by (refine leQL_spec ?_);(try simp only [seval,go_sem,rowVc,vcOf]);first|((repeat' (with_reducible apply And.intro))<;>first|rfl|(simp [rowVc,vcOf];done));done) (by (refine leQH_spec ?_);(try simp only [seval,go_sem,rowVc,vcOf]);first|((repeat' (with_reducible apply And.intro))<;>first|(simp [rowVc,vcOf];done));done) ?_ ?_<;>(try (omega))))
       all_goals (try exact ⟨by simp only;omega,by simp only;omega,by simp only;omega,by simp only [List.length_append,List.length_cons,List.length_nil];omega,hf⟩)
      ·rw [hg,if_neg (by decide),bumpV,if_pos hm] at hf
       rw [hg] at hgc
       (all_goals (try have hZ:=(And.intro hy' hm));(repeat' (first|((with_reducible refine isTriD ?_);((with_reducible refine isCallD ?_);((with_reducible refine LVcall (st:=[]) ?_);simp only [seval,go_sem,rowVn,hZ];(refine CallL.c (point_calls) ?_))))|(with_reducible refine ListD.nil ?_)|((with_reducible refine isListD ?_);first|(with_reducible refine ListD.step (by simp only [seval,go_sem,rowVn,hZ];rfl) ?_)|((with_reducible refine isCallV ?_);((with_reducible (refine ListD.dE (by simp only [seval,go_sem,rowVn,hZ];rfl) (by simp only [seval,go_sem,rowVn,hZ];rfl) ?_));refine CallW.c (hgc) (by simp only [seval,go_sem,rowVn,hZ];rfl) ?_))|(with_reducible refine ListD.step (by simp (disch:=omega) only [seval,go_sem,cnd,intV,shV,convV,strV,rowVn,hZ];rfl) ?_))|(with_reducible refine isDrawn ?_;refine Tri.drawnD mix (by kernel_rfl) (by simp only [l_3,l_4];rfl) ?_)|(with_reducible (refine TVq (st:=[]) ?_))|simp only [seval,go_sem,rowVn,hZ]|(with_reducible refine oV_st (by simp (disch:=omega) only [seval,go_sem,cnd,intV,shV,convV,strV,rowVn,hZ];rfl) ?_)))<;>(try (fail));all_goals (try clear hZ))
       all_goals (try (refine isNextM ((i+1,m+1,a,y.id,y.v.from_+1)) (by (refine leQL_spec ?_);(try simp only [seval,go_sem]);first|((repeat' (with_reducible apply And.intro))<;>first|rfl);done) (by (refine leQH_spec ?_);(try simp only [seval,go_sem]);done) ?_ ?_<;>(try (omega))))
       all_goals (try exact ⟨by simp only;omega,by simp only;omega,by simp only;omega,by simp only;omega,hf⟩)
      ·rw [hg,if_neg (by decide),bumpV,if_neg hm] at hf
       rw [hg] at hgc
       (all_goals (try have hZ:=(And.intro hy' hm));(repeat' (first|((with_reducible refine isTriD ?_);((with_reducible refine isCallD ?_);((with_reducible refine LVcall (st:=[]) ?_);simp only [seval,go_sem,rowVn,hZ];(refine CallL.c (point_calls) ?_))))|(with_reducible refine ListD.nil ?_)|((with_reducible refine isListD ?_);first|(with_reducible refine ListD.step (by simp only [seval,go_sem,rowVn,hZ];rfl) ?_)|((with_reducible refine isCallV ?_);((with_reducible (refine ListD.dE (by simp only [seval,go_sem,rowVn,hZ];rfl) (by simp only [seval,go_sem,rowVn,hZ];rfl) ?_));refine CallW.c (hgc) (by simp only [seval,go_sem,rowVn,hZ];rfl) ?_))|(with_reducible refine ListD.step (by simp (disch:=omega) only [seval,go_sem,cnd,intV,shV,convV,strV,rowVn,hZ];rfl) ?_))|(with_reducible refine isDrawn ?_;refine Tri.drawnD mix (by kernel_rfl) (by simp only [l_3,l_4];rfl) ?_)|(with_reducible (refine TVq (st:=[]) ?_))|simp only [seval,go_sem,rowVn,hZ]|(with_reducible refine oV_st (by simp (disch:=omega) only [seval,go_sem,cnd,intV,shV,convV,strV,rowVn,hZ];rfl) ?_)))<;>(try (fail));all_goals (try clear hZ))
       all_goals (try (refine isNextM ((i+1,m+1,a,y.id,y.v.from_)) (by (refine leQL_spec ?_);(try simp only [seval,go_sem]);first|((repeat' (with_reducible apply And.intro))<;>first|rfl);done) (by (refine leQH_spec ?_);(try simp only [seval,go_sem]);done) ?_ ?_<;>(try (omega))))
       all_goals (try exact ⟨by simp only;omega,by simp only;omega,by simp only;omega,by simp only;omega,hf⟩)
     ·rw [if_neg (by omega)] at hf
      simp only [Prod.mk.injEq,Vc.mk.injEq] at hf
      obtain ⟨rfl,⟨rfl,rfl⟩,rfl⟩:=hf
      have hne: ¬ (i:Int)=E.length:=by omega
      have hll:(List.map rowVc a).length=a.length:=List.length_map _
      have htk:(List.map rowVc a).take a.length=List.map rowVc a:=List.take_of_length_le (by omega)
      (all_goals (try have hZ:=(And.intro hll (And.intro htk hne)));(repeat' (first|((with_reducible refine isTriD ?_);((with_reducible first|refine TriD.step (by simp only [seval,go_sem,hZ];rfl) ?_);refine LVs (st:=[]) ?_))|(with_reducible refine isDrawnN 15 ?_;(try (refine Tri.bx 3 (by simp only [seval,go_sem,hZ];rfl) (by simp only [seval,go_sem,hZ];fail) (by simp only [seval,go_sem,hZ];rfl) ?_));refine Tri.mixedP 15 mix 9 rfl (.f 0 <| .f 2 <| .f 3 <| .f 4 <| .f 5 <| .f 6 <| .a <| .b 1 (.a <| .b 7 (.f 8 <| .d) .e) .e) (by kernel_rfl) ?_)|(with_reducible refine isAnyP ?_;first|refine AnyP.D ?_|refine AnyP.F (by simp only [seval,go_sem,l_7,l_6];rfl) (by first|(simp only [seval,go_sem,hZ];done)) (by first|(simp only [seval,go_sem,hZ];with_reducible rfl)|(simp (disch:=omega) only [seval,go_sem,cnd,intV,shV,convV,strV,hZ];with_reducible rfl)) ?_|refine AnyP.A ?_)|(with_reducible first|exact NextsP.E|refine NextsP.B (by simp only [seval,go_sem,l_7,l_6];rfl) ?_ ?_)|(with_reducible refine isRet ?_;(refine RetOK.frz 62 (by simp only [seval,go_sem];rfl) (by simp only [seval,go_sem,hZ];rfl) ?_);(with_reducible refine isRet ?_;refine RetOK.q rfl (by with_unfolding_all (show retD _ _ [.tmp 6,.cell 7 40,.tmp 8]=_);simp only [seval,go_sem];rfl) (by simp only [seval,go_sem];rfl) (by decide) (by simp only [seval,go_sem];rfl) (by simp only [seval,go_sem];rfl) rfl ?_<;>(try simp only [seval,go_sem,hZ])<;>(repeat' (with_reducible apply And.intro))<;>(try rfl)))|(with_reducible (refine TVq (st:=[]) ?_))|simp only [seval,go_sem,hZ]|(with_reducible refine oV_st (by simp (disch:=omega) only [seval,go_sem,cnd,intV,shV,convV,strV,hZ];rfl) ?_)))<;>(try (fail));all_goals (try clear hZ))
    ·rw [List.drop_eq_nil_of_le (by omega),nextR] at hf
     simp only [Prod.mk.injEq,Vc.mk.injEq] at hf
     obtain ⟨rfl,⟨rfl,rfl⟩,rfl⟩:=hf
     have hke:i=E.length:=by omega
     have hll:(List.map rowVc a).length=a.length:=List.length_map _
     have htk:(List.map rowVc a).take a.length=List.map rowVc a:=List.take_of_length_le (by omega)
     subst hke
     by_cases hmc:m<c
     ·(all_goals (try have hZ:=(And.intro hll htk));(repeat' (first|((with_reducible refine isTriD ?_);((with_reducible first|refine TriD.step (by simp only [seval,go_sem,hZ];rfl) ?_);refine LVs (st:=[]) ?_))|(with_reducible refine isDrawnN 15 ?_;(try (refine Tri.bx 3 (by simp only [seval,go_sem,hZ];rfl) (by simp only [seval,go_sem,hZ];fail) (by simp only [seval,go_sem,hZ];rfl) ?_));refine Tri.mixedP 15 mix 9 rfl (.f 0 <| .f 2 <| .f 3 <| .f 4 <| .f 5 <| .f 6 <| .a <| .b 1 (.a <| .b 7 (.f 8 <| .d) .e) .e) (by kernel_rfl) ?_)|(with_reducible refine isAnyP ?_;first|refine AnyP.D ?_|refine AnyP.F (by simp only [seval,go_sem,l_7,l_6];rfl) (by first|(simp only [seval,go_sem,hZ];done)) (by first|(simp only [seval,go_sem,hZ];with_reducible rfl)|(simp (disch:=omega) only [seval,go_sem,cnd,intV,shV,convV,strV,hZ];with_reducible rfl)) ?_|refine AnyP.A ?_)|(with_reducible first|exact NextsP.E|refine NextsP.B (by simp only [seval,go_sem,l_7,l_6];rfl) ?_ ?_)|(with_reducible refine isRet ?_;(refine RetOK.frz 62 (by simp only [seval,go_sem];rfl) (by simp only [seval,go_sem,hZ];rfl) ?_);(with_reducible refine isRet ?_;refine RetOK.q rfl (by with_unfolding_all (show retD _ _ [.tmp 6,.cell 7 40,.tmp 8]=_);simp only [seval,go_sem];rfl) (by simp only [seval,go_sem];rfl) (by decide) (by simp only [seval,go_sem];rfl) (by simp only [seval,go_sem];rfl) rfl ?_<;>(try simp only [seval,go_sem,hZ])<;>(repeat' (with_reducible apply And.intro))<;>(try rfl)))|(with_reducible (refine TVq (st:=[]) ?_))|simp only [seval,go_sem,hZ]|(with_reducible refine oV_st (by simp (disch:=omega) only [seval,go_sem,cnd,intV,shV,convV,strV,hZ];rfl) ?_)))<;>(try (fail));all_goals (try clear hZ))
     ·(all_goals (try have hZ:=(And.intro hll htk));(repeat' (first|((with_reducible refine isTriD ?_);((with_reducible first|refine TriD.step (by simp only [seval,go_sem,hZ];rfl) ?_);refine LVs (st:=[]) ?_))|(with_reducible refine isDrawnN 15 ?_;(try (refine Tri.bx 3 (by simp only [seval,go_sem,hZ];rfl) (by simp only [seval,go_sem,hZ];fail) (by simp only [seval,go_sem,hZ];rfl) ?_));refine Tri.mixedP 15 mix 9 rfl (.f 0 <| .f 2 <| .f 3 <| .f 4 <| .f 5 <| .f 6 <| .a <| .b 1 (.a <| .b 7 (.f 8 <| .d) .e) .e) (by kernel_rfl) ?_)|(with_reducible refine isAnyP ?_;first|refine AnyP.D ?_|refine AnyP.F (by simp only [seval,go_sem,l_7,l_6];rfl) (by first|(simp only [seval,go_sem,hZ];done)) (by first|(simp only [seval,go_sem,hZ];with_reducible rfl)|(simp (disch:=omega) only [seval,go_sem,cnd,intV,shV,convV,strV,hZ];with_reducible rfl)) ?_|refine AnyP.A ?_)|(with_reducible first|exact NextsP.E|refine NextsP.B (by simp only [seval,go_sem,l_7,l_6];rfl) ?_ ?_)|(with_reducible refine isRet ?_;(refine RetOK.frz 62 (by simp only [seval,go_sem];rfl) (by simp only [seval,go_sem,hZ];rfl) ?_);(with_reducible refine isRet ?_;refine RetOK.q rfl (by with_unfolding_all (show retD _ _ [.tmp 6,.cell 7 40,.tmp 8]=_);simp only [seval,go_sem];rfl) (by simp only [seval,go_sem];rfl) (by decide) (by simp only [seval,go_sem];rfl) (by simp only [seval,go_sem];rfl) rfl ?_<;>(try simp only [seval,go_sem,hZ])<;>(repeat' (with_reducible apply And.intro))<;>(try rfl)))|(with_reducible (refine TVq (st:=[]) ?_))|simp only [seval,go_sem,hZ]|(with_reducible refine oV_st (by simp (disch:=omega) only [seval,go_sem,cnd,intV,shV,convV,strV,hZ];rfl) ?_)))<;>(try (fail));all_goals (try clear hZ))
end Go.Proofs.YtmgodadmafcliaaGreat
