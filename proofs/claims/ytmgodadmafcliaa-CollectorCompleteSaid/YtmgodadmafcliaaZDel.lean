/- Collector: what CollectorComplete needs besides (walks of the reference's Garbage and of the program's Next). -/
import Derived.Test.YtmgodadmafcliaaZAvmP
import Derived.Test.YtmgodadmafcliaaZAvmQ
import Derived.Test.YtmgodadmafcliaaZAvmR
import Derived.Test.YtmgodadmafcliaaZAvmS
import Derived.Test.YtmgodadmafcliaaZAvmT
import Derived.Test.YtmgodadmafcliaaZAvmU
import Derived.Test.YtmgodadmafcliaaZBase
import Derived.Test.YtmgodadmafcliaaZChB
import Derived.Test.YtmgodadmafcliaaZDiA
import Derived.Test.YtmgodadmafcliaaZDiC
import Derived.Test.YtmgodadmafcliaaZAuQ
import Derived.Test.YtmgodadmafcliaaZCoB
import Derived.Test.YtmgodadmafcliaaZCfg
import Derived.Test.YtmgodadmafcliaaZDiD
import Derived.Test.YtmgodadmafcliaaZDiF
import Derived.Test.YtmgodadmafcliaaZDiG
import Derived.Test.YtmgodadmafcliaaZSrA
import Derived.Test.YtmgodadmafcliaaZSrB
import Derived.Test.YtmgodadmafcliaaZPiD
import Derived.Test.YtmgodadmafcliaaZSrC
import Derived.Test.YtmgodadmafcliaaZDiL
import Derived.Test.YtmgodadmafcliaaZCoR
import Derived.Test.YtmgodadmafcliaaZSrE
import Derived.Test.YtmgodadmafcliaaZSrF
import Derived.Test.YtmgodadmafcliaaZSrG
import Derived.Test.YtmgodadmafcliaaZSrI
set_option linter.unusedSimpArgs false
set_option linter.unusedVariables false
namespace Go.Avm
open Go.RowKit
section
variable {P:Program} {ds:List (Option Nat)} {Q:Exit→St→Prop} {σ σ':St} {l:List Oper} {op:Op} {ty ty':TypeId} {pos pos':String} {af af':Array Edge} {i t1 t2 t3:Nat} {b b':Bool}
theorem isAnd2 (t3:Nat) (h:TriD P ds Q (⟨some t2,op,ty,pos,af,some (i,true)⟩::⟨some t3, .pick (.tmp t1) (.tmp t2) (.const (.bool false)),ty',pos',af',none⟩::l) σ):
  TriD P ds Q (⟨some t2,op,ty,pos,af,some (i,true)⟩::⟨some t3, .pick (.tmp t1) (.tmp t2) (.const (.bool false)),ty',pos',af',none⟩::l) σ:=h
theorem TriD.and2 (hs:gslot ds (some (i,true))=some t1) (hb:evl σ (.tmp t1) = .sc (.bool b)) (hne:t1≠t2) (hlt:t2<σ.slots.length) (he:isEff op=false) (ho:aval P σ op=some (.sc (.bool b')))
  (hx:(σ.put (some t2) .any).put (some t3) (.sc (.bool (b&&b')))=σ') (hn:TriD P ds Q l σ'):TriD P ds Q (⟨some t2,op,ty,pos,af,some (i,true)⟩::⟨some t3, .pick (.tmp t1) (.tmp t2) (.const (.bool false)),ty',pos',af',none⟩::l) σ:=by
 subst hx
 have hg:=gslot_some (w:=true) hs hb
 cases b
 ·refine TriD.step (σ':=σ.put (some t2) (.sc undef)) (by simp [bstepC,hg]) (TriD.step (σ':=(σ.put (some t2) (.sc undef)).put (some t3) (.sc (.bool false))) ?_ (TriD.imp impU (by simpa using hn)))
  simp [bstepC,aguardC,isEff,aval,evl_put_ne hne,hb,evl_true,evl_false]
 ·refine TriD.step (σ':=σ.put (some t2) (.sc (.bool b'))) (by simp [bstepC,hg,he,ho]) (TriD.step (σ':=(σ.put (some t2) (.sc (.bool b'))).put (some t3) (.sc (.bool b'))) ?_ (TriD.imp impU (by simpa using hn)))
  simp [bstepC,aguardC,isEff,aval,evl_put_ne hne,hb,evl_put_eq hlt]
variable {ops:Array Oper} {K:St→Prop} {fuel:Nat} {listed:Array Bool}
end
end Go.Avm
namespace Go.Avm
open Go.RowKit
section
variable {P:Program} {st:List Nat} {Q:Exit→St→Prop} {σ:St} {x y c:Code} {id id':Nat} {a:Array Oper} {co:Operand} {N:St→Prop}
theorem TVb (h:TV P st (.block id c) Q σ):Tri P (.block id c) Q σ:=TVs h
theorem TVc (h:TV P st (.cond co x y) Q σ):Tri P (.cond co x y) Q σ:=TVs h
end
end Go.Avm
namespace Go.Proofs.Ytmgodadmafcliaa
open Go.RowKit Go.Avm
theorem call9: ∀ xs w,(callFunc 9 xs).run Try.prog w = .ok (.enter 9 xs) w:=fun _ _=>by kernel_rfl
theorem call25: ∀ xs w,(callFunc 25 xs).run Try.prog w = .ok (.enter 25 xs) w:=fun _ _=>by kernel_rfl
theorem call26: ∀ xs w,(callFunc 26 xs).run Try.prog w = .ok (.enter 26 xs) w:=fun _ _=>by kernel_rfl
theorem call27: ∀ xs w,(callFunc 27 xs).run Try.prog w = .ok (.enter 27 xs) w:=fun _ _=>by kernel_rfl
theorem call62: ∀ xs w,(callFunc 62 xs).run Try.prog w = .ok (.enter 62 xs) w:=fun _ _=>by kernel_rfl
theorem call63: ∀ xs w,(callFunc 63 xs).run Try.prog w = .ok (.enter 63 xs) w:=fun _ _=>by kernel_rfl
theorem call64: ∀ xs w,(callFunc 64 xs).run Try.prog w = .ok (.enter 64 xs) w:=fun _ _=>by kernel_rfl
theorem call100: ∀ xs w,(callFunc 100 xs).run Try.prog w = .ok (.enter 100 xs) w:=fun _ _=>by kernel_rfl
theorem call101: ∀ xs w,(callFunc 101 xs).run Try.prog w = .ok (.enter 101 xs) w:=fun _ _=>by kernel_rfl
end Go.Proofs.Ytmgodadmafcliaa
namespace Go.Proofs.Ytmgodadmafcliaa
open Go.RowKit Go.Avm
theorem befP_iff (x:Vn) (a:Vc):befP x a=true↔(x.id<a.obj∨(x.id=a.obj∧x.v.from_<a.frm)):=by
 simp [befP,ptLt]
theorem nextP_on (p:List Pn) (a:Vc): ∀ (l:List Vn) (c:Int) (vs:List Vc) (nx:Vc),(∀ x∈l,befP x a=false)→nextP p a l c vs nx=nextR p l c vs nx
 | [],_,_,_,_=>rfl
 | x::l,c,vs,nx,h=>by
   rw [nextP,nextR,if_neg (by rw [h x (by simp)];decide)]
   by_cases hc:c≤0
   ·rw [if_pos hc,if_neg (show ¬ 0<c by omega)]
   ·rw [if_neg hc,if_pos (show 0<c by omega)]
    exact nextP_on p a l _ _ _ fun y hy=>h y (by simp [hy])
theorem nextP_eq (p:List Pn) (a:Vc): ∀ (l:List Vn) (c:Int) (vs:List Vc) (nx:Vc),AscV l→nextP p a l c vs nx=nextR p (skipR a l) c vs nx
 | [],_,_,_,_=>rfl
 | x::l,c,vs,nx,h=>by
   have h':=List.pairwise_cons.1 h
   cases hb:befP x a with
   | true=>
     rw [nextP,if_pos hb,skipR,if_pos hb]
     exact nextP_eq p a l c vs nx h'.2
   | false=>
     rw [skipR,if_neg (by rw [hb];decide)]
     refine nextP_on p a (x::l) c vs nx fun y hy=>?_
     rcases List.mem_cons.1 hy with rfl|hy
     ·exact hb
     ·have h1:=h'.1 y hy
      rw [bef_not] at h1
      have h2: ¬ befP x a=true:=by rw [hb];decide
      rw [befP_iff] at h2
      cases h3:befP y a with
      | false=>rfl
      | true=>rw [befP_iff] at h3;omega
end Go.Proofs.Ytmgodadmafcliaa
namespace Go.Proofs.Ytmgodadmafcliaa
open Go.RowKit Go.Avm
set_option maxRecDepth 100000 in set_option maxHeartbeats 3200000 in
theorem rgarb_calls {com f t s:Int} {p od bd pg:List (List D)} {ps:List Pn} (hl:ps.length≤100000):ACalls Try.prog 63 [.agg [.sc (.int .i64 com),.sl 2 od,.sl 4 bd,.sl 2 (ps.map rowP),.sl 3 pg],.agg [.sc (.int .i64 f),.sc (.int .i64 t),.sc (.int .i64 s),.sl 1 p]] (.sc (.bool (!(t==0) && !coversP f t ps))) []:=by
 have hc:=rcovers_calls (f:=f) (t:=t) hl
 generalize coversP f t ps=c at *
 by_cases h:t=0
 ·subst h
  refine of_tri [] [2,3,15] Try.func63 rfl call63 rfl (by decide) (by decide) rfl rfl Try.ntmps63 (by simp (disch:=omega) only [seval,go_sem,cnd,intV,shV,convV,strV,List.replicate,l_2,l_1];rfl) (by simp (disch:=omega) only [seval,go_sem,cnd,intV,shV,convV,strV,l_2,l_1];rfl) ?_
  ((repeat' (first|((with_reducible refine isTriD ?_);((with_reducible first|refine TriD.step (by simp only [seval,go_sem];rfl) ?_);refine LVs (st:=[16]) ?_))|(with_reducible refine isRet ?_;refine RetV (rs:=[.tmp 4]) (by with_unfolding_all rfl) rfl ?_<;>simp only [seval,go_sem]<;>(repeat' (with_reducible apply And.intro))<;>(try rfl))|(with_reducible (refine TVq (st:=[16]) ?_))|simp only [seval,go_sem]|(with_reducible refine oV_st (by simp (disch:=omega) only [seval,go_sem,cnd,intV,shV,convV,strV];rfl) ?_)))<;>(try (fail)))
 ·have e:(t==0)=false:=by simpa using h
  cases c
  all_goals refine of_tri [] [2,3,15] Try.func63 rfl call63 rfl (by decide) (by decide) rfl rfl Try.ntmps63 (by simp (disch:=omega) only [seval,go_sem,cnd,intV,shV,convV,strV,List.replicate,l_2,l_1];rfl) (by simp (disch:=omega) only [seval,go_sem,cnd,intV,shV,convV,strV,l_2,l_1];rfl) ?_
  all_goals ((repeat' (first|((with_reducible refine isTriD ?_);first|((with_reducible refine isCallD ?_);((with_reducible refine LVcall (st:=[16]) ?_);simp only [seval,go_sem,e];(refine CallL.c (hc) ?_)))|((with_reducible first|refine TriD.step (by simp only [seval,go_sem,e];rfl) ?_);refine LVs (st:=[16]) ?_))|(with_reducible refine isRet ?_;refine RetV (rs:=[.tmp 4]) (by with_unfolding_all rfl) rfl ?_<;>simp only [seval,go_sem]<;>(repeat' (with_reducible apply And.intro))<;>(try rfl))|(with_reducible (refine TVq (st:=[16]) ?_))|simp only [seval,go_sem,e]|(with_reducible refine oV_st (by simp (disch:=omega) only [seval,go_sem,cnd,intV,shV,convV,strV,e];rfl) ?_)))<;>(try (fail)))
end Go.Proofs.Ytmgodadmafcliaa
namespace Go.Proofs.Ytmgodadmafcliaa
open Go.RowKit Go.Avm
set_option maxRecDepth 100000 in set_option maxHeartbeats 3200000 in
theorem beforep_calls {i f t s a b:Int} {p:List (List D)}:ACalls Try.prog 64 [.agg [.sc (.int .i64 i), .sc (.int .i64 f), .sc (.int .i64 t), .sc (.int .i64 s), .sl 1 p], .agg [.sc (.int .i64 a), .sc (.int .i64 b)]] (.sc (.bool (ptLt i f a b))) []:=by
 refine of_tri [] [2,3] Try.func64 rfl call64 rfl (by decide) (by decide) rfl rfl Try.ntmps64 (by simp (disch:=omega) only [seval,go_sem,cnd,intV,shV,convV,strV,List.replicate,l_2,l_1];rfl) (by simp (disch:=omega) only [seval,go_sem,cnd,intV,shV,convV,strV,l_2,l_1];rfl) ?_
 ((repeat' (first|(with_reducible refine isCv ?_;intro hc;(try simp only [bls,reduceCtorEq] at hc);(try (exfalso;omega)))|((with_reducible refine isTriD ?_);((with_reducible first|refine TriD.step (by simp only [seval,go_sem];rfl) ?_|refine TriD.step (by simp (disch:=omega) only [seval,go_sem,cnd,intV,shV,convV,strV];rfl) ?_);refine LVs (st:=[22,23]) ?_))|(with_reducible refine isRet ?_;refine RetV (rs:=[.tmp 4]) (by with_unfolding_all rfl) rfl ?_<;>simp only [seval,go_sem]<;>(repeat' (with_reducible apply And.intro))<;>(try rfl))|(with_reducible (refine TVq (st:=[22,23]) ?_))|simp only [seval,go_sem]|(with_reducible first|refine oV_st (by simp (disch:=omega) only [seval,go_sem,cnd,intV,shV,convV,strV];rfl) ?_|refine gV_split (by simp only [seval,go_sem];rfl) (by simp only [seval,go_sem];rfl) (by simp only [seval,go_sem];done) (cvI ?_) (cvI ?_) (by simp only [seval,go_sem]))))<;>(try (fail)))
 all_goals (unfold ptLt;by_cases h1:i<a<;>by_cases h2:i=a<;>by_cases h3:f<b<;>simp_all<;>omega)
set_option maxRecDepth 100000 in set_option maxHeartbeats 12800000 in
theorem next_calls {com c:Int} {os:List Ob} {ps:List Pn} {bd pg:List (List D)} {p:Vc} (ho:os.length≤100000) (hl:(os.flatMap vnsO).length≤19) (hp:ps.length≤100000) (hcr:c≤9223372036854775807) (hfr: ∀ x∈versR os [],-9223372036854775808≤x.v.from_):ACalls Try.prog 26 [.agg [.sc (.int .i64 com),.sl 2 (os.map rowOb),.sl 4 bd,.sl 2 (ps.map rowP),.sl 3 pg],.agg (rowVc p),.sc (.int .i64 c)] (.tup [.sl 2 ((nextP ps p (versR os []) c [] p).1.map rowVc),.agg (rowVc (nextP ps p (versR os []) c [] p).2.1),.sc (.bool (nextP ps p (versR os []) c [] p).2.2)]) []:=by
 have hen:=entries_calls (com:=com) (bd:=bd) (pn:=ps.map rowP) (pg:=pg) ho hl
 have hel:(versR os []).length≤19:=by rw [versR_sortV,sortV_len];simpa using hl
 generalize versR os []=E at *
 generalize hG:nextP ps p E c [] p=G
 obtain ⟨GV,⟨GA,GB⟩,GD⟩:=G
 obtain ⟨pa,pb⟩:=p
 simp only [rowVc]
 refine of_tri [] [3,4,7,10,13,21,31,39,40] Try.func26 rfl call26 rfl (by decide) (by decide) rfl rfl Try.ntmps26 (by simp (disch:=omega) only [seval,go_sem,cnd,intV,shV,convV,strV,List.replicate,l_2,l_1];rfl) (by simp (disch:=omega) only [seval,go_sem,cnd,intV,shV,convV,strV,l_2,l_1];rfl) ?_
 ((repeat' (first|((with_reducible refine isTriD ?_);((with_reducible refine isCallD ?_);((with_reducible refine LVcall (st:=[]) ?_);simp only [seval,go_sem];(refine CallL.c (hen) ?_))))|(with_reducible (refine TVq (st:=[]) ?_))|simp only [seval,go_sem]))<;>(try (fail)))
 all_goals (refine Tri.virt 6 40 2 (by first|(simp only [seval,go_sem];done)) (by first|(simp only [seval,go_sem];done)) (by simp only [seval,go_sem];rfl) ?_)
 all_goals (with_reducible refine Tri.loopU (fun (t:Nat×Int×List Vc×Int×Int)=>[(15,.sc (.int .i64 t.1)),(2,.sc (.int .i64 t.2.1)),(6,.slo 40 2 0 t.2.2.1.length),(8,.any),(10,.any),(16,.any),(17,.any),(18,.any),(19,.any),(20,.any),(21,.any),(22,.any),(23,.any),(24,.any),(25,.any),(26,.any),(27,.any),(28,.any),(29,.any),(30,.any),(31,.any),(32,.any),(33,.any),(34,.any),(35,.any),(36,.any),(37,.any),(38,.any),(39,.any),(40,.any),(41,.any),(42,.any),(43,.any),(44,.any),(45,.any),(46,.any),(47,.any),(48,.any),(49,.any),(50,.any),(51,.any),(52,.any),(53,.any),(54,.any)]) (fun (t:Nat×Int×List Vc×Int×Int)=>[(40,.row 2 (t.2.2.1.map rowVc)),(7,.box [.sc (.int .i64 t.2.2.2.1),.sc (.int .i64 t.2.2.2.2)]),(10,.dead),(21,.dead),(31,.dead),(39,.dead)]) (fun (t:Nat×Int×List Vc×Int×Int)=>t.1≤E.length∧t.2.2.1.length≤t.1∧t.2.1≤c∧(t.2.1<c→0≤t.2.1)∧nextP ps ⟨pa,pb⟩ (E.drop t.1) t.2.1 t.2.2.1 ⟨t.2.2.2.1,t.2.2.2.2⟩=(GV,⟨GA,GB⟩,GD)) (fun (t:Nat×Int×List Vc×Int×Int)=>E.length-t.1) ((0,c,[],pa,pb)) (⟨Nat.zero_le _,by simp,Int.le_refl _,by simp,by simpa using hG⟩) (by intro _;simp (disch:=omega) only [seval,go_sem,cnd,intV,shV,convV,strV];rfl) (by intro _;simp (disch:=omega) only [seval,go_sem,cnd,intV,shV,convV,strV];rfl) (by (refine leQL_spec ?_);(try simp only [seval,go_sem]);done) (by (refine leQH_spec ?_);(try simp only [seval,go_sem]);done) (fun t hI=>?_))
 all_goals
  obtain ⟨k,c2,a,na,nb⟩:=t
  obtain ⟨hk,hal,hc1,hc2,hf⟩:=hI
  simp only at hk hal hc1 hc2 hf
  by_cases hlt:k<E.length
  ·obtain ⟨x,hx⟩:=get_lt hlt
   have hx':=get_map rowVn hx
   have hxf:=hfr x (List.mem_of_getElem? hx)
   have hgc:=garb_calls (com:=com) (f:=x.v.from_) (t:=x.v.to) (s:=x.v.size) (p:=x.v.pages.map rowI) (od:=os.map rowOb) (bd:=bd) (pg:=pg) hp
   rw [show (!(x.v.to==0) && !coversP x.v.from_ x.v.to ps)=garbV ps x.v from rfl] at hgc
   have hbc:=beforep_calls (i:=x.id) (f:=x.v.from_) (t:=x.v.to) (s:=x.v.size) (p:=x.v.pages.map rowI) (a:=pa) (b:=pb)
   rw [show ptLt x.id x.v.from_ pa pb=befP x ⟨pa,pb⟩ from rfl] at hbc
   rw [drop_get hx,nextP] at hf
   cases hb:befP x ⟨pa,pb⟩ with
   | true=>
     rw [if_pos hb] at hf
     rw [hb] at hbc
     ((repeat' (first|((with_reducible refine isTriD ?_);((with_reducible refine isCallD ?_);((with_reducible refine LVcall (st:=[]) ?_);simp only [seval,go_sem,hx',rowVn];(refine CallL.c (hbc) ?_))))|(with_reducible (refine TVq (st:=[]) ?_))|simp only [seval,go_sem,hx',rowVn]|(with_reducible refine oV_st (by simp (disch:=omega) only [seval,go_sem,cnd,intV,shV,convV,strV,hx',rowVn];rfl) ?_)))<;>(try (fail)))
     all_goals (try (refine isNextM ((k+1,c2,a,na,nb)) (by (refine leQL_spec ?_);(try simp only [seval,go_sem]);first|((repeat' (with_reducible apply And.intro))<;>first|rfl);done) (by (refine leQH_spec ?_);(try simp only [seval,go_sem]);done) ?_ ?_<;>(try (omega))))
     all_goals (try exact ⟨by simp only;omega,by simp only;omega,hc1,hc2,hf⟩)
   | false=>
     rw [if_neg (by rw [hb];decide)] at hf
     rw [hb] at hbc
     by_cases hc0:c2≤0
     ·rw [if_pos hc0] at hf
      simp only [Prod.mk.injEq,Vc.mk.injEq] at hf
      obtain ⟨rfl,⟨rfl,rfl⟩,rfl⟩:=hf
      have hll:(List.map rowVc a).length=a.length:=List.length_map _
      have htk:(List.map rowVc a).take a.length=List.map rowVc a:=List.take_of_length_le (by omega)
      (all_goals (try have hZ:=(And.intro hx' (And.intro hll htk)));(repeat' (first|((with_reducible refine isTriD ?_);first|((with_reducible refine isCallD ?_);((with_reducible refine LVcall (st:=[]) ?_);simp only [seval,go_sem,rowVn,hZ];(refine CallL.c (hbc) ?_)))|((with_reducible first|refine TriD.step (by simp only [seval,go_sem,rowVn,hZ];rfl) ?_);refine LVs (st:=[]) ?_))|(with_reducible refine isDrawnN 7 ?_;refine Tri.mixedP 7 mix 5 rfl (.f 0 <| .f 2 <| .a <| .b 1 (.a <| .b 3 (.f 4 <| .d) .e) .e) (by kernel_rfl) ?_)|(with_reducible refine isAnyP ?_;first|refine AnyP.D ?_|refine AnyP.F (by simp only [seval,go_sem,l_7,l_6];rfl) (by first|(simp only [seval,go_sem,rowVn,hZ];done)) (by first|(simp only [seval,go_sem,rowVn,hZ];with_reducible rfl)) ?_|refine AnyP.A ?_)|(with_reducible first|exact NextsP.E|refine NextsP.B (by simp only [seval,go_sem,l_7,l_6];rfl) ?_ ?_)|(with_reducible refine isRet ?_;(refine RetOK.frz 40 (by simp only [seval,go_sem];rfl) (by simp only [seval,go_sem,rowVn,hZ];rfl) ?_);(with_reducible refine isRet ?_;refine RetOK.q rfl (by with_unfolding_all (show retD _ _ [.tmp 6,.cell 7 61,.tmp 8]=_);simp only [seval,go_sem];rfl) (by simp only [seval,go_sem];rfl) (by decide) (by simp only [seval,go_sem];rfl) (by simp only [seval,go_sem];rfl) rfl ?_<;>(try simp only [seval,go_sem,rowVn,hZ])<;>(repeat' (with_reducible apply And.intro))<;>(try rfl)))|(with_reducible (refine TVq (st:=[]) ?_))|simp only [seval,go_sem,rowVn,hZ]|(with_reducible refine oV_st (by simp (disch:=omega) only [seval,go_sem,cnd,intV,shV,convV,strV,rowVn,hZ];rfl) ?_)))<;>(try (fail));all_goals (try clear hZ))
     ·rw [if_neg hc0] at hf
      have hg:garbV ps x.v=true∨garbV ps x.v=false:=by cases garbV ps x.v<;>simp
      have hm:x.v.from_<9223372036854775807∨ ¬ x.v.from_<9223372036854775807:=by omega
      rcases hg with hg|hg<;>rcases hm with hm|hm
      ·rw [hg,if_pos rfl,bumpV,if_pos hm] at hf
       rw [hg] at hgc
       (all_goals (try have hZ:=(And.intro hx' hm));(repeat' (first|((with_reducible refine isTriD ?_);((with_reducible refine isCallD ?_);((with_reducible refine LVcall (st:=[]) ?_);simp only [seval,go_sem,rowVn,hZ];first|(refine CallL.c (hbc) ?_)|(refine CallL.c (hgc) ?_))))|(with_reducible (refine TVq (st:=[]) ?_))|simp only [seval,go_sem,rowVn,hZ]|(with_reducible refine oV_st (by simp (disch:=omega) only [seval,go_sem,cnd,intV,shV,convV,strV,rowVn,hZ];rfl) ?_)))<;>(try (fail));all_goals (try clear hZ))
       all_goals (try (refine isNextM ((k+1,c2-1,a++[vcOf x],x.id,x.v.from_+1)) (by (refine leQL_spec ?_);(try simp only [seval,go_sem,rowVc,vcOf]);first|((repeat' (with_reducible apply And.intro))<;>first|rfl|(simp [rowVc,vcOf];done));done) (by (refine leQH_spec ?_);(try simp only [seval,go_sem,rowVc,vcOf]);first|((repeat' (with_reducible apply And.intro))<;>first|(simp [rowVc,vcOf];done));done) ?_ ?_<;>(try (omega))))
       all_goals (try exact ⟨by simp only;omega,by simp only [List.length_append,List.length_cons,List.length_nil];omega,by simp only;omega,by simp only;omega,hf⟩)
      ·rw [hg,if_pos rfl,bumpV,if_neg hm] at hf
       rw [hg] at hgc
       (all_goals (try have hZ:=(And.intro hx' hm));(repeat' (first|((with_reducible refine isTriD ?_);((with_reducible refine isCallD ?_);((with_reducible refine LVcall (st:=[]) ?_);simp only [seval,go_sem,rowVn,hZ];first|(refine CallL.c (hbc) ?_)|(refine CallL.c (hgc) ?_))))|(with_reducible (refine TVq (st:=[]) ?_))|simp only [seval,go_sem,rowVn,hZ]|(with_reducible refine oV_st (by simp (disch:=omega) only [seval,go_sem,cnd,intV,shV,convV,strV,rowVn,hZ];rfl) ?_)))<;>(try (fail));all_goals (try clear hZ))
       all_goals (try (refine isNextM ((k+1,c2-1,a++[vcOf x],x.id,x.v.from_)) (by (refine leQL_spec ?_);(try simp only [seval,go_sem,rowVc,vcOf]);first|((repeat' (with_reducible apply And.intro))<;>first|rfl|(simp [rowVc,vcOf];done));done) (by (refine leQH_spec ?_);(try simp only [seval,go_sem,rowVc,vcOf]);first|((repeat' (with_reducible apply And.intro))<;>first|(simp [rowVc,vcOf];done));done) ?_ ?_<;>(try (omega))))
       all_goals (try exact ⟨by simp only;omega,by simp only [List.length_append,List.length_cons,List.length_nil];omega,by simp only;omega,by simp only;omega,hf⟩)
      ·rw [hg,if_neg (by decide),bumpV,if_pos hm] at hf
       rw [hg] at hgc
       (all_goals (try have hZ:=(And.intro hx' hm));(repeat' (first|((with_reducible refine isTriD ?_);((with_reducible refine isCallD ?_);((with_reducible refine LVcall (st:=[]) ?_);simp only [seval,go_sem,rowVn,hZ];first|(refine CallL.c (hbc) ?_)|(refine CallL.c (hgc) ?_))))|(with_reducible (refine TVq (st:=[]) ?_))|simp only [seval,go_sem,rowVn,hZ]|(with_reducible refine oV_st (by simp (disch:=omega) only [seval,go_sem,cnd,intV,shV,convV,strV,rowVn,hZ];rfl) ?_)))<;>(try (fail));all_goals (try clear hZ))
       all_goals (try (refine isNextM ((k+1,c2-1,a,x.id,x.v.from_+1)) (by (refine leQL_spec ?_);(try simp only [seval,go_sem]);first|((repeat' (with_reducible apply And.intro))<;>first|rfl);done) (by (refine leQH_spec ?_);(try simp only [seval,go_sem]);done) ?_ ?_<;>(try (omega))))
       all_goals (try exact ⟨by simp only;omega,by simp only;omega,by simp only;omega,by simp only;omega,hf⟩)
      ·rw [hg,if_neg (by decide),bumpV,if_neg hm] at hf
       rw [hg] at hgc
       (all_goals (try have hZ:=(And.intro hx' hm));(repeat' (first|((with_reducible refine isTriD ?_);((with_reducible refine isCallD ?_);((with_reducible refine LVcall (st:=[]) ?_);simp only [seval,go_sem,rowVn,hZ];first|(refine CallL.c (hbc) ?_)|(refine CallL.c (hgc) ?_))))|(with_reducible (refine TVq (st:=[]) ?_))|simp only [seval,go_sem,rowVn,hZ]|(with_reducible refine oV_st (by simp (disch:=omega) only [seval,go_sem,cnd,intV,shV,convV,strV,rowVn,hZ];rfl) ?_)))<;>(try (fail));all_goals (try clear hZ))
       all_goals (try (refine isNextM ((k+1,c2-1,a,x.id,x.v.from_)) (by (refine leQL_spec ?_);(try simp only [seval,go_sem]);first|((repeat' (with_reducible apply And.intro))<;>first|rfl);done) (by (refine leQH_spec ?_);(try simp only [seval,go_sem]);done) ?_ ?_<;>(try (omega))))
       all_goals (try exact ⟨by simp only;omega,by simp only;omega,by simp only;omega,by simp only;omega,hf⟩)
  ·rw [List.drop_eq_nil_of_le (by omega),nextP] at hf
   simp only [Prod.mk.injEq,Vc.mk.injEq] at hf
   obtain ⟨rfl,⟨rfl,rfl⟩,rfl⟩:=hf
   have hll:(List.map rowVc a).length=a.length:=List.length_map _
   have htk:(List.map rowVc a).take a.length=List.map rowVc a:=List.take_of_length_le (by omega)
   (all_goals (try have hZ:=(And.intro hll htk));(repeat' (first|((with_reducible refine isTriD ?_);((with_reducible first|refine TriD.step (by simp only [seval,go_sem,hZ];rfl) ?_);refine LVs (st:=[]) ?_))|(with_reducible refine isDrawnN 15 ?_;refine Tri.mixedP 15 mix 5 rfl (.f 0 <| .f 2 <| .a <| .b 1 (.a <| .b 3 (.f 4 <| .d) .e) .e) (by kernel_rfl) ?_)|(with_reducible refine isAnyP ?_;first|refine AnyP.D ?_|refine AnyP.F (by simp only [seval,go_sem,l_7,l_6];rfl) (by first|(simp only [seval,go_sem,hZ];done)) (by first|(simp only [seval,go_sem,hZ];with_reducible rfl)) ?_|refine AnyP.A ?_)|(with_reducible first|exact NextsP.E|refine NextsP.B (by simp only [seval,go_sem,l_7,l_6];rfl) ?_ ?_)|(with_reducible refine isRet ?_;(refine RetOK.frz 40 (by simp only [seval,go_sem];rfl) (by simp only [seval,go_sem,hZ];rfl) ?_);(with_reducible refine isRet ?_;refine RetOK.q rfl (by with_unfolding_all (show retD _ _ [.tmp 6,.cell 7 61,.tmp 8]=_);simp only [seval,go_sem];rfl) (by simp only [seval,go_sem];rfl) (by decide) (by simp only [seval,go_sem];rfl) (by simp only [seval,go_sem];rfl) rfl ?_<;>(try simp only [seval,go_sem,hZ])<;>(repeat' (with_reducible apply And.intro))<;>(try rfl)))|(with_reducible (refine TVq (st:=[]) ?_))|simp only [seval,go_sem,hZ]|(with_reducible refine oV_st (by simp (disch:=omega) only [seval,go_sem,cnd,intV,shV,convV,strV,hZ];rfl) ?_)))<;>(try (fail));all_goals (try clear hZ))
end Go.Proofs.Ytmgodadmafcliaa
namespace Go.Proofs.Ytmgodadmafcliaa
open Go.RowKit Go.Avm
set_option maxRecDepth 100000 in set_option maxHeartbeats 3200000 in
theorem point_calls {a b c d:Int} {p:List (List D)}:ACalls Try.prog 101 [.agg [.sc (.int .i64 a), .sc (.int .i64 b), .sc (.int .i64 c), .sc (.int .i64 d), .sl 1 p]] (.agg [.sc (.int .i64 a), .sc (.int .i64 b)]) []:=by
 refine of_tri [] [1,2] Try.func101 rfl call101 rfl (by decide) (by decide) rfl rfl Try.ntmps101 (by simp (disch:=omega) only [seval,go_sem,cnd,intV,shV,convV,strV,List.replicate,l_2,l_1];rfl) (by simp (disch:=omega) only [seval,go_sem,cnd,intV,shV,convV,strV,l_2,l_1];rfl) ?_
 ((repeat' (first|(with_reducible refine isRet ?_;refine RetV (rs:=[.cell 2 61]) (by with_unfolding_all rfl) rfl ?_<;>simp only [seval,go_sem]<;>(repeat' (with_reducible apply And.intro))<;>(try rfl))|(with_reducible (refine TVq (st:=[]) ?_))|simp only [seval,go_sem]))<;>(try (fail)))
set_option maxRecDepth 100000 in set_option maxHeartbeats 3200000 in
theorem before_calls {a b c d:Int}:ACalls Try.prog 100 [.agg [.sc (.int .i64 a), .sc (.int .i64 b)], .agg [.sc (.int .i64 c), .sc (.int .i64 d)]] (.sc (.bool (ptLt a b c d))) []:=by
 refine of_tri [] [2,3] Try.func100 rfl call100 rfl (by decide) (by decide) rfl rfl Try.ntmps100 (by simp (disch:=omega) only [seval,go_sem,cnd,intV,shV,convV,strV,List.replicate,l_2,l_1];rfl) (by simp (disch:=omega) only [seval,go_sem,cnd,intV,shV,convV,strV,l_2,l_1];rfl) ?_
 ((repeat' (first|(with_reducible refine isCv ?_;intro hc;(try simp only [bls,reduceCtorEq] at hc);(try (exfalso;omega)))|((with_reducible refine isTriD ?_);((with_reducible first|refine TriD.step (by simp only [seval,go_sem];rfl) ?_|refine TriD.step (by simp (disch:=omega) only [seval,go_sem,cnd,intV,shV,convV,strV];rfl) ?_);refine LVs (st:=[21,22]) ?_))|(with_reducible refine isRet ?_;refine RetV (rs:=[.tmp 4]) (by with_unfolding_all rfl) rfl ?_<;>simp only [seval,go_sem]<;>(repeat' (with_reducible apply And.intro))<;>(try rfl))|(with_reducible (refine TVq (st:=[21,22]) ?_))|simp only [seval,go_sem]|(with_reducible first|refine oV_st (by simp (disch:=omega) only [seval,go_sem,cnd,intV,shV,convV,strV];rfl) ?_|refine gV_split (by simp only [seval,go_sem];rfl) (by simp only [seval,go_sem];rfl) (by simp only [seval,go_sem];done) (cvI ?_) (cvI ?_) (by simp only [seval,go_sem]))))<;>(try (fail)))
 all_goals (unfold ptLt;by_cases h1:a<c<;>by_cases h2:a=c<;>by_cases h3:b<d<;>simp_all<;>omega)
theorem versO_step {id:Int} {l:List Ver} {k:Nat} {v:Ver} {a A:List Vn} (hv:l[k]? = some v) (hf:versO id (l.drop k) a=A):versO id (l.drop (k+1)) (insV ⟨id,v⟩ a)=A:=by
 rw [drop_get hv] at hf;exact hf
theorem versR_step {l:List Ob} {k:Nat} {o:Ob} {a A:List Vn} (ho:l[k]? = some o) (hf:versR (l.drop k) a=A):versR (l.drop (k+1)) (versO o.id o.vers a)=A:=by
 rw [drop_get ho] at hf;exact hf
theorem mul1000 {k:Nat}:1000*(k+1)=1000*k+1000:=by omega
set_option maxRecDepth 100000 in set_option maxHeartbeats 12800000 in
theorem versr_calls {com:Int} {l:List Ob} {bd pn pg:List (List D)} (hl:l.length≤1000) (hv: ∀ o∈l,o.vers.length≤1000):ACalls Try.prog 62 [.agg [.sc (.int .i64 com), .sl 2 (l.map rowOb), .sl 4 bd, .sl 2 pn, .sl 3 pg]] (.sl 5 ((versR l []).map rowVn)) []:=by
 generalize hA:versR l []=A
 refine of_tri [] [1,42,43,54,60,61] Try.func62 rfl call62 rfl (by decide) (by decide) rfl rfl Try.ntmps62 (by simp (disch:=omega) only [seval,go_sem,cnd,intV,shV,convV,strV,List.replicate,l_2,l_1];rfl) (by simp (disch:=omega) only [seval,go_sem,cnd,intV,shV,convV,strV,l_2,l_1];rfl) ?_
 ((repeat' (first|(with_reducible (refine TVq (st:=[]) ?_))|simp only [seval,go_sem]))<;>(try (fail)))
 all_goals (refine Tri.bx 1 (by simp only [seval,go_sem];rfl) (by simp only [seval,go_sem];first|done|rfl) (by simp only [seval,go_sem];rfl) ?_)
 all_goals (refine Tri.virt 3 43 5 (by first|(simp only [seval,go_sem];done)) (by first|(simp only [seval,go_sem];done)) (by simp only [seval,go_sem];rfl) ?_)
 all_goals (with_reducible refine Tri.loopU (fun (t:Nat×List Vn)=>[(4,.sc (.int .i64 t.1)),(3,.slo 43 5 0 t.2.length),(5,.any),(6,.any),(7,.any),(8,.any),(9,.any),(10,.any),(11,.any),(12,.any),(13,.any),(14,.any),(15,.any),(16,.any),(17,.any),(18,.any),(19,.any),(20,.any),(21,.any),(22,.any),(23,.any),(24,.any),(25,.any),(26,.any),(27,.any),(28,.any),(29,.any),(30,.any),(31,.any),(32,.any),(33,.any),(34,.any),(35,.any),(36,.any),(37,.any),(38,.any),(39,.any),(40,.any),(41,.any),(42,.any),(43,.any),(44,.any),(45,.any),(46,.any),(47,.any),(48,.any),(49,.any),(50,.any),(51,.any),(52,.any),(53,.any),(54,.any),(55,.any),(56,.any),(57,.any),(58,.any),(59,.any),(60,.any),(61,.any),(62,.any),(63,.any),(64,.any),(65,.any),(66,.any),(67,.any),(68,.any),(69,.any),(70,.any),(71,.any),(72,.any),(73,.any),(74,.any),(75,.any),(76,.any),(77,.any),(78,.any),(79,.any),(80,.any)]) (fun (t:Nat×List Vn)=>[(43,.row 5 (t.2.map rowVn)),(42,.dead),(54,.dead),(60,.dead),(61,.dead)]) (fun (t:Nat×List Vn)=>t.1≤l.length∧t.2.length≤1000*t.1∧versR (l.drop t.1) t.2=A) (fun (t:Nat×List Vn)=>l.length-t.1) ((0,[])) (⟨Nat.zero_le _,by simp,by simpa using hA⟩) (by intro _;simp (disch:=omega) only [seval,go_sem,cnd,intV,shV,convV,strV];rfl) (by intro _;simp (disch:=omega) only [seval,go_sem,cnd,intV,shV,convV,strV];rfl) (by (refine leQL_spec ?_);(try simp only [seval,go_sem]);done) (by (refine leQH_spec ?_);(try simp only [seval,go_sem]);done) (fun t hI=>?_))
 all_goals
  obtain ⟨k,a⟩:=t
  obtain ⟨hk,hal,hf⟩:=hI
  simp only at hk hal hf
  by_cases hlt:k<l.length
  ·obtain ⟨o,ho⟩:=get_lt hlt
   have ho':=get_map rowOb ho
   have hvl:=hv o (List.mem_of_getElem? ho)
   have h2:=versR_step ho hf
   generalize hB:versO o.id o.vers a=B at h2
   ((repeat' (first|(with_reducible (refine TVq (st:=[]) ?_))|simp only [seval,go_sem,ho',rowOb]|(with_reducible refine oV_st (by simp (disch:=omega) only [seval,go_sem,cnd,intV,shV,convV,strV,ho',rowOb];rfl) ?_)))<;>(try (fail)))
   all_goals (with_reducible refine Tri.loopU (fun (t:Nat×List Vn)=>[(5,.sc (.int .i64 t.1)),(3,.slo 43 5 0 t.2.length),(6,.any),(14,.any),(15,.any),(16,.any),(17,.any),(18,.any),(19,.any),(20,.any),(21,.any),(22,.any),(23,.any),(24,.any),(25,.any),(26,.any),(27,.any),(28,.any),(29,.any),(30,.any),(31,.any),(32,.any),(33,.any),(34,.any),(35,.any),(36,.any),(37,.any),(38,.any),(39,.any),(40,.any),(41,.any),(42,.any),(43,.any),(44,.any),(45,.any),(46,.any),(47,.any),(48,.any),(49,.any),(50,.any),(51,.any),(52,.any),(53,.any),(54,.any),(55,.any),(56,.any),(57,.any),(58,.any),(59,.any),(60,.any),(61,.any),(62,.any),(63,.any),(64,.any),(65,.any),(66,.any),(67,.any),(68,.any),(69,.any),(70,.any),(71,.any),(72,.any),(73,.any),(74,.any),(75,.any),(76,.any),(77,.any),(78,.any),(79,.any),(80,.any)]) (fun (t:Nat×List Vn)=>[(43,.row 5 (t.2.map rowVn)),(42,.dead),(54,.dead),(60,.dead),(61,.dead)]) (fun (t:Nat×List Vn)=>t.1≤o.vers.length∧t.2.length≤1000*k+t.1∧versO o.id (o.vers.drop t.1) t.2=B) (fun (t:Nat×List Vn)=>o.vers.length-t.1) ((0,a)) (⟨Nat.zero_le _,by simpa using hal,by simpa using hB⟩) (by intro _;simp (disch:=omega) only [seval,go_sem,cnd,intV,shV,convV,strV];rfl) (by intro _;simp (disch:=omega) only [seval,go_sem,cnd,intV,shV,convV,strV];rfl) (by (refine leQL_spec ?_);(try simp only [seval,go_sem]);done) (by (refine leQH_spec ?_);(try simp only [seval,go_sem]);done) (fun t hI=>?_))
   all_goals
    obtain ⟨j,a2⟩:=t
    obtain ⟨hj,hal2,hf2⟩:=hI
    simp only at hj hal2 hf2
    by_cases hlt2:j<o.vers.length
    ·obtain ⟨v,hvj⟩:=get_lt hlt2
     have hvj':=get_map rowV hvj
     have h3:=versO_step hvj hf2
     have hk1:=mul1000 (k:=k)
     have hl1:(List.map rowVn a2++[[D.sc (Value.int IntKind.i64 o.id),D.sc (Value.int IntKind.i64 v.from_),D.sc (Value.int IntKind.i64 v.to),D.sc (Value.int IntKind.i64 v.size),D.sl 1 (List.map rowI v.pages)]]).length=a2.length+1:=by simp
     have hen:(List.map rowVn a2++[[D.sc (Value.int IntKind.i64 o.id),D.sc (Value.int IntKind.i64 v.from_),D.sc (Value.int IntKind.i64 v.to),D.sc (Value.int IntKind.i64 v.size),D.sl 1 (List.map rowI v.pages)]])=(insAt a2 a2.length ⟨o.id,v⟩).map rowVn:=by rw [insAt_end];simp [rowVn]
     (all_goals (try have hZ:=(And.intro ho' (And.intro hvj' hl1)));(repeat' (first|((with_reducible refine isTriD ?_);((with_reducible first|refine TriD.step (by simp only [seval,go_sem,rowOb,rowV,hZ];rfl) ?_|refine TriD.step (by simp (disch:=omega) only [seval,go_sem,cnd,intV,shV,convV,strV,rowOb,rowV,hZ];rfl) ?_);refine LVs (st:=[]) ?_))|(with_reducible refine isDrawnN 8 ?_;(try (refine Tri.bx 1 (by simp only [seval,go_sem,rowOb,rowV,hZ];rfl) (by simp only [seval,go_sem,rowOb,rowV,hZ];fail) (by simp only [seval,go_sem,rowOb,rowV,hZ];rfl) ?_));refine Tri.mixedP 8 mix 20 rfl (.f 0 <| .f 1 <| .f 3 <| .f 7 <| .f 9 <| .f 13 <| .r 2 <| .f 4 <| .f 5 <| .r 6 <| .r 8 <| .f 10 <| .f 11 <| .r 12 <| .f 14 <| .r 15 <| .a <| .b 16 (.a <| .b 17 (.a <| .b 18 (.f 19 <| .d) .e) .e) .e) (by kernel_rfl) ?_)|(with_reducible refine isAnyP ?_;first|refine AnyP.D ?_|refine AnyP.F (by simp only [seval,go_sem,l_7,l_6];rfl) (by first|(simp only [seval,go_sem,rowOb,rowV,hZ];done)) (by first|(simp only [seval,go_sem,rowOb,rowV,hZ];with_reducible rfl)|(simp (disch:=omega) only [seval,go_sem,cnd,intV,shV,convV,strV,rowOb,rowV,hZ];with_reducible rfl)) ?_|refine AnyP.R (by simp only [seval,go_sem,l_7,l_6];rfl) (by first|(refine .inl ?_;simp only [seval,go_sem,rowOb,rowV,hZ];done)) (by first|(simp only [seval,go_sem,rowOb,rowV,hZ];with_reducible rfl)) ?_|refine AnyP.A ?_)|(with_reducible first|exact NextsP.E|refine NextsP.B (by simp only [seval,go_sem,l_7,l_6];rfl) ?_ ?_)|(with_reducible (refine TVq (st:=[]) ?_))|simp only [seval,go_sem,rowOb,rowV,hZ]|(with_reducible refine oV_st (by simp (disch:=omega) only [seval,go_sem,cnd,intV,shV,convV,strV,rowOb,rowV,hZ];rfl) ?_)))<;>(try (fail));all_goals (try clear hZ))
     all_goals (with_reducible refine Tri.loopU (fun (j2:Nat)=>[(6,.sc (.int .i64 j2)),(3,.slo 43 5 0 (a2.length+1)),(47,.any),(48,.any),(49,.any),(50,.any),(51,.any),(52,.any),(53,.any),(54,.any),(55,.any),(56,.any),(57,.any),(58,.any),(59,.any),(60,.any),(61,.any),(62,.any),(63,.any),(64,.any),(65,.any),(66,.any),(67,.any),(68,.any),(69,.any),(70,.any),(71,.any),(72,.any),(73,.any),(74,.any),(75,.any),(76,.any),(77,.any),(78,.any),(79,.any),(80,.any)]) (fun (j2:Nat)=>[(43,.row 5 ((insAt a2 j2 ⟨o.id,v⟩).map rowVn)),(54,.dead),(60,.dead),(61,.dead)]) (fun (j2:Nat)=>j2≤a2.length∧stopAt (fun k=>befV ⟨o.id,v⟩ (vnGet a2 k)) j2=stopAt (fun k=>befV ⟨o.id,v⟩ (vnGet a2 k)) a2.length) (fun (j2:Nat)=>j2) (a2.length) (⟨Nat.le_refl _,rfl⟩) (by intro _;simp (disch:=omega) only [seval,go_sem,cnd,intV,shV,convV,strV];rfl) (by intro _;simp (disch:=omega) only [seval,go_sem,cnd,intV,shV,convV,strV];rfl) (by (refine leQL_spec ?_);(try simp only [seval,go_sem,hen]);first|((repeat' (with_reducible apply And.intro))<;>first|omega);done) (by (refine leQH_spec ?_);(try simp only [seval,go_sem,hen]);done) (fun j2 hI=>?_))
     all_goals
      obtain ⟨hj2,hst⟩:=hI
      have hgo: ∀ {R:Prop},(∀ B',stopAt (fun k=>befV ⟨o.id,v⟩ (vnGet a2 k)) a2.length=j2→versO o.id (o.vers.drop (j+1)) (insAt a2 j2 ⟨o.id,v⟩)=B'→B'=B→R)→stopAt (fun k=>befV ⟨o.id,v⟩ (vnGet a2 k)) a2.length=j2→R:=fun r e=>r _ e rfl (by rw [← h3,insV,e])
      have hli:(insAt a2 j2 ⟨o.id,v⟩).length=a2.length+1:=insAt_len hj2
      have hll:((insAt a2 j2 ⟨o.id,v⟩).map rowVn).length=a2.length+1:=by rw [List.length_map];exact hli
      rcases j2 with _|j2
      ·refine hgo (fun B' e1 e2 e3=>?_) (by rw [← hst];rfl)
       subst e3
       ((repeat' (first|(with_reducible refine ListD.nil ?_)|((with_reducible refine isListD ?_);(with_reducible first|refine ListD.step (by simp only [seval,go_sem,hll];rfl) ?_|refine ListD.step (by simp (disch:=omega) only [seval,go_sem,cnd,intV,shV,convV,strV,hll];rfl) ?_))|(with_reducible refine isDrawn ?_;refine Tri.drawnD mix (by kernel_rfl) (by simp only [l_3,l_4];rfl) ?_)|(with_reducible (refine TVq (st:=[]) ?_))|simp only [seval,go_sem,hll]|(with_reducible refine oV_st (by simp (disch:=omega) only [seval,go_sem,cnd,intV,shV,convV,strV,hll];rfl) ?_)))<;>(try (fail)))
       all_goals (try (refine isNextM ((j+1,insAt a2 0 ⟨o.id,v⟩)) (by (refine leQL_spec ?_);(try simp only [seval,go_sem,hli]);first|((repeat' (with_reducible apply And.intro))<;>first|rfl);done) (by (refine leQH_spec ?_);(try simp only [seval,go_sem,hli]);done) ?_ ?_<;>(try (omega))))
       all_goals (try exact ⟨by simp only;omega,by simp only [hli];omega,e2⟩)
      ·obtain ⟨y,hy⟩:=get_lt (show j2<a2.length by omega)
       have g1:=get_map rowVn (insAt_at (x:=⟨o.id,v⟩) hj2)
       have g2:=get_map rowVn ((insAt_pre (x:=⟨o.id,v⟩) hj2).trans hy)
       have hsw:=congrArg (List.map rowVn) (insAt_swap (x:=⟨o.id,v⟩) hy)
       simp only [List.map_set] at hsw
       have ey:vnGet a2 j2=y:=by simp [vnGet,hy]
       rw [stopAt] at hst
       simp only [ey,befV] at hst
       have e1:((j2+1:Nat):Int)-1=j2:=by omega
       simp only [rowVn] at hsw
       generalize hR:insAt a2 (j2+1) ⟨o.id,v⟩=RR at *
       cases hb:ptLt o.id v.from_ y.id y.v.from_ with
       | true=>
         rw [hb,if_pos rfl] at hst
         have g3:((List.map rowVn RR).set (j2+1) (rowVn y))[j2]? = some (rowVn y):=by rw [List.getElem?_set_ne (by omega)];exact g2
         simp only [rowVn] at g3
         ((repeat' (first|((with_reducible refine isTriD ?_);((with_reducible first|refine TriD.step (by simp only [seval,go_sem,g1,g2,g3,rowVn,hb,e1];rfl) ?_);refine LVs (st:=[]) ?_))|(with_reducible refine ListD.nil ?_)|((with_reducible refine isListD ?_);first|(with_reducible refine ListD.step (by simp only [seval,go_sem,g1,g2,g3,rowVn,hb,e1];rfl) ?_)|((with_reducible refine isCallV ?_);((with_reducible (refine ListD.dE (by simp only [seval,go_sem,g1,g2,g3,rowVn,hb,e1];rfl) (by simp only [seval,go_sem,g1,g2,g3,rowVn,hb,e1];rfl) ?_));first|refine CallW.c (point_calls) (by simp only [seval,go_sem,g1,g2,g3,rowVn,hb,e1];rfl) ?_|refine CallW.c (before_calls) (by simp only [seval,go_sem,g1,g2,g3,rowVn,hb,e1];rfl) ?_))|(with_reducible refine ListD.step (by simp (disch:=omega) only [seval,go_sem,cnd,intV,shV,convV,strV,g1,g2,g3,rowVn,hb,e1];rfl) ?_))|(with_reducible refine isDrawnN 12 ?_;(try (refine Tri.bx 1 (by simp only [seval,go_sem,g1,g2,g3,rowVn,hb,e1];rfl) (by simp only [seval,go_sem,g1,g2,g3,rowVn,hb,e1];fail) (by simp only [seval,go_sem,g1,g2,g3,rowVn,hb,e1];rfl) ?_));refine Tri.mixedP 12 mix 18 rfl (.f 0 <| .f 1 <| .f 2 <| .f 3 <| .f 4 <| .f 5 <| .f 6 <| .f 7 <| .f 8 <| .f 10 <| .f 11 <| .f 12 <| .a <| .b 9 (.a <| .b 13 (.f 14 <| .a <| .b 15 (.f 16 <| .a <| .b 17 (.d) .e) .e) .e) <| .b 13 (.a <| .b 9 (.f 14 <| .a <| .b 15 (.f 16 <| .a <| .b 17 (.d) .e) .e) .e) .e) (by kernel_rfl) ?_)|(with_reducible refine isAnyP ?_;first|refine AnyP.D ?_|refine AnyP.F (by simp only [seval,go_sem,l_7,l_6];rfl) (by first|(simp only [seval,go_sem,g1,g2,g3,rowVn,hb,e1];done)) (by first|(simp only [seval,go_sem,g1,g2,g3,rowVn,hb,e1];with_reducible rfl)|(simp (disch:=omega) only [seval,go_sem,cnd,intV,shV,convV,strV,g1,g2,g3,rowVn,hb,e1];with_reducible rfl)) ?_|refine AnyP.A ?_)|(with_reducible first|exact NextsP.E|refine NextsP.B (by simp only [seval,go_sem,l_7,l_6];rfl) ?_ ?_)|(with_reducible refine isDrawn ?_;refine Tri.drawnD mix (by kernel_rfl) (by simp only [l_3,l_4];rfl) ?_)|(with_reducible (refine TVq (st:=[]) ?_))|simp only [seval,go_sem,g1,g2,g3,rowVn,hb,e1]|(with_reducible refine oV_st (by simp (disch:=omega) only [seval,go_sem,cnd,intV,shV,convV,strV,g1,g2,g3,rowVn,hb,e1];rfl) ?_)))<;>(try (fail)))
         all_goals (try (refine isNextM (j2) (by (refine leQL_spec ?_);(try simp only [seval,go_sem,hsw]);done) (by (refine leQH_spec ?_);(try simp only [seval,go_sem,hsw]);done) ?_ ?_<;>(try (omega))))
         all_goals (try exact ⟨by omega,hst⟩)
       | false=>
         rw [hb,if_neg (by decide)] at hst
         refine hgo (fun B' e4 e2 e3=>?_) hst.symm
         subst e3
         (all_goals (try have hZ:=(And.intro hb hll));(repeat' (first|(with_reducible refine ListD.nil ?_)|((with_reducible refine isListD ?_);first|(with_reducible refine ListD.step (by simp only [seval,go_sem,g1,g2,rowVn,e1,hZ];rfl) ?_)|((with_reducible refine isCallV ?_);((with_reducible (refine ListD.dE (by simp only [seval,go_sem,g1,g2,rowVn,e1,hZ];rfl) (by simp only [seval,go_sem,g1,g2,rowVn,e1,hZ];rfl) ?_));first|refine CallW.c (point_calls) (by simp only [seval,go_sem,g1,g2,rowVn,e1,hZ];rfl) ?_|refine CallW.c (before_calls) (by simp only [seval,go_sem,g1,g2,rowVn,e1,hZ];rfl) ?_))|(with_reducible refine ListD.step (by simp (disch:=omega) only [seval,go_sem,cnd,intV,shV,convV,strV,g1,g2,rowVn,e1,hZ];rfl) ?_))|(with_reducible refine isDrawn ?_;refine Tri.drawnD mix (by kernel_rfl) (by simp only [l_3,l_4];rfl) ?_)|(with_reducible (refine TVq (st:=[]) ?_))|simp only [seval,go_sem,g1,g2,rowVn,e1,hZ]|(with_reducible refine oV_st (by simp (disch:=omega) only [seval,go_sem,cnd,intV,shV,convV,strV,g1,g2,rowVn,e1,hZ];rfl) ?_)))<;>(try (fail));all_goals (try clear hZ))
         all_goals (try (refine isNextM ((j+1,RR)) (by (refine leQL_spec ?_);(try simp only [seval,go_sem,hli]);first|((repeat' (with_reducible apply And.intro))<;>first|rfl);done) (by (refine leQH_spec ?_);(try simp only [seval,go_sem,hli]);done) ?_ ?_<;>(try (omega))))
         all_goals (try exact ⟨by simp only;omega,by simp only [hli];omega,e2⟩)
    ·rw [List.drop_eq_nil_of_le (by omega)] at hf2
     have h3:a2=B:=hf2
     subst h3
     ((repeat' (first|(with_reducible (refine TVq (st:=[]) ?_))|simp only [seval,go_sem,ho',rowOb]|(with_reducible refine oV_st (by simp (disch:=omega) only [seval,go_sem,cnd,intV,shV,convV,strV,ho',rowOb];rfl) ?_)))<;>(try (fail)))
     all_goals (try (refine isNextM ((k+1,a2)) (by (refine leQL_spec ?_);(try simp only [seval,go_sem]);first|((repeat' (with_reducible apply And.intro))<;>first|rfl);done) (by (refine leQH_spec ?_);(try simp only [seval,go_sem]);done) ?_ ?_<;>(try (omega))))
     all_goals (try exact ⟨by simp only;omega,by simp only;omega,h2⟩)
  ·rw [List.drop_eq_nil_of_le (by omega)] at hf
   have h3:a=A:=hf
   subst h3
   have hll:(List.map rowVn a).length=a.length:=List.length_map _
   ((repeat' (first|(with_reducible refine isRet ?_;(refine RetOK.frz 43 (by simp only [seval,go_sem];rfl) (by simp only [seval,go_sem,hll];rfl) ?_);(with_reducible refine isRet ?_;refine RetOK.q rfl rfl (by simp only [seval,go_sem];rfl) (by decide) (by simp only [seval,go_sem];rfl) (by simp only [seval,go_sem];rfl) rfl ?_<;>(try simp only [seval,go_sem,hll])<;>(repeat' (with_reducible apply And.intro))<;>(try rfl)))|(with_reducible (refine TVq (st:=[]) ?_))|simp only [seval,go_sem,hll]|(with_reducible refine oV_st (by simp (disch:=omega) only [seval,go_sem,cnd,intV,shV,convV,strV,hll];rfl) ?_)))<;>(try (fail)))
   all_goals (try exact List.take_of_length_le (by rw [hll];omega))
end Go.Proofs.Ytmgodadmafcliaa
namespace Go.Proofs.Ytmgodadmafcliaa
open Go.RowKit Go.Avm
set_option maxRecDepth 100000 in set_option maxHeartbeats 6400000 in
theorem rgarbage_calls {com:Int} {os:List Ob} {ps:List Pn} {bd pg:List (List D)} (ho:os.length≤1000) (hl:(os.flatMap vnsO).length≤1000) (hp:ps.length≤100000):ACalls Try.prog 25 [.agg [.sc (.int .i64 com),.sl 2 (os.map rowOb),.sl 4 bd,.sl 2 (ps.map rowP),.sl 3 pg]] (.sl 2 ((garbR ps (versR os [])).map rowVc)) []:=by
 have hen:=versr_calls (com:=com) (bd:=bd) (pn:=ps.map rowP) (pg:=pg) ho (vers_le hl)
 have hel:(versR os []).length≤1000:=by rw [versR_sortV,sortV_len];simpa using hl
 generalize versR os []=E at *
 generalize hG:garbR ps E=G
 refine of_tri [] [1,7,20,34,35] Try.func25 rfl call25 rfl (by decide) (by decide) rfl rfl Try.ntmps25 (by simp (disch:=omega) only [seval,go_sem,cnd,intV,shV,convV,strV,List.replicate,l_2,l_1];rfl) (by simp (disch:=omega) only [seval,go_sem,cnd,intV,shV,convV,strV,l_2,l_1];rfl) ?_
 ((repeat' (first|((with_reducible refine isTriD ?_);((with_reducible refine isCallD ?_);((with_reducible refine LVcall (st:=[]) ?_);simp only [seval,go_sem];(refine CallL.c (hen) ?_))))|(with_reducible (refine TVq (st:=[]) ?_))|simp only [seval,go_sem]))<;>(try (fail)))
 all_goals (refine Tri.virt 3 35 2 (by first|(simp only [seval,go_sem];done)) (by first|(simp only [seval,go_sem];done)) (by simp only [seval,go_sem];rfl) ?_)
 all_goals (refine Tri.bx 1 (by simp only [seval,go_sem];rfl) (by simp only [seval,go_sem];first|done|rfl) (by simp only [seval,go_sem];rfl) ?_)
 all_goals (with_reducible refine Tri.loopU (fun (t:Nat×List Vc)=>[(5,.sc (.int .i64 t.1)),(3,.slo 35 2 0 t.2.length),(8,.any),(9,.any),(10,.any),(11,.any),(12,.any),(13,.any),(14,.any),(15,.any),(16,.any),(17,.any),(18,.any),(19,.any),(20,.any),(21,.any),(22,.any),(23,.any),(24,.any),(25,.any),(26,.any),(27,.any),(28,.any),(29,.any),(30,.any),(31,.any),(32,.any),(33,.any),(34,.any),(35,.any)]) (fun (t:Nat×List Vc)=>[(35,.row 2 (t.2.map rowVc)),(20,.dead),(34,.dead)]) (fun (t:Nat×List Vc)=>t.1≤E.length∧t.2.length≤t.1∧t.2++garbR ps (E.drop t.1)=G) (fun (t:Nat×List Vc)=>E.length-t.1) ((0,[])) (⟨Nat.zero_le _,by simp,by simpa using hG⟩) (by intro _;simp (disch:=omega) only [seval,go_sem,cnd,intV,shV,convV,strV];rfl) (by intro _;simp (disch:=omega) only [seval,go_sem,cnd,intV,shV,convV,strV];rfl) (by (refine leQL_spec ?_);(try simp only [seval,go_sem]);done) (by (refine leQH_spec ?_);(try simp only [seval,go_sem]);done) (fun t hI=>?_))
 all_goals
  obtain ⟨k,a⟩:=t
  obtain ⟨hk,hal,hf⟩:=hI
  simp only at hk hal hf
  by_cases hlt:k<E.length
  ·obtain ⟨x,hx⟩:=get_lt hlt
   have hx':=get_map rowVn hx
   have hgc:=rgarb_calls (com:=com) (f:=x.v.from_) (t:=x.v.to) (s:=x.v.size) (p:=x.v.pages.map rowI) (od:=os.map rowOb) (bd:=bd) (pg:=pg) hp
   rw [show (!(x.v.to==0) && !coversP x.v.from_ x.v.to ps)=garbV ps x.v from rfl] at hgc
   rw [drop_get hx,garbR] at hf
   cases hg:garbV ps x.v with
   | true=>
     rw [if_pos hg] at hf
     rw [hg] at hgc
     ((repeat' (first|((with_reducible refine isTriD ?_);((with_reducible first|refine TriD.step (by simp only [seval,go_sem,hx',rowVn];rfl) ?_|refine TriD.step (by simp (disch:=omega) only [seval,go_sem,cnd,intV,shV,convV,strV,hx',rowVn];rfl) ?_);refine LVs (st:=[]) ?_))|(with_reducible refine ListD.nil ?_)|((with_reducible refine isListD ?_);first|(with_reducible refine ListD.step (by simp only [seval,go_sem,hx',rowVn];rfl) ?_)|((with_reducible refine isCallV ?_);((with_reducible (refine ListD.dE (by simp only [seval,go_sem,hx',rowVn];rfl) (by simp only [seval,go_sem,hx',rowVn];rfl) ?_));refine CallW.c (hgc) (by simp only [seval,go_sem,hx',rowVn];rfl) ?_))|(with_reducible refine ListD.step (by simp (disch:=omega) only [seval,go_sem,cnd,intV,shV,convV,strV,hx',rowVn];rfl) ?_))|(with_reducible refine isDrawnN 7 ?_;(try (refine Tri.bx 1 (by simp only [seval,go_sem,hx',rowVn];rfl) (by simp only [seval,go_sem,hx',rowVn];fail) (by simp only [seval,go_sem,hx',rowVn];rfl) ?_));refine Tri.mixedP 7 mix 16 rfl (.f 0 <| .f 1 <| .f 2 <| .f 3 <| .f 4 <| .f 6 <| .f 7 <| .f 8 <| .f 9 <| .f 10 <| .a <| .b 5 (.a <| .b 11 (.a <| .b 12 (.a <| .b 13 (.a <| .b 14 (.f 15 <| .d) .e) .e) .e) .e) <| .b 11 (.a <| .b 5 (.a <| .b 12 (.a <| .b 13 (.a <| .b 14 (.f 15 <| .d) .e) .e) .e) .e) .e) (by kernel_rfl) ?_)|(with_reducible refine isAnyP ?_;first|refine AnyP.D ?_|refine AnyP.F (by simp only [seval,go_sem,l_7,l_6];rfl) (by first|(simp only [seval,go_sem,hx',rowVn];done)) (by first|(simp only [seval,go_sem,hx',rowVn];with_reducible rfl)|(simp (disch:=omega) only [seval,go_sem,cnd,intV,shV,convV,strV,hx',rowVn];with_reducible rfl)) ?_|refine AnyP.A ?_)|(with_reducible first|exact NextsP.E|refine NextsP.B (by simp only [seval,go_sem,l_7,l_6];rfl) ?_ ?_)|(with_reducible refine isDrawn ?_;refine Tri.drawnD mix (by kernel_rfl) (by simp only [l_3,l_4];rfl) ?_)|(with_reducible (refine TVq (st:=[]) ?_))|simp only [seval,go_sem,hx',rowVn]|(with_reducible refine oV_st (by simp (disch:=omega) only [seval,go_sem,cnd,intV,shV,convV,strV,hx',rowVn];rfl) ?_)))<;>(try (fail)))
     all_goals (try (refine isNextM ((k+1,a++[vcOf x])) (by (refine leQL_spec ?_);(try simp only [seval,go_sem,rowVc,vcOf]);first|((repeat' (with_reducible apply And.intro))<;>first|rfl|(simp [rowVc,vcOf];done));done) (by (refine leQH_spec ?_);(try simp only [seval,go_sem,rowVc,vcOf]);first|((repeat' (with_reducible apply And.intro))<;>first|(simp [rowVc,vcOf];done));done) ?_ ?_<;>(try (omega))))
     all_goals (try exact ⟨by simp only;omega,by simp only [List.length_append,List.length_cons,List.length_nil];omega,by simp only [List.append_assoc,List.cons_append,List.nil_append];exact hf⟩)
   | false=>
     rw [if_neg (by rw [hg];decide)] at hf
     rw [hg] at hgc
     ((repeat' (first|(with_reducible refine ListD.nil ?_)|((with_reducible refine isListD ?_);first|(with_reducible refine ListD.step (by simp only [seval,go_sem,hx',rowVn];rfl) ?_)|((with_reducible refine isCallV ?_);((with_reducible (refine ListD.dE (by simp only [seval,go_sem,hx',rowVn];rfl) (by simp only [seval,go_sem,hx',rowVn];rfl) ?_));refine CallW.c (hgc) (by simp only [seval,go_sem,hx',rowVn];rfl) ?_))|(with_reducible refine ListD.step (by simp (disch:=omega) only [seval,go_sem,cnd,intV,shV,convV,strV,hx',rowVn];rfl) ?_))|(with_reducible refine isDrawn ?_;refine Tri.drawnD mix (by kernel_rfl) (by simp only [l_3,l_4];rfl) ?_)|(with_reducible (refine TVq (st:=[]) ?_))|simp only [seval,go_sem,hx',rowVn]|(with_reducible refine oV_st (by simp (disch:=omega) only [seval,go_sem,cnd,intV,shV,convV,strV,hx',rowVn];rfl) ?_)))<;>(try (fail)))
     all_goals (try (refine isNextM ((k+1,a)) (by (refine leQL_spec ?_);(try simp only [seval,go_sem]);first|((repeat' (with_reducible apply And.intro))<;>first|rfl);done) (by (refine leQH_spec ?_);(try simp only [seval,go_sem]);done) ?_ ?_<;>(try (omega))))
     all_goals (try exact ⟨by simp only;omega,by simp only;omega,hf⟩)
  ·rw [List.drop_eq_nil_of_le (by omega),garbR,List.append_nil] at hf
   subst hf
   have hll:(List.map rowVc a).length=a.length:=List.length_map _
   have htk:(List.map rowVc a).take a.length=List.map rowVc a:=List.take_of_length_le (by omega)
   (all_goals (try have hZ:=(And.intro hll htk));(repeat' (first|(with_reducible refine isRet ?_;(refine RetOK.frz 35 (by simp only [seval,go_sem];rfl) (by simp only [seval,go_sem,hZ];rfl) ?_);(with_reducible refine isRet ?_;refine RetOK.q rfl rfl (by simp only [seval,go_sem];rfl) (by decide) (by simp only [seval,go_sem];rfl) (by simp only [seval,go_sem];rfl) rfl ?_<;>(try simp only [seval,go_sem,hZ])<;>(repeat' (with_reducible apply And.intro))<;>(try rfl)))|(with_reducible (refine TVq (st:=[]) ?_))|simp only [seval,go_sem,hZ]|(with_reducible refine oV_st (by simp (disch:=omega) only [seval,go_sem,cnd,intV,shV,convV,strV,hZ];rfl) ?_)))<;>(try (fail));all_goals (try clear hZ))
set_option maxRecDepth 100000 in set_option maxHeartbeats 3200000 in
theorem samevc_calls {a b:List Vc} (ha:a.length≤100000):ACalls Try.prog 27 [.sl 2 (a.map rowVc), .sl 2 (b.map rowVc)] (.sc (.bool (decide (a=b)))) []:=by
 by_cases hn:a.length=b.length
 ·generalize hR:decide (a=b)=R
  refine of_tri [] [] Try.func27 rfl call27 rfl (by decide) (by decide) rfl rfl Try.ntmps27 (by simp (disch:=omega) only [seval,go_sem,cnd,intV,shV,convV,strV,List.replicate,l_2,l_1];rfl) (by simp (disch:=omega) only [seval,go_sem,cnd,intV,shV,convV,strV,l_2,l_1];rfl) ?_
  ((repeat' (first|(with_reducible (refine TVq (st:=[]) ?_))|simp only [seval,go_sem,hn]|(with_reducible refine oV_st (by simp (disch:=omega) only [seval,go_sem,cnd,intV,shV,convV,strV,hn];rfl) ?_)))<;>(try (fail)))
  all_goals (with_reducible refine Tri.loopU (fun (k:Nat)=>[(5,.sc (.int .i64 k)),(4,.any),(11,.any),(12,.any),(13,.any),(14,.any),(15,.any),(16,.any),(17,.any),(18,.any),(19,.any),(20,.any),(21,.any),(22,.any),(23,.any),(24,.any),(25,.any)]) (fun (k:Nat)=>[]) (fun (k:Nat)=>k≤a.length∧(decide (a.drop k=b.drop k))=R) (fun (k:Nat)=>a.length-k) (0) (⟨Nat.zero_le _,by simpa using hR⟩) (by intro _;simp (disch:=omega) only [seval,go_sem,cnd,intV,shV,convV,strV];rfl) (by intro _;simp (disch:=omega) only [seval,go_sem,cnd,intV,shV,convV,strV];rfl) (by (refine leQL_spec ?_);(try simp only [seval,go_sem]);done) (by (refine leQH_spec ?_);(try simp only [seval,go_sem]);done) (fun k hI=>?_))
  all_goals obtain ⟨hk,hf⟩:=hI
  by_cases hlt:k<a.length
  ·obtain ⟨x,hx⟩:=get_lt hlt
   obtain ⟨y,hy⟩:=get_lt (show k<b.length by omega)
   have hx':=get_map rowVc hx
   have hy':=get_map rowVc hy
   rw [drop_get hx,drop_get hy] at hf
   obtain ⟨x1,x2⟩:=x
   obtain ⟨y1,y2⟩:=y
   by_cases h1:x1=y1
   ·by_cases h2:x2=y2
    ·subst h1 h2
     have hf2:decide (a.drop (k+1)=b.drop (k+1))=R:=by rw [← hf];simp
     (all_goals (try have hZ:=(And.intro hx' hy'));(repeat' (first|(with_reducible refine ListD.nil ?_)|((with_reducible refine isListD ?_);(with_reducible first|refine ListD.step (by simp only [seval,go_sem,rowVc,hZ];rfl) ?_|refine ListD.step (by simp (disch:=omega) only [seval,go_sem,cnd,intV,shV,convV,strV,rowVc,hZ];rfl) ?_))|(with_reducible refine isDrawn ?_;refine Tri.drawnD mix (by kernel_rfl) (by simp only [l_3,l_4];rfl) ?_)|(with_reducible (refine TVq (st:=[]) ?_))|simp only [seval,go_sem,rowVc,hZ]|(with_reducible refine oV_st (by simp (disch:=omega) only [seval,go_sem,cnd,intV,shV,convV,strV,rowVc,hZ];rfl) ?_)))<;>(try (fail));all_goals (try clear hZ))
     all_goals (try (refine isNextM (k+1) (by (refine leQL_spec ?_);(try simp only [seval,go_sem]);first|((repeat' (with_reducible apply And.intro))<;>first|rfl);done) (by (refine leQH_spec ?_);(try simp only [seval,go_sem]);done) ?_ ?_<;>(try (omega))))
     all_goals (try exact ⟨by omega,hf2⟩)
    ·have hf2:false=R:=by rw [← hf];simp [h2]
     subst hf2
     (all_goals (try have hZ:=(And.intro hx' hy'));(repeat' (first|(with_reducible refine isCv ?_;intro hc;(try simp only [bls,reduceCtorEq] at hc);(try (exfalso;omega)))|(with_reducible refine ListD.nil ?_)|((with_reducible refine isListD ?_);(with_reducible first|refine ListD.step (by simp only [seval,go_sem,rowVc,hZ];rfl) ?_|refine ListD.step (by simp (disch:=omega) only [seval,go_sem,cnd,intV,shV,convV,strV,rowVc,hZ];rfl) ?_))|(with_reducible refine isDrawn ?_;refine Tri.drawnD mix (by kernel_rfl) (by simp only [l_3,l_4];rfl) ?_)|(with_reducible refine isRet ?_;refine RetV (rs:=[.tmp 4]) (by with_unfolding_all rfl) rfl ?_<;>simp only [seval,go_sem]<;>(repeat' (with_reducible apply And.intro))<;>(try rfl))|(with_reducible (refine TVq (st:=[]) ?_))|simp only [seval,go_sem,rowVc,hZ]|(with_reducible first|refine oV_st (by simp (disch:=omega) only [seval,go_sem,cnd,intV,shV,convV,strV,rowVc,hZ];rfl) ?_|refine cV_split (cvI ?_) (cvI ?_))))<;>(try (fail));all_goals (try clear hZ))
   ·have hf2:false=R:=by rw [← hf];simp [h1]
    subst hf2
    (all_goals (try have hZ:=(And.intro hx' hy'));(repeat' (first|(with_reducible refine isCv ?_;intro hc;(try simp only [bls,reduceCtorEq] at hc);(try (exfalso;omega)))|(with_reducible refine ListD.nil ?_)|((with_reducible refine isListD ?_);(with_reducible first|refine ListD.step (by simp only [seval,go_sem,rowVc,hZ];rfl) ?_|refine ListD.step (by simp (disch:=omega) only [seval,go_sem,cnd,intV,shV,convV,strV,rowVc,hZ];rfl) ?_))|(with_reducible refine isDrawn ?_;refine Tri.drawnD mix (by kernel_rfl) (by simp only [l_3,l_4];rfl) ?_)|(with_reducible refine isRet ?_;refine RetV (rs:=[.tmp 4]) (by with_unfolding_all rfl) rfl ?_<;>simp only [seval,go_sem]<;>(repeat' (with_reducible apply And.intro))<;>(try rfl))|(with_reducible (refine TVq (st:=[]) ?_))|simp only [seval,go_sem,rowVc,hZ]|(with_reducible first|refine oV_st (by simp (disch:=omega) only [seval,go_sem,cnd,intV,shV,convV,strV,rowVc,hZ];rfl) ?_|refine cV_split (cvI ?_) (cvI ?_))))<;>(try (fail));all_goals (try clear hZ))
  ·rw [List.drop_eq_nil_of_le (by omega),List.drop_eq_nil_of_le (by omega)] at hf
   have hf2:true=R:=by rw [← hf];simp
   subst hf2
   ((repeat' (first|(with_reducible refine isRet ?_;refine RetV (rs:=[.tmp 4]) (by with_unfolding_all rfl) rfl ?_<;>simp only [seval,go_sem]<;>(repeat' (with_reducible apply And.intro))<;>(try rfl))|(with_reducible (refine TVq (st:=[]) ?_))|simp only [seval,go_sem,hn]|(with_reducible refine oV_st (by simp (disch:=omega) only [seval,go_sem,cnd,intV,shV,convV,strV,hn];rfl) ?_)))<;>(try (fail)))
 ·have e:decide (a=b)=false:=by
   rw [decide_eq_false_iff_not];intro e;subst e;exact hn rfl
  rw [e]
  refine of_tri [] [] Try.func27 rfl call27 rfl (by decide) (by decide) rfl rfl Try.ntmps27 (by simp (disch:=omega) only [seval,go_sem,cnd,intV,shV,convV,strV,List.replicate,l_2,l_1];rfl) (by simp (disch:=omega) only [seval,go_sem,cnd,intV,shV,convV,strV,l_2,l_1];rfl) ?_
  ((repeat' (first|(with_reducible refine isRet ?_;refine RetV (rs:=[.tmp 4]) (by with_unfolding_all rfl) rfl ?_<;>simp only [seval,go_sem]<;>(repeat' (with_reducible apply And.intro))<;>(try rfl))|(with_reducible (refine TVq (st:=[]) ?_))|simp only [seval,go_sem]|(with_reducible refine oV_st (by simp (disch:=omega) only [seval,go_sem,cnd,intV,shV,convV,strV];rfl) ?_)))<;>(try (fail)))
end Go.Proofs.Ytmgodadmafcliaa
