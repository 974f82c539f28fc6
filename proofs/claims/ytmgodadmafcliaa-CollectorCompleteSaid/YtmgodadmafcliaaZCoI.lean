/- CollectorComplete: a collection in steps of any size finds exactly the garbage (plain part). -/
import Derived.Test.YtmgodadmafcliaaZDel
set_option linter.unusedSimpArgs false
set_option linter.unusedVariables false
namespace Go.Proofs.Ytmgodadmafcliaa
open Go.RowKit Go.Avm
def lastB:Vc→List Vn→Vc
 | a,[]=>a
 | _,x::l=>lastB (bumpV x) l
theorem lastB_end (z:Vn): ∀ (l:List Vn) (a:Vc),lastB a (l++[z])=bumpV z
 | [],_=>rfl
 | x::l,a=>by rw [List.cons_append,lastB,lastB_end z l]
theorem nextR_spec (p:List Pn): ∀ (l:List Vn) (c:Int) (vs:List Vc) (nx:Vc),0≤c→nextR p l c vs nx=(vs++garbR p (l.take c.toNat),lastB nx (l.take c.toNat),decide ((l.length:Int)≤c))
 | [],c,vs,nx,h=>by simp [nextR,garbR,lastB,h]
 | x::l,c,vs,nx,h=>by
   rw [nextR]
   by_cases hc:0<c
   ·rw [if_pos hc,nextR_spec p l (c-1) _ _ (by omega),show c.toNat=(c-1).toNat+1 by omega,List.take_succ_cons,garbR,lastB]
    have hd:decide ((l.length:Int)≤c-1)=decide (((x::l).length:Int)≤c):=by
     rw [List.length_cons]
     by_cases h1:(l.length:Int)≤c-1
     ·rw [decide_eq_true h1,decide_eq_true (by omega)]
     ·rw [decide_eq_false h1,decide_eq_false (by omega)]
    rw [hd]
    split<;>simp
   ·rw [if_neg hc,show c.toNat=0 by omega,List.take_zero,garbR,lastB,List.append_nil,decide_eq_false (by simp only [List.length_cons];omega)]
theorem skip_split {a:Vc}: ∀ {M Q:List Vn},(∀ y∈M,befP y a=true)→(∀ y∈Q,befP y a=false)→skipR a (M++Q)=Q
 | [],[],_,_=>rfl
 | [],y::Q,_,h=>by rw [List.nil_append,skipR,if_neg (by rw [h y (by simp)];decide)]
 | x::M,Q,h1,h2=>by
   rw [List.cons_append,skipR,if_pos (h1 x (by simp))]
   exact skip_split (fun y hy=>h1 y (by simp [hy])) h2
theorem ascV_of {l:List Vn} (h:l.Pairwise LtV):AscV l:=h.imp fun {a b} hab=>by
 rw [bef_not];unfold LtV at hab;omega
theorem last_bef {M T Q:List Vn} {a:Vc} (hp:(M++(T++Q)).Pairwise LtV) (hf: ∀ y∈M++(T++Q),y.v.from_<9223372036854775807) (hM: ∀ y∈M,befP y a=true) (hQ:T=[]→ ∀ y∈Q,befP y a=false):
  (∀ y∈M++T,befP y (lastB a T)=true)∧ ∀ y∈Q,befP y (lastB a T)=false:=by
 by_cases hT:T=[]
 ·subst hT
  rw [List.append_nil]
  exact ⟨hM,hQ rfl⟩
 ·obtain ⟨T0,z,rfl⟩: ∃ T0 z,T=T0++[z]:=⟨T.dropLast,T.getLast hT,(List.dropLast_concat_getLast hT).symm⟩
  rw [lastB_end]
  have hz:=hf z (by simp)
  obtain ⟨p1,p2,p3⟩:=List.pairwise_append.1 hp
  obtain ⟨q1,q2,q3⟩:=List.pairwise_append.1 p2
  obtain ⟨r1,r2,r3⟩:=List.pairwise_append.1 q1
  unfold bumpV
  rw [if_pos hz]
  refine ⟨fun y hy=>?_,fun y hy=>?_⟩
  ·rw [befP_iff]
   simp only
   have hle:LtV y z∨y=z:=by
    rcases List.mem_append.1 hy with hy|hy
    ·exact .inl (p3 y hy z (by simp))
    ·rcases List.mem_append.1 hy with hy|hy
     ·exact .inl (r3 y hy z (by simp))
     ·exact .inr (List.mem_singleton.1 hy)
   rcases hle with h|rfl
   ·unfold LtV at h;omega
   ·omega
  ·have h:=q3 z (by simp) y hy
   unfold LtV at h
   cases hb:befP y ⟨z.id,z.v.from_+1⟩ with
   | false=>rfl
   | true=>rw [befP_iff] at hb;simp only at hb;omega
/-- What one call of Next answers. -/
theorem next_round {s:Sr} {M Q:List Vn} {a:Vc} {c:Int} (h:SrI s) (hb:SrB 13 s) (he:entsS s=M++Q) (hM: ∀ y∈M,befP y a=true) (hQ: ∀ y∈Q,befP y a=false) (hc:0≤c):
  nextP s.pins a (versR s.objs []) c [] a=(garbR s.pins (Q.take c.toNat),lastB a (Q.take c.toNat),decide ((Q.length:Int)≤c))∧
  (∀ y∈M++Q.take c.toNat,befP y (lastB a (Q.take c.toNat))=true)∧ ∀ y∈Q.drop c.toNat,befP y (lastB a (Q.take c.toNat))=false:=by
 have hpw:=ents_asc h
 have hfr: ∀ y∈entsS s,y.v.from_<9223372036854775807:=fun y hy=>by
  obtain ⟨o,ho,hxo⟩:=List.mem_flatMap.1 hy
  obtain ⟨v,hv,rfl⟩:=List.mem_map.1 hxo
  have h1:=(h.com o ho v hv).1
  have h2:=hb.hc.2
  simp only;omega
 refine ⟨?_,?_⟩
 ·rw [versR_ents h,nextP_eq _ _ _ _ _ _ (ascV_of hpw),he,skip_split hM hQ,nextR_spec _ _ _ _ _ hc,List.nil_append]
 ·have e:M++Q=M++(Q.take c.toNat++Q.drop c.toNat):=by rw [List.take_append_drop]
  rw [he,e] at hpw
  rw [he,e] at hfr
  exact last_bef hpw hfr hM fun _ y hy=>hQ y (List.mem_of_mem_drop hy)
/-- The head of the garbage ahead of Q removed. -/
theorem remove_front {i:Nat} {s:Sr} {R Q:List Vn} {c:Vc} {r:List Vc} (h:SrI s) (hb:SrB i s) (hi:i≤13) (he:entsS s=R++Q) (hg:garbR s.pins R=c::r):
  ∃ s' R',removeR s c.obj c.frm=(s',0)∧SrI s'∧SrB i s'∧s'.pins=s.pins∧entsS s'=R'++Q∧garbR s.pins R'=r∧(∀ y∈R',y∈R)∧(entsS s').length≤(entsS s).length:=by
 obtain ⟨L,x,R2,e,h1,h2,h3,h4⟩:=garbR_split hg
 obtain ⟨s',g1,g2,g3,g4,g5⟩:=remove_one h hb hi (x:=x) (by rw [he,e];simp) h2
 have e2:=g5 L (R2++Q) (by rw [he,e];simp)
 refine ⟨s',L++R2,by rw [h3];exact g1,g2,g3,g4,by rw [e2,List.append_assoc],by rw [garbR_app,h1,h4];rfl,fun y hy=>?_,by rw [e2,he,e];simp⟩
 rw [e]
 simp only [List.mem_append,List.mem_cons] at hy ⊢
 rcases hy with hy|hy
 ·exact .inl hy
 ·exact .inr (.inr hy)
end Go.Proofs.Ytmgodadmafcliaa
